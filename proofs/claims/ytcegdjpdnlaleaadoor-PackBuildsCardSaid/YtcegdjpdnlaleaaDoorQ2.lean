/- Part 2 of what stands behind these statements: laws and walks of the functions that are reached. Conditions: those that each theorem names. -/
import Derived.Test.YtcegdjpdnlaleaaDoorQ1
set_option linter.unusedVariables false
namespace Go.Proofs.YtcegdjpdnlaleaaDoor
open Go.RowKit
namespace Sha
def pad64(l:List UInt32):List UInt32:=l++List.replicate (64-l.length) 0
theorem pad64_length(l:List UInt32)(h:l.length≤64):(pad64 l).length=64:=by simp[pad64];omega
theorem pad64_get(l:List UInt32)(i:Nat):(pad64 l).getD i 0=l.getD i 0:=by
  unfold pad64
  simp only[List.getD_eq_getElem?_getD]
  rw[List.getElem?_append]
  split
  · rfl
  · rename_i h
    rw[List.getElem?_replicate,List.getElem?_eq_none (by omega)]
    split <;> rfl
theorem pad64_set(l:List UInt32)(x:UInt32)(h:l.length<64):(pad64 l).set l.length x=pad64 (l++ [x]):=by
  unfold pad64
  rw[List.set_append_right _ _ (Nat.le_refl _),Nat.sub_self]
  obtain⟨k,hk⟩:∃k,64-l.length=k+1:=⟨64-l.length-1,by omega⟩
  rw[hk,List.replicate_succ,List.set_cons_zero]
  have:64-(l++ [x]).length=k:=by simp;omega
  rw[this]
  simp
theorem pad64_full(l:List UInt32)(h:l.length=64):pad64 l=l:=by simp[pad64,h]
theorem sched_step1(b:List UInt8)(t:Nat)(h:t<16):(pad64 (sched b t)).set t (be4 b t)=pad64 (sched b (t+1)):=by
  have:=pad64_set (sched b t) (be4 b t) (by rw[sched_length];omega)
  rw[sched_length]at this
  rw[this]
  simp[sched,nextW,h]
theorem sched_step2(b:List UInt8)(t:Nat)(h:16≤t)(h2:t<64):(pad64 (sched b t)).set t (high ((pad64 (sched b t)).getD (t-2) 0)+(pad64 (sched b t)).getD (t-7) 0+low ((pad64 (sched b t)).getD (t-15) 0)+(pad64 (sched b t)).getD (t-16) 0)=pad64 (sched b (t+1)):=by
  simp only[pad64_get]
  have:=pad64_set (sched b t) (nextW b (sched b t) t) (by rw[sched_length];omega)
  rw[sched_length]at this
  rw[sched,←this]
  unfold nextW
  rw[if_neg (by omega)]
end Sha
structure Laid (w : World) : Prop where
  first:∃t fr,w.heap[0]? =some (.cells (cellsU Sha.first) t fr)
  words:∃t fr,w.heap[1]? =some (.cells (cellsU Sha.words) t fr)
theorem Laid.keep{w w' :World}(h:Laid w)(k:Ext w w'):Laid w' :=⟨by obtain⟨t,fr,h1⟩:=h.first;exact⟨t,fr,k.blk' h1⟩,by obtain⟨t,fr,h1⟩:=h.words;exact⟨t,fr,k.blk' h1⟩⟩
theorem Laid.two{w:World}(h:Laid w):1<w.heap.size:=by
  obtain⟨t,fr,h1⟩:=h.words
  exact(Array.getElem?_eq_some_iff.1 h1).1
def Sha.adding(v s:List UInt32):Nat→List UInt32
  | 0=>v
  | i+1=>(Sha.adding v s i).set i ((Sha.adding v s i).getD i 0+s.getD i 0)
theorem Sha.adding_length(v s:List UInt32):∀i,(Sha.adding v s i).length=v.length
  | 0=>rfl
  | i+1=>by simp[Sha.adding,Sha.adding_length v s i]
theorem Sha.adding_get(v s:List UInt32)(h:s.length=v.length):∀i j,j<v.length→(Sha.adding v s i).getD j 0=if j<i then v.getD j 0+s.getD j 0 else v.getD j 0
  | 0,j,_=>by simp[Sha.adding]
  | i+1,j,hj=>by
    have ih:=Sha.adding_get v s h i
    unfold Sha.adding
    by_cases hij:i=j
    · subst hij
      have hl:i<(Sha.adding v s i).length:=by rw[Sha.adding_length];exact hj
      rw[List.getD_eq_getElem?_getD,List.getElem?_set_self hl,Option.getD_some,ih i hj,if_neg (Nat.lt_irrefl _),if_pos (Nat.lt_succ_self _)]
    · rw[List.getD_eq_getElem?_getD,List.getElem?_set_ne hij,←List.getD_eq_getElem?_getD,ih j hj]
      by_cases h1:j<i
      · rw[if_pos h1,if_pos (by omega)]
      · rw[if_neg h1,if_neg (by omega)]
theorem Sha.adding_all(v s:List UInt32)(h:s.length=v.length):Sha.adding v s v.length=Sha.added v s:=by
  apply List.ext_getElem (by simp[Sha.adding_length,Sha.added,h])
  intro j h1 h2
  have hj:j<v.length:=by rw[Sha.adding_length]at h1;exact h1
  have:=Sha.adding_get v s h v.length j hj
  rw[if_pos hj]at this
  have hs:j<s.length:=by omega
  simp[List.getD_eq_getElem?_getD,h1,hj,hs]at this
  rw[this]
  simp[Sha.added]

theorem Sha.adding_end{v s:List UInt32}{i:Nat}(h:s.length=8)(hv:v.length=8)(h1:i≤8)(h2:¬i<8):Sha.adding v s i=Sha.added v s:=by
  have:=Sha.adding_all v s (by omega)
  rw[hv]at this
  rw[show i=8 by omega,this]
def E0:List Nat:= [2,6,7,11,13,17,18,19,22,25]
theorem OE(n:Nat)(hn:n∈E0)(t:TypeId):Go.binOp .and t (.int .u64 (IntKind.u64.wrap (-(n:Int)))) (.int .u64 ((31:Nat):Int))=pure (.int .u64 ((32-n:Nat):Int)):=by
  unfold E0 at hn
  simp only[List.mem_cons,List.not_mem_nil,or_false]at hn
  rcases hn with rfl | rfl | rfl | rfl | rfl | rfl | rfl | rfl | rfl | rfl <;> rfl
theorem Ma{n:Nat}(hn:n∈E0):0<n∧n<32:=by
  unfold E0 at hn
  simp only[List.mem_cons,List.not_mem_nil,or_false]at hn
  omega
theorem Yk.negSet{P:Program}{K:Value→World→Prop}{ρ:Aq}{w:World}{d:Option Tmp}{ty:TypeId}{pos:String}{af:Array Edge}{gd:Option (Nat × Bool)}{t:TypeId}{x:Operand}{n:Nat}(hn:n∈E0)(hx:Ad ρ x=NI n)(hk:K (.int .i64 (-(n:Int))) w):Yk P K ((execOp (Ad ρ) ⟨d, .unOp .neg t x,ty,pos,af,gd⟩).run P w):=by
  have h:=Ma hn
  refine Yk.value (v:= .int .i64 (-(n:Int))) (w' :=w) ?_ hk
  have hw:IntKind.i64.wrap (-(n:Int)) = -(n:Int):=by
    simp only[IntKind.wrap,IntKind.bits,IntKind.signed]
    simp
    omega
  unfold execOp
  simp[hx,Op.unary,Op.intArith,hw]
theorem Yk.build8{P:Program}{K:Value→World→Prop}{ρ:Aq}{w:World}{d:Option Tmp}{ty:TypeId}{pos:String}{af:Array Edge}{gd:Option (Nat × Bool)}{t:TypeId}{x0 x1 x2 x3 x4 x5 x6 x7:Operand}{a b c e f g h i v:Value}(h0:Ad ρ x0=a)(h1:Ad ρ x1=b)(h2:Ad ρ x2=c)(h3:Ad ρ x3=e)(h4:Ad ρ x4=f)(h5:Ad ρ x5=g)(h6:Ad ρ x6=h)(h7:Ad ρ x7=i)(hr:∀w:World,(Instr.build t #[(0,a),(1,b),(2,c),(3,e),(4,f),(5,g),(6,h),(7,i)]).run P w = .ok v w)(hk:K v w):Yk P K ((execOp (Ad ρ) ⟨d, .build t #[(0,x0),(1,x1),(2,x2),(3,x3),(4,x4),(5,x5),(6,x6),(7,x7)],ty,pos,af,gd⟩).run P w):=by
  refine Yk.value (v:=v) (w' :=w) ?_ hk
  unfold execOp
  simp only[List.map_toArray,List.map_cons,List.map_nil,h0,h1,h2,h3,h4,h5,h6,h7,Sem.run_bind,hr,Result.andThen_ok,Sem.run_pure]
open Go.RowKit
set_option maxRecDepth 100000
theorem NA:Tryd.prog.underlying 3=some (.int .i64):=by kernel_rfl
theorem Mb:Tryd.prog.underlying 90=some (.int .u64):=by kernel_rfl
theorem Mc:A2 Tryd.prog 90:=fun _ _=>by kernel_rfl
theorem FZ:(Tryd.prog.info? 89).map (·.size)=some 64:=by kernel_rfl
theorem Iz{d:Option Tmp}{ty:TypeId}{pos:String}{af:Array Edge}{gd:Option (Nat × Bool)}(σ:Operand→Value)(w:World):(execOp σ ⟨d, .alloc 89,ty,pos,af,gd⟩).run Tryd.prog w = .ok (.value (PQ w.heap.size 0)) (w.alloc (.cells ((List.replicate 64 0).map fun x=>U x).toArray 89)):=by kernel_rfl
theorem A8:Tryd.prog.underlying 87=some (.int .u32):=by kernel_rfl
theorem CP:Tryd.prog.underlying 89=some (.array 64 87):=by kernel_rfl
theorem A9:∀w' :World,(sizeOf 87).run Tryd.prog w' = .ok 1 w' :=fun _=>by kernel_rfl
theorem F0:(Tryd.prog.info? 87).map (·.size)=some 1:=by kernel_rfl
theorem CQ:A2 Tryd.prog 79:=fun _ _=>by kernel_rfl
theorem DQ:(Tryd.prog.info? 88).map (·.size)=some 8:=by kernel_rfl
theorem IA{d:Option Tmp}{ty:TypeId}{pos:String}{af:Array Edge}{gd:Option (Nat × Bool)}(σ:Operand→Value)(w:World):(execOp σ ⟨d, .alloc 88,ty,pos,af,gd⟩).run Tryd.prog w = .ok (.value (PQ w.heap.size 0)) (w.alloc (.cells ((List.replicate 8 0).map fun x=>U x).toArray 88)):=by kernel_rfl
theorem Bf:Tryd.prog.underlying 88=some (.array 8 87):=by kernel_rfl
theorem Md:A2 Tryd.prog 78:=fun _ _=>by kernel_rfl
theorem NB(a b c d e f g h:UInt32)(w:World):(Instr.build 88 #[(0,U a),(1,U b),(2,U c),(3,U d),(4,U e),(5,U f),(6,U g),(7,U h)]).run Tryd.prog w = .ok (.agg (([a,b,c,d,e,f,g,h]:List UInt32).map fun x=>U x).toArray) w:=by kernel_rfl
set_option maxHeartbeats 1600000
theorem NC(w:World)(x:UInt32)(n:Nat)(hn:n∈E0):
  Calls Tryd.prog 90 #[U x, .int .i64 (-(n:Int))] w fun e w' =>e = .returned (U (Sha.rotr x n))∧Ext w w' :=by
 obtain⟨i,j⟩:=Ma hn
 refine AA (args:= [U (x),(.int .i64 (-(n:Int)))]) Tryd.func90 rfl 17 rfl (Nat.le_of_ble_eq_true rfl) ?_
 intro a hb
 have b:a 0=(U (x):Value):=hb.get 0
 have c:a 1=((.int .i64 (-(n:Int))):Value):=hb.get 1
 clear hb
 have hE:=Ext.refl w
 refine sk fun k f=>(wt (oA rfl (oZ (tN (f _ _ (sk fun l g=>(wt (oM rfl (oS rfl (Yk.convI NA Mb c rfl (oS rfl (Yk.bin (yv:= .int .u64 ((31:Nat):Int)) (vr (.int .u64 (IntKind.u64.wrap (-(n:Int)))) rfl) rfl rfl (OE n hn _) (oA rfl (oZ (tN (g _ _ (sk fun m h=>(wt (oM rfl ?_)))))))))))))))))))
 refine oM rfl (oS rfl (Yk.bin (yv:= .int .u64 ((32-n:Nat):Int)) b (vr (.int .u64 ((32-n:Nat):Int)) rfl) rfl (Fh _ _ _ (32-n) (by omega)) (oM rfl (oM rfl (oS rfl (Yk.bin (xv:= .int .u64 ((32:Nat):Int)) (yv:= .int .u64 ((32-n:Nat):Int)) rfl rfl rfl (KV _ _ _ (by omega) (by omega)) (oS rfl (Yk.bin (yv:= .int .u64 (((32)-(32-n):Nat):Int)) b (vr (.int .u64 (((32)-(32-n):Nat):Int)) rfl) rfl (D5 _ _ _ ((32)-(32-n)) (by omega)) (oS rfl (Yk.bin (vr (U ((x)<<<UInt32.ofNat (32-n))) rfl) (vr (U ((x)>>>UInt32.ofNat ((32)-(32-n)))) rfl) rfl (Gp _ _ _) (oA rfl (oZ (tN (h _ _ (As (Ao (fn:=Tryd.f90) _ rfl [U (((x)<<<UInt32.ofNat (32-n))|||((x)>>>UInt32.ofNat ((32)-(32-n))))] (U (((x)<<<UInt32.ofNat (32-n))|||((x)>>>UInt32.ofNat ((32)-(32-n))))) rfl ⟨rfl,trivial⟩ ?_))))))))))))))))
 refine⟨?_,hE⟩
 unfold Sha.rotr
 rw[show 32-(32-n)=n by omega]

theorem Db(w:World)(x:UInt32)(n:Nat)(hn:n∈E0):
  Calls Tryd.prog 79 #[U x,NI n] w fun e w' =>e = .returned (U (Sha.rotr x n))∧Ext w w' :=by
 refine AA (args:= [U (x),NI n]) Tryd.func79 rfl 9 rfl (Nat.le_of_ble_eq_true rfl) ?_
 intro a hb
 have b:a 0=(U (x):Value):=hb.get 0
 have c:a 1=(NI n:Value):=hb.get 1
 clear hb
 have hE:=Ext.refl w
 refine sk fun i f=>(wt (oA rfl (oZ (tN (f _ _ (sk fun j g=>(wt (oM rfl (oM rfl (oS rfl (Yk.negSet hn c (oS rfl (Yk.callA2 Mc b (vr (.int .i64 (-(n:Int))) rfl) ((NC _ x n hn).mono ?_))))))))))))))
 rintro e k ⟨rfl,h⟩
 refine⟨_,rfl,?_⟩
 have hE:=hE.trans h
 refine oA rfl (oZ (tN (g _ _ (As (Ao (fn:=Tryd.f79) _ rfl [U (Sha.rotr (x) n)] (U (Sha.rotr (x) n)) rfl ⟨rfl,trivial⟩ ?_)))))
 exact⟨rfl,hE⟩

theorem Jz(w:World)(v:Value)(b:List UInt8)(hb:RB w v b)(hl:b.length=64):
  Calls Tryd.prog 78 #[v] w fun e w' =>e = .returned (.agg (cellsU (Sha.sched b 64)))∧Ext w w' :=by
 refine AA (args:= [v]) Tryd.func78 rfl 93 rfl (Nat.le_of_ble_eq_true rfl) ?_
 intro a3 hb
 have k:a3 0=(v:Value):=hb.get 0
 clear hb
 have hE:=Ext.refl w
 refine sk fun K1 a4=>(wt (oS rfl (Yk.alloc (cs:=((List.replicate 64 0).map fun x=>U x).toArray) Iz fun r w3 dt am a5 du=> ?_)))
 have hE:=hE.trans a5
 have c:=am;clear am
 have dv:r<w3.heap.size:=by omega
 refine oZ (tN (a4 _ _ (sk fun dw a6=>(wt (oS rfl (Yk.alloc (cs:=((List.replicate 64 0).map fun x=>U x).toArray) Iz fun m a7 a8 an aj dx=> ?_))))))
 have f:=Ext.refl w3
 have dy:=hE
 have ao:=hE.size
 have dz:=AT (bl c) a8
 have hE:=hE.trans aj
 have c:=eb aj c
 have f:=f.trans aj
 have ap:=an;clear an
 have d0:m<a7.heap.size:=by omega
 refine oZ (tN (a6 _ _ (sk fun d1 a9=>(sk fun d2 ba=>(wt (oM rfl (AH [(0,v),(2,PQ r 0),(3,PQ m 0),(10,NI 0)] ⟨k,rfl,rfl,rfl,trivial⟩ fun d3 ⟨k,n,j,g,_⟩=>(tN (ba _ _ (Aj (AX (fun(ρ:Aq) (wz:World)=>∃t:Nat,ρ 0=(v:Value)∧ρ 2=(PQ r 0:Value)∧ρ 3=(PQ m 0:Value)∧ρ 10=(NI t:Value)∧Ext w wz∧wz.heap[r]? =some (.cells ((List.replicate 64 0).map fun x=>U x).toArray 89 (0,0))∧Ext w3 wz∧wz.heap[m]? =some (.cells ((Sha.pad64 (Sha.sched b t)).map fun x=>U x).toArray 89 (0,0))∧(t≤16)∧True) (fun ρ _=>16-(intOf (ρ 10)).toNat) ⟨0,k,n,j,g,hE,c,f,AZ ap (rfl),by omega,trivial⟩ ?_)))))))))))
 clear ap
 clear hE c f
 rintro bb bc ⟨t,k,n,j,g,hE,c,f,hb21l,ht_t,-⟩
 have q10:=g
 have hpl_t:(Sha.pad64 (Sha.sched b t)).length=64:=Sha.pad64_length _ (by rw[Sha.sched_length];omega)
 obtain⟨Bt,hBt⟩:∃B,B=Sha.pad64 (Sha.sched b t):=⟨_,rfl⟩
 have hb21l:bc.heap[m]? =some (.cells ((Bt).map fun x=>U x).toArray 89 (0,0)):=AZ hb21l (by rw[hBt])
 rw[←hBt]at hpl_t
 refine sk fun d4 bd=>(wt (oS rfl (Yk.eqI (a:=(t:Nat)) (b:=(16:Nat)) g rfl (AN _ _ _ _) (oZ (tN (bd _ _ (sk fun d5 be=> ?_)))))))
 refine AO ((t)<(16)) (vr (.bool (decide ((t)<(16)))) rfl) (fun aq=> ?_) (fun aq=> ?_)
 ·refine Ah (tN (be _ _ (sk fun d6 bf=>(Aj (sk fun d7 bg=>(wt (oM rfl (oA rfl (oZ (tN (bg _ _ ?_)))))))))))
  refine Ff 35 [4,12,21,30] (fun(a_ b_:World)=>b_.heap[m]? =some (.cells (((Bt).set (t) ((((((b.getD ((4)*(t)) 0).toUInt32)<<<24)|||(((b.getD (((4)*(t))+(1)) 0).toUInt32)<<<16))|||(((b.getD (((4)*(t))+(2)) 0).toUInt32)<<<8))|||((b.getD (((4)*(t))+(3)) 0).toUInt32))).map fun x=>U x).toArray 89 (0,0))∧a_.grownBy b_ (some m)∧b_.heap.size=a_.heap.size) [Is (NI t),Is (v),Is (NI t),Is (NI ((4)*(t))),PCell (B8 (b.getD ((4)*(t)) 0)),Is (B8 (b.getD ((4)*(t)) 0)),Is (U ((b.getD ((4)*(t)) 0).toUInt32)),Is (U (((b.getD ((4)*(t)) 0).toUInt32)<<<24)),Is (v),Is (NI t),Is (NI ((4)*(t))),Is (NI (((4)*(t))+(1))),PCell (B8 (b.getD (((4)*(t))+(1)) 0)),Is (B8 (b.getD (((4)*(t))+(1)) 0)),Is (U ((b.getD (((4)*(t))+(1)) 0).toUInt32)),Is (U (((b.getD (((4)*(t))+(1)) 0).toUInt32)<<<16)),Is (U ((((b.getD ((4)*(t)) 0).toUInt32)<<<24)|||(((b.getD (((4)*(t))+(1)) 0).toUInt32)<<<16))),Is (v),Is (NI t),Is (NI ((4)*(t))),Is (NI (((4)*(t))+(2))),PCell (B8 (b.getD (((4)*(t))+(2)) 0)),Is (B8 (b.getD (((4)*(t))+(2)) 0)),Is (U ((b.getD (((4)*(t))+(2)) 0).toUInt32)),Is (U (((b.getD (((4)*(t))+(2)) 0).toUInt32)<<<8)),Is (U (((((b.getD ((4)*(t)) 0).toUInt32)<<<24)|||(((b.getD (((4)*(t))+(1)) 0).toUInt32)<<<16))|||(((b.getD (((4)*(t))+(2)) 0).toUInt32)<<<8))),Is (v),Is (NI t),Is (NI ((4)*(t))),Is (NI (((4)*(t))+(3))),PCell (B8 (b.getD (((4)*(t))+(3)) 0)),Is (B8 (b.getD (((4)*(t))+(3)) 0)),Is (U ((b.getD (((4)*(t))+(3)) 0).toUInt32)),Is (U ((((((b.getD ((4)*(t)) 0).toUInt32)<<<24)|||(((b.getD (((4)*(t))+(1)) 0).toUInt32)<<<16))|||(((b.getD (((4)*(t))+(2)) 0).toUInt32)<<<8))|||((b.getD (((4)*(t))+(3)) 0).toUInt32))),Is (PQ m t),(fun _ _=>True)] (by kernel_rfl) [13,14,15,16,17,18,19,20,21,22,23,24,25,26,27,28,29,30,31,32,33,34,35,36,37,38,39,40,41,42,43,44,45,46,47] (by kernel_rfl) (by kernel_rfl) (by kernel_rfl) (by kernel_rfl) rfl (Gl ⟨Stab.pcell _,(HC ⟨Stab.pcell _,(KS ⟨Stab.pcell _,(KS ⟨Stab.pcell _,(Gl ⟨Stab.any,trivial⟩)⟩)⟩)⟩)⟩) ⟨.inr (Stab.is _), .inr (Stab.is _), .inr (Stab.is _), .inr (Stab.is _), .inl rfl, .inr (Stab.is _), .inr (Stab.is _), .inr (Stab.is _), .inr (Stab.is _), .inr (Stab.is _), .inr (Stab.is _), .inr (Stab.is _), .inl rfl, .inr (Stab.is _), .inr (Stab.is _), .inr (Stab.is _), .inr (Stab.is _), .inr (Stab.is _), .inr (Stab.is _), .inr (Stab.is _), .inr (Stab.is _), .inl rfl, .inr (Stab.is _), .inr (Stab.is _), .inr (Stab.is _), .inr (Stab.is _), .inr (Stab.is _), .inr (Stab.is _), .inr (Stab.is _), .inr (Stab.is _), .inl rfl, .inr (Stab.is _), .inr (Stab.is _), .inr (Stab.is _), .inr (Stab.is _), .inr (Stab.any),trivial⟩ ?bh ?hQ1005
  case bh=>
   refine⟨?_,?_,?_,?_,?_,?_,?_,?_,?_,?_,?_,?_,?_,?_,?_,?_,?_,?_,?_,?_,?_,?_,?_,?_,?_,?_,?_,?_,?_,?_,?_,?_,?_,?_,?_,?_,trivial⟩
   ·refine Aa rfl fun σ w1 hC h=> ?_
    have s:=(Ab (h 4 (by decide))).trans g
    have hC:Ext _ w1:=hC
    exact Yk.move s ⟨Ext.refl _,rfl⟩
   ·refine Aa rfl fun σ w1 hC h=> ?_
    have y:=(Ab (h 0 (by decide))).trans k
    have hC:Ext _ w1:=hC
    exact Yk.move y ⟨Ext.refl _,rfl⟩
   ·refine Aa rfl fun σ w1 hC h=> ?_
    have s:=(Ab (h 4 (by decide))).trans g
    have hC:Ext _ w1:=hC
    exact Yk.move s ⟨Ext.refl _,rfl⟩
   ·refine Aa rfl fun σ w1 hC h=> ?_
    have bi:=Ab (h 15 (by decide))
    have hC:Ext _ w1:=hC
    exact Yk.bin (xv:=NI 4) (yv:=NI t) rfl bi rfl (BG _ _ _ (by omega)) ⟨Ext.refl _,rfl⟩
   ·refine Aa rfl fun σ w1 hC h=> ?_
    have bj:=Ab (h 14 (by decide))
    have bk:=Ab (h 16 (by decide))
    have hC:Ext _ w1:=hC
    exact Yk.atRB (l:=b) (i:=(4)*(t)) DT Ls (RB.of (hb.keep (hE.trans hC)) bj) bk (by omega) fun _ h=>⟨Ext.refl _,h⟩
   ·refine Aa rfl fun σ w1 hC h=> ?_
    have bm:(PCell (B8 (b.getD ((4)*(t)) 0))) (σ 17) w1:=h 17 (by decide)
    have hC:Ext _ w1:=hC
    exact Yk.loadC u5 rfl bm ⟨Ext.refl _,rfl⟩
   ·refine Aa rfl fun σ w1 hC h=> ?_
    have bn:=Ab (h 18 (by decide))
    have hC:Ext _ w1:=hC
    exact Yk.wide u5 A8 bn ⟨Ext.refl _,rfl⟩
   ·refine Aa rfl fun σ w1 hC h=> ?_
    have bo:=Ab (h 19 (by decide))
    have hC:Ext _ w1:=hC
    exact Yk.bin bo (vr (.int .u64 ((24:Nat):Int)) rfl) rfl (Fh _ _ _ 24 (by decide)) ⟨Ext.refl _,rfl⟩
   ·refine Aa rfl fun σ w1 hC h=> ?_
    have y:=(Ab (h 0 (by decide))).trans k
    have hC:Ext _ w1:=hC
    exact Yk.move y ⟨Ext.refl _,rfl⟩
   ·refine Aa rfl fun σ w1 hC h=> ?_
    have s:=(Ab (h 4 (by decide))).trans g
    have hC:Ext _ w1:=hC
    exact Yk.move s ⟨Ext.refl _,rfl⟩
   ·refine Aa rfl fun σ w1 hC h=> ?_
    have bp:=Ab (h 22 (by decide))
    have hC:Ext _ w1:=hC
    exact Yk.bin (xv:=NI 4) (yv:=NI t) rfl bp rfl (BG _ _ _ (by omega)) ⟨Ext.refl _,rfl⟩
   ·refine Aa rfl fun σ w1 hC h=> ?_
    have bq:=Ab (h 23 (by decide))
    have hC:Ext _ w1:=hC
    exact Yk.bin (xv:=NI ((4)*(t))) (yv:=NI 1) bq rfl rfl (Ak _ _ _ (by omega)) ⟨Ext.refl _,rfl⟩
   ·refine Aa rfl fun σ w1 hC h=> ?_
    have br:=Ab (h 21 (by decide))
    have bs:=Ab (h 24 (by decide))
    have hC:Ext _ w1:=hC
    exact Yk.atRB (l:=b) (i:=((4)*(t))+(1)) DT Ls (RB.of (hb.keep (hE.trans hC)) br) bs (by omega) fun _ h=>⟨Ext.refl _,h⟩
   ·refine Aa rfl fun σ w1 hC h=> ?_
    have bt:(PCell (B8 (b.getD (((4)*(t))+(1)) 0))) (σ 25) w1:=h 25 (by decide)
    have hC:Ext _ w1:=hC
    exact Yk.loadC u5 rfl bt ⟨Ext.refl _,rfl⟩
   ·refine Aa rfl fun σ w1 hC h=> ?_
    have bu:=Ab (h 26 (by decide))
    have hC:Ext _ w1:=hC
    exact Yk.wide u5 A8 bu ⟨Ext.refl _,rfl⟩
   ·refine Aa rfl fun σ w1 hC h=> ?_
    have bv:=Ab (h 27 (by decide))
    have hC:Ext _ w1:=hC
    exact Yk.bin bv (vr (.int .u64 ((16:Nat):Int)) rfl) rfl (Fh _ _ _ 16 (by decide)) ⟨Ext.refl _,rfl⟩
   ·refine Aa rfl fun σ w1 hC h=> ?_
    have bw:=Ab (h 20 (by decide))
    have bx:=Ab (h 28 (by decide))
    have hC:Ext _ w1:=hC
    exact Yk.bin bw bx rfl (Gp _ _ _) ⟨Ext.refl _,rfl⟩
   ·refine Aa rfl fun σ w1 hC h=> ?_
    have y:=(Ab (h 0 (by decide))).trans k
    have hC:Ext _ w1:=hC
    exact Yk.move y ⟨Ext.refl _,rfl⟩
   ·refine Aa rfl fun σ w1 hC h=> ?_
    have s:=(Ab (h 4 (by decide))).trans g
    have hC:Ext _ w1:=hC
    exact Yk.move s ⟨Ext.refl _,rfl⟩
   ·refine Aa rfl fun σ w1 hC h=> ?_
    have bz:=Ab (h 31 (by decide))
    have hC:Ext _ w1:=hC
    exact Yk.bin (xv:=NI 4) (yv:=NI t) rfl bz rfl (BG _ _ _ (by omega)) ⟨Ext.refl _,rfl⟩
   ·refine Aa rfl fun σ w1 hC h=> ?_
    have b0:=Ab (h 32 (by decide))
    have hC:Ext _ w1:=hC
    exact Yk.bin (xv:=NI ((4)*(t))) (yv:=NI 2) b0 rfl rfl (Ak _ _ _ (by omega)) ⟨Ext.refl _,rfl⟩
   ·refine Aa rfl fun σ w1 hC h=> ?_
    have b1:=Ab (h 30 (by decide))
    have b2:=Ab (h 33 (by decide))
    have hC:Ext _ w1:=hC
    exact Yk.atRB (l:=b) (i:=((4)*(t))+(2)) DT Ls (RB.of (hb.keep (hE.trans hC)) b1) b2 (by omega) fun _ h=>⟨Ext.refl _,h⟩
   ·refine Aa rfl fun σ w1 hC h=> ?_
    have b3:(PCell (B8 (b.getD (((4)*(t))+(2)) 0))) (σ 34) w1:=h 34 (by decide)
    have hC:Ext _ w1:=hC
    exact Yk.loadC u5 rfl b3 ⟨Ext.refl _,rfl⟩
   ·refine Aa rfl fun σ w1 hC h=> ?_
    have b4:=Ab (h 35 (by decide))
    have hC:Ext _ w1:=hC
    exact Yk.wide u5 A8 b4 ⟨Ext.refl _,rfl⟩
   ·refine Aa rfl fun σ w1 hC h=> ?_
    have b5:=Ab (h 36 (by decide))
    have hC:Ext _ w1:=hC
    exact Yk.bin b5 (vr (.int .u64 ((8:Nat):Int)) rfl) rfl (Fh _ _ _ 8 (by decide)) ⟨Ext.refl _,rfl⟩
   ·refine Aa rfl fun σ w1 hC h=> ?_
    have b6:=Ab (h 29 (by decide))
    have b7:=Ab (h 37 (by decide))
    have hC:Ext _ w1:=hC
    exact Yk.bin b6 b7 rfl (Gp _ _ _) ⟨Ext.refl _,rfl⟩
   ·refine Aa rfl fun σ w1 hC h=> ?_
    have y:=(Ab (h 0 (by decide))).trans k
    have hC:Ext _ w1:=hC
    exact Yk.move y ⟨Ext.refl _,rfl⟩
   ·refine Aa rfl fun σ w1 hC h=> ?_
    have s:=(Ab (h 4 (by decide))).trans g
    have hC:Ext _ w1:=hC
    exact Yk.move s ⟨Ext.refl _,rfl⟩
   ·refine Aa rfl fun σ w1 hC h=> ?_
    have b8:=Ab (h 40 (by decide))
    have hC:Ext _ w1:=hC
    exact Yk.bin (xv:=NI 4) (yv:=NI t) rfl b8 rfl (BG _ _ _ (by omega)) ⟨Ext.refl _,rfl⟩
   ·refine Aa rfl fun σ w1 hC h=> ?_
    have b9:=Ab (h 41 (by decide))
    have hC:Ext _ w1:=hC
    exact Yk.bin (xv:=NI ((4)*(t))) (yv:=NI 3) b9 rfl rfl (Ak _ _ _ (by omega)) ⟨Ext.refl _,rfl⟩
   ·refine Aa rfl fun σ w1 hC h=> ?_
    have ca:=Ab (h 39 (by decide))
    have cb:=Ab (h 42 (by decide))
    have hC:Ext _ w1:=hC
    exact Yk.atRB (l:=b) (i:=((4)*(t))+(3)) DT Ls (RB.of (hb.keep (hE.trans hC)) ca) cb (by omega) fun _ h=>⟨Ext.refl _,h⟩
   ·refine Aa rfl fun σ w1 hC h=> ?_
    have cc:(PCell (B8 (b.getD (((4)*(t))+(3)) 0))) (σ 43) w1:=h 43 (by decide)
    have hC:Ext _ w1:=hC
    exact Yk.loadC u5 rfl cc ⟨Ext.refl _,rfl⟩
   ·refine Aa rfl fun σ w1 hC h=> ?_
    have cd:=Ab (h 44 (by decide))
    have hC:Ext _ w1:=hC
    exact Yk.wide u5 A8 cd ⟨Ext.refl _,rfl⟩
   ·refine Aa rfl fun σ w1 hC h=> ?_
    have ce:=Ab (h 38 (by decide))
    have cf:=Ab (h 45 (by decide))
    have hC:Ext _ w1:=hC
    exact Yk.bin ce cf rfl (Gp _ _ _) ⟨Ext.refl _,rfl⟩
   ·refine Aa rfl fun σ w1 hC h=> ?_
    have p:=(Ab (h 3 (by decide))).trans j
    have cg:=Ab (h 13 (by decide))
    have hC:Ext _ w1:=hC
    exact Yk.atArr0 (i:=t) CP A9 p cg (by omega) ⟨Ext.refl _,rfl⟩
   ·refine Aa rfl fun σ w1 hC h=> ?_
    have ch:=Ab (h 47 (by decide))
    have ci:=Ab (h 46 (by decide))
    have hC:Ext _ w1:=hC
    exact Yk.storeU32 (i:=t) (v:=(((((b.getD ((4)*(t)) 0).toUInt32)<<<24)|||(((b.getD (((4)*(t))+(1)) 0).toUInt32)<<<16))|||(((b.getD (((4)*(t))+(2)) 0).toUInt32)<<<8))|||((b.getD (((4)*(t))+(3)) 0).toUInt32)) ch ci (eb hC hb21l) (by rw[hpl_t];omega) F0 fun w2 h1 h2 h3=>⟨⟨h1,h2,h3⟩,trivial⟩
  intro d8 d9 ck ac cl he hf
  obtain⟨-,-,-,-,-,-,-,-,-,-,-,-,-,-,-,-,-,-,-,-,-,-,-,-,-,-,-,-,-,-,-,-,-,-,-,-⟩:=hf
  obtain⟨k,n,j,T4,g,-⟩:=he.hold [(0,_),(2,_),(3,_),(4,_),(10,_)] ⟨k,n,j,g,g,trivial⟩ rfl
  clear he
  have hE:=hE.trans ac
  have c:=eb ac c
  have f:=f.trans ac
  have hb21l:=eb ac hb21l
  obtain⟨au,ak,ea⟩:=cl
  have hE:=Ac hE ak (Nat.le_trans ao (by omega))
  have c:=kb ak c (by omega)
  have f:=Ac f ak (Nat.le_trans (Nat.le_refl _) (by omega))
  clear hb21l
  have hb21l:=au;clear au
  have ec:=bl hb21l
  have hb21l:ck.heap[m]? =some (.cells ((Sha.pad64 (Sha.sched b (t+1))).map fun x=>U x).toArray 89 (0,0)):=AZ hb21l (congrArg (List.map fun x=>U x) (by rw[hBt];exact Sha.sched_step1 b t aq))
  refine bN (tN (bf _ _ (wt (oS rfl (Yk.bin (xv:=NI t) (yv:=NI 1) g rfl rfl (Ak _ _ _ (by omega)) (oM rfl (AH [(0,v),(2,PQ r 0),(3,PQ m 0),(4,NI t),(10,NI ((t)+(1)))] ⟨k,n,j,T4,rfl,trivial⟩ fun cm ⟨k,n,j,T4,g,_⟩=>(tN (And.intro ⟨t+1,k,n,j,g,hE,c,f,AZ hb21l (rfl),by omega,trivial⟩ ?_)))))))))
  show 16-(intOf (cm 10)).toNat<16-(intOf (bb 10)).toNat
  rw[g,q10]
  simp only[intOf,Int.toNat_natCast];omega
 refine AJ (Ag (Ag (Ap (tN (a9 _ _ (sk fun ed cn=>(sk fun ee co=>(wt (oA rfl (AH [(0,v),(2,PQ r 0),(3,PQ m 0),(5,NI 16),(10,NI t)] ⟨k,n,j,rfl,g,trivial⟩ fun ef ⟨k,n,j,o,g,_⟩=>(tN (co _ _ (Aj (AX (fun(ρ:Aq) (wz:World)=>∃q:Nat,ρ 0=(v:Value)∧ρ 2=(PQ r 0:Value)∧ρ 3=(PQ m 0:Value)∧ρ 10=(NI t:Value)∧ρ 5=(NI q:Value)∧Ext w wz∧wz.heap[r]? =some (.cells ((List.replicate 64 0).map fun x=>U x).toArray 89 (0,0))∧Ext w3 wz∧wz.heap[m]? =some (.cells ((Sha.pad64 (Sha.sched b q)).map fun x=>U x).toArray 89 (0,0))∧(q≤64)∧(16≤q)∧True) (fun ρ _=>64-(intOf (ρ 5)).toNat) ⟨16,k,n,j,g,o,hE,c,f,AZ hb21l (congrArg (List.map fun x=>U x) (by rw[hBt,show t=16 by omega])),by omega,Nat.le_refl _,trivial⟩ ?_))))))))))))))
 clear hb21l
 clear hE c f
 rintro cp av ⟨q,k,n,j,g,o,hE,c,f,hb21ll,ht_q,ht16,-⟩
 have q5:=o
 have hpl_q:(Sha.pad64 (Sha.sched b q)).length=64:=Sha.pad64_length _ (by rw[Sha.sched_length];omega)
 obtain⟨Bq,hBq⟩:∃B,B=Sha.pad64 (Sha.sched b q):=⟨_,rfl⟩
 have hb21ll:av.heap[m]? =some (.cells ((Bq).map fun x=>U x).toArray 89 (0,0)):=AZ hb21ll (by rw[hBq])
 rw[←hBq]at hpl_q
 refine sk fun eg cq=>(sk fun eh cr=>(wt (oM rfl (oS rfl (Yk.eqI (a:=(q:Nat)) (b:=(64:Nat)) o rfl (AN _ _ _ _) (oZ (tN (cr _ _ ?_))))))))
 refine AO ((q)<(64)) (vr (.bool (decide ((q)<(64)))) rfl) (fun aw=> ?_) (fun aw=> ?_)
 ·refine Ah (tN (cq _ _ (sk fun ei ct=>(Aj (sk fun ej cu=> ?_)))))
  refine Be [Is (NI q),Is (NI ((q)-(15))),Is (.pointer (some ⟨m,(q)-(15),none⟩)),Is (U ((Bq).getD ((q)-(15)) 0)),Is (NI q),Is (NI ((q)-(2))),Is (.pointer (some ⟨m,(q)-(2),none⟩)),Is (U ((Bq).getD ((q)-(2)) 0)),Is (U ((Bq).getD ((q)-(15)) 0)),Is (U ((Bq).getD ((q)-(2)) 0))] (by kernel_rfl) [53,54,55,56,57,58,59,60,6,7] (by kernel_rfl) (by kernel_rfl) (Lo trivial) ?cv ?hQ2010
  case cv=>
   refine⟨?_,?_,?_,?_,?_,?_,?_,?_,?_,?_,trivial⟩
   ·refine Aa rfl fun σ w1 hC h=> ?_
    have u:=(Ab (h 5 (by decide))).trans o
    exact Yk.move u ⟨Ext.refl _,rfl⟩
   ·refine Aa rfl fun σ w1 hC h=> ?_
    have cw:=Ab (h 53 (by decide))
    exact Yk.bin (xv:=NI q) (yv:=NI 15) cw rfl rfl (Bj _ _ _ (by omega) (by omega)) ⟨Ext.refl _,rfl⟩
   ·refine Aa rfl fun σ w1 hC h=> ?_
    have p:=(Ab (h 3 (by decide))).trans j
    have cx:=Ab (h 54 (by decide))
    exact Yk.atArr0 (i:=(q)-(15)) CP A9 p cx (by omega) ⟨Ext.refl _,rfl⟩
   ·refine Aa rfl fun σ w1 hC h=> ?_
    have cy:=Ab (h 55 (by decide))
    exact Yk.cell1 A8 rfl cy (Ai (eb hC hb21ll) (AW (i:=(q)-(15)) (by rw[hpl_q];omega))) ⟨Ext.refl _,rfl⟩
   ·refine Aa rfl fun σ w1 hC h=> ?_
    have u:=(Ab (h 5 (by decide))).trans o
    exact Yk.move u ⟨Ext.refl _,rfl⟩
   ·refine Aa rfl fun σ w1 hC h=> ?_
    have cz:=Ab (h 57 (by decide))
    exact Yk.bin (xv:=NI q) (yv:=NI 2) cz rfl rfl (Bj _ _ _ (by omega) (by omega)) ⟨Ext.refl _,rfl⟩
   ·refine Aa rfl fun σ w1 hC h=> ?_
    have p:=(Ab (h 3 (by decide))).trans j
    have c0:=Ab (h 58 (by decide))
    exact Yk.atArr0 (i:=(q)-(2)) CP A9 p c0 (by omega) ⟨Ext.refl _,rfl⟩
   ·refine Aa rfl fun σ w1 hC h=> ?_
    have c1:=Ab (h 59 (by decide))
    exact Yk.cell1 A8 rfl c1 (Ai (eb hC hb21ll) (AW (i:=(q)-(2)) (by rw[hpl_q];omega))) ⟨Ext.refl _,rfl⟩
   ·refine Aa rfl fun σ w1 hC h=> ?_
    have c2:=Ab (h 56 (by decide))
    exact Yk.assign c2 ⟨Ext.refl _,rfl⟩
   ·refine Aa rfl fun σ w1 hC h=> ?_
    have c3:=Ab (h 60 (by decide))
    exact Yk.assign c3 ⟨Ext.refl _,rfl⟩
  intro ax el ad he hf
  obtain⟨-,-,-,-,-,-,-,-,k6,k7,-⟩:=hf
  obtain⟨k,n,j,o,g,-⟩:=he.hold [(0,_),(2,_),(3,_),(5,_),(10,_)] ⟨k,n,j,o,g,trivial⟩ rfl
  clear he
  have hE:=hE.trans ad
  have c:=eb ad c
  have f:=f.trans ad
  have hb21ll:=eb ad hb21ll
  have z:ax 6=U ((Bq).getD ((q)-(15)) 0):=k6
  have T7:ax 7=U ((Bq).getD ((q)-(2)) 0):=k7
  clear k6 k7
  refine tN (cu _ _ (sk fun em c4=>(wt (oM rfl (oS rfl (Yk.callA2 CQ z (vr (NI 7) rfl) ((Db _ ((Bq).getD ((q)-(15)) 0) 7 (by decide)).mono ?_)))))))
  rintro e en ⟨rfl,ae⟩
  refine⟨_,rfl,?_⟩
  have hE:=hE.trans ae
  have c:=eb ae c
  have f:=f.trans ae
  have hb21ll:=eb ae hb21ll
  refine oM rfl (oS rfl (Yk.callA2 CQ z (vr (NI 18) rfl) ((Db _ ((Bq).getD ((q)-(15)) 0) 18 (by decide)).mono ?_)))
  rintro e eo ⟨rfl,af⟩
  refine⟨_,rfl,?_⟩
  have hE:=hE.trans af
  have c:=eb af c
  have f:=f.trans af
  have hb21ll:=eb af hb21ll
  refine oS rfl (Yk.bin (vr (U (Sha.rotr ((Bq).getD ((q)-(15)) 0) 7)) rfl) (vr (U (Sha.rotr ((Bq).getD ((q)-(15)) 0) 18)) rfl) rfl (Cu _ _ _) (oM rfl (oS rfl (Yk.bin z (vr (.int .u64 ((3:Nat):Int)) rfl) rfl (D5 _ _ _ 3 (by decide)) (oS rfl (Yk.bin (vr (U ((Sha.rotr ((Bq).getD ((q)-(15)) 0) 7)^^^(Sha.rotr ((Bq).getD ((q)-(15)) 0) 18))) rfl) (vr (U (((Bq).getD ((q)-(15)) 0)>>>3)) rfl) rfl (Cu _ _ _) (oA rfl (oZ (tN (c4 _ _ (sk fun ep c5=>(wt (oM rfl (oS rfl (Yk.callA2 CQ T7 (vr (NI 17) rfl) ((Db _ ((Bq).getD ((q)-(2)) 0) 17 (by decide)).mono ?_))))))))))))))))
  rintro e eq ⟨rfl,ag⟩
  refine⟨_,rfl,?_⟩
  have hE:=hE.trans ag
  have c:=eb ag c
  have f:=f.trans ag
  have hb21ll:=eb ag hb21ll
  refine oM rfl (oS rfl (Yk.callA2 CQ T7 (vr (NI 19) rfl) ((Db _ ((Bq).getD ((q)-(2)) 0) 19 (by decide)).mono ?_)))
  rintro e er ⟨rfl,ah⟩
  refine⟨_,rfl,?_⟩
  have hE:=hE.trans ah
  have c:=eb ah c
  have f:=f.trans ah
  have hb21ll:=eb ah hb21ll
  refine oS rfl (Yk.bin (vr (U (Sha.rotr ((Bq).getD ((q)-(2)) 0) 17)) rfl) (vr (U (Sha.rotr ((Bq).getD ((q)-(2)) 0) 19)) rfl) rfl (Cu _ _ _) (oM rfl (oS rfl (Yk.bin T7 (vr (.int .u64 ((10:Nat):Int)) rfl) rfl (D5 _ _ _ 10 (by decide)) (oS rfl (Yk.bin (vr (U ((Sha.rotr ((Bq).getD ((q)-(2)) 0) 17)^^^(Sha.rotr ((Bq).getD ((q)-(2)) 0) 19))) rfl) (vr (U (((Bq).getD ((q)-(2)) 0)>>>10)) rfl) rfl (Cu _ _ _) (oA rfl (oZ (tN (c5 _ _ ?_))))))))))
  refine Dg 15 (fun(a_ b_:World)=>b_.heap[m]? =some (.cells (((Bq).set (q) ((((Sha.high ((Bq).getD ((q)-(2)) 0))+((Bq).getD ((q)-(7)) 0))+(Sha.low ((Bq).getD ((q)-(15)) 0)))+((Bq).getD ((q)-(16)) 0))).map fun x=>U x).toArray 89 (0,0))∧a_.grownBy b_ (some m)∧b_.heap.size=a_.heap.size) [Is (NI q),Is (U (Sha.high ((Bq).getD ((q)-(2)) 0))),Is (NI q),Is (NI ((q)-(7))),Is (.pointer (some ⟨m,(q)-(7),none⟩)),Is (U ((Bq).getD ((q)-(7)) 0)),Is (U ((Sha.high ((Bq).getD ((q)-(2)) 0))+((Bq).getD ((q)-(7)) 0))),Is (U (Sha.low ((Bq).getD ((q)-(15)) 0))),Is (U (((Sha.high ((Bq).getD ((q)-(2)) 0))+((Bq).getD ((q)-(7)) 0))+(Sha.low ((Bq).getD ((q)-(15)) 0)))),Is (NI q),Is (NI ((q)-(16))),Is (.pointer (some ⟨m,(q)-(16),none⟩)),Is (U ((Bq).getD ((q)-(16)) 0)),Is (U ((((Sha.high ((Bq).getD ((q)-(2)) 0))+((Bq).getD ((q)-(7)) 0))+(Sha.low ((Bq).getD ((q)-(15)) 0)))+((Bq).getD ((q)-(16)) 0))),Is (PQ m q),(fun _ _=>True)] (by kernel_rfl) [77,78,79,80,81,82,83,84,85,86,87,88,89,90,91] (by kernel_rfl) (by kernel_rfl) (by kernel_rfl) rfl (DV (Ct ⟨Stab.any,trivial⟩)) (DV (Ct ⟨Stab.any,trivial⟩)) ?c6 ?hQ3013
  case c6=>
   refine⟨?_,?_,?_,?_,?_,?_,?_,?_,?_,?_,?_,?_,?_,?_,?_,?_,trivial⟩
   ·refine Aa rfl fun σ w1 hC h=> ?_
    have u:=(Ab (h 5 (by decide))).trans o
    have hC:Ext _ w1:=hC
    exact Yk.move u ⟨Ext.refl _,rfl⟩
   ·refine Aa rfl fun σ w1 hC h=> ?_
    have e9:σ 9=U (Sha.high ((Bq).getD ((q)-(2)) 0)):=(Ab (h 9 (by decide))).trans rfl
    have hC:Ext _ w1:=hC
    exact Yk.move e9 ⟨Ext.refl _,rfl⟩
   ·refine Aa rfl fun σ w1 hC h=> ?_
    have u:=(Ab (h 5 (by decide))).trans o
    have hC:Ext _ w1:=hC
    exact Yk.move u ⟨Ext.refl _,rfl⟩
   ·refine Aa rfl fun σ w1 hC h=> ?_
    have c8:=Ab (h 79 (by decide))
    have hC:Ext _ w1:=hC
    exact Yk.bin (xv:=NI q) (yv:=NI 7) c8 rfl rfl (Bj _ _ _ (by omega) (by omega)) ⟨Ext.refl _,rfl⟩
   ·refine Aa rfl fun σ w1 hC h=> ?_
    have p:=(Ab (h 3 (by decide))).trans j
    have c9:=Ab (h 80 (by decide))
    have hC:Ext _ w1:=hC
    exact Yk.atArr0 (i:=(q)-(7)) CP A9 p c9 (by omega) ⟨Ext.refl _,rfl⟩
   ·refine Aa rfl fun σ w1 hC h=> ?_
    have da:=Ab (h 81 (by decide))
    have hC:Ext _ w1:=hC
    exact Yk.cell1 A8 rfl da (Ai (eb hC hb21ll) (AW (i:=(q)-(7)) (by rw[hpl_q];omega))) ⟨Ext.refl _,rfl⟩
   ·refine Aa rfl fun σ w1 hC h=> ?_
    have db:=Ab (h 78 (by decide))
    have dc:=Ab (h 82 (by decide))
    have hC:Ext _ w1:=hC
    exact Yk.bin db dc rfl (BR _ _ _) ⟨Ext.refl _,rfl⟩
   ·refine Aa rfl fun σ w1 hC h=> ?_
    have e8:σ 8=U (Sha.low ((Bq).getD ((q)-(15)) 0)):=(Ab (h 8 (by decide))).trans rfl
    have hC:Ext _ w1:=hC
    exact Yk.move e8 ⟨Ext.refl _,rfl⟩
   ·refine Aa rfl fun σ w1 hC h=> ?_
    have dd:=Ab (h 83 (by decide))
    have de:=Ab (h 84 (by decide))
    have hC:Ext _ w1:=hC
    exact Yk.bin dd de rfl (BR _ _ _) ⟨Ext.refl _,rfl⟩
   ·refine Aa rfl fun σ w1 hC h=> ?_
    have u:=(Ab (h 5 (by decide))).trans o
    have hC:Ext _ w1:=hC
    exact Yk.move u ⟨Ext.refl _,rfl⟩
   ·refine Aa rfl fun σ w1 hC h=> ?_
    have df:=Ab (h 86 (by decide))
    have hC:Ext _ w1:=hC
    exact Yk.bin (xv:=NI q) (yv:=NI 16) df rfl rfl (Bj _ _ _ (by omega) (by omega)) ⟨Ext.refl _,rfl⟩
   ·refine Aa rfl fun σ w1 hC h=> ?_
    have p:=(Ab (h 3 (by decide))).trans j
    have dg:=Ab (h 87 (by decide))
    have hC:Ext _ w1:=hC
    exact Yk.atArr0 (i:=(q)-(16)) CP A9 p dg (by omega) ⟨Ext.refl _,rfl⟩
   ·refine Aa rfl fun σ w1 hC h=> ?_
    have dh:=Ab (h 88 (by decide))
    have hC:Ext _ w1:=hC
    exact Yk.cell1 A8 rfl dh (Ai (eb hC hb21ll) (AW (i:=(q)-(16)) (by rw[hpl_q];omega))) ⟨Ext.refl _,rfl⟩
   ·refine Aa rfl fun σ w1 hC h=> ?_
    have di:=Ab (h 85 (by decide))
    have dj:=Ab (h 89 (by decide))
    have hC:Ext _ w1:=hC
    exact Yk.bin di dj rfl (BR _ _ _) ⟨Ext.refl _,rfl⟩
   ·refine Aa rfl fun σ w1 hC h=> ?_
    have p:=(Ab (h 3 (by decide))).trans j
    have dk:=Ab (h 77 (by decide))
    have hC:Ext _ w1:=hC
    exact Yk.atArr0 (i:=q) CP A9 p dk (by omega) ⟨Ext.refl _,rfl⟩
   ·refine Aa rfl fun σ w1 hC h=> ?_
    have dl:=Ab (h 91 (by decide))
    have dm:=Ab (h 90 (by decide))
    have hC:Ext _ w1:=hC
    exact Yk.storeU32 (i:=q) (v:=(((Sha.high ((Bq).getD ((q)-(2)) 0))+((Bq).getD ((q)-(7)) 0))+(Sha.low ((Bq).getD ((q)-(15)) 0)))+((Bq).getD ((q)-(16)) 0)) dl dm (eb hC hb21ll) (by rw[hpl_q];omega) F0 fun w2 h1 h2 h3=>⟨⟨h1,h2,h3⟩,trivial⟩
  intro es et dn ai dp he hf
  obtain⟨-,-,-,-,-,-,-,-,-,-,-,-,-,-,-,-⟩:=hf
  obtain⟨k,n,j,o,z,T7,T8,T9,g,-⟩:=he.hold [(0,_),(2,_),(3,_),(5,_),(6,_),(7,_),(8,U (Sha.low ((Bq).getD ((q)-(15)) 0))),(9,U (Sha.high ((Bq).getD ((q)-(2)) 0))),(10,_)] ⟨k,n,j,o,z,T7,rfl,rfl,g,trivial⟩ rfl
  clear he
  have hE:=hE.trans ai
  have c:=eb ai c
  have f:=f.trans ai
  have hb21ll:=eb ai hb21ll
  obtain⟨a0,al,eu⟩:=dp
  have hE:=Ac hE al (Nat.le_trans ao (by omega))
  have c:=kb al c (by omega)
  have f:=Ac f al (Nat.le_trans (Nat.le_refl _) (by omega))
  clear hb21ll
  have hb21ll:=a0;clear a0
  have ew:=bl hb21ll
  have hb21ll:dn.heap[m]? =some (.cells ((Sha.pad64 (Sha.sched b (q+1))).map fun x=>U x).toArray 89 (0,0)):=AZ hb21ll (congrArg (List.map fun x=>U x) (by rw[hBq];exact Sha.sched_step2 b q ht16 aw))
  refine bN (tN (ct _ _ (wt (oM rfl (oS rfl (Yk.bin (xv:=NI q) (yv:=NI 1) o rfl rfl (Ak _ _ _ (by omega)) (oA rfl (AH [(0,v),(2,PQ r 0),(3,PQ m 0),(5,NI ((q)+(1))),(6,U ((Bq).getD ((q)-(15)) 0)),(7,U ((Bq).getD ((q)-(2)) 0)),(8,U (Sha.low ((Bq).getD ((q)-(15)) 0))),(9,U (Sha.high ((Bq).getD ((q)-(2)) 0))),(10,NI t)] ⟨k,n,j,rfl,z,T7,T8,T9,g,trivial⟩ fun dq ⟨k,n,j,o,z,T7,T8,T9,g,_⟩=>(tN (And.intro ⟨q+1,k,n,j,g,o,hE,c,f,AZ hb21ll (rfl),by omega,by omega,trivial⟩ ?_))))))))))
  show 64-(intOf (dq 5)).toNat<64-(intOf (cp 5)).toNat
  rw[o,q5]
  simp only[intOf,Int.toNat_natCast];omega
 obtain⟨F,hF⟩:∃F,F=Sha.sched b 64:=⟨_,rfl⟩
 have hb21ll:av.heap[m]? =some (.cells ((F).map fun x=>U x).toArray 89 (0,0)):=AZ hb21ll (by rw[hBq,show q=64 by omega,←hF,Sha.pad64_full _ (by rw[hF,Sha.sched_length])])
 have hFl:F.length=64:=by rw[hF,Sha.sched_length]
 refine AJ (Ag (Ag (Ap (tN (cn _ _ (sk fun ex dr=>(wt (oS rfl (Yk.loadAll j hb21ll CP rfl (by rw[List.size_toArray,List.length_map,hFl];exact FZ) (oS rfl (Yk.storeAll n (vr (.agg ((F).map fun x=>U x).toArray) rfl) c (by rw[List.size_toArray,List.size_toArray,List.length_map,List.length_map,hFl];rfl) (by rw[List.size_toArray,List.length_map,hFl];exact FZ) (Do _) fun ey a1 a2 ez=> ?_)))))))))))
 have hE:=Ac hE a2 (Nat.le_trans (Nat.le_refl _) (by omega))
 clear c
 clear f
 have hb21ll:=kb a2 hb21ll (by omega)
 have c:=a1;clear a1
 have e1:=bl c
 refine oZ (tN (dr _ _ (As (Ao (fn:=Tryd.f78) _ rfl [.agg ((F).map fun x=>U x).toArray] (.agg ((F).map fun x=>U x).toArray) rfl ⟨ResF.row n c CP rfl (by rw[List.size_toArray,List.length_map,hFl];exact FZ),trivial⟩ ?_))))
 rw[hF]
 exact⟨rfl,hE⟩

theorem Lv(w:World)(hG:Laid w)(s:List UInt32)(hs:s.length=8)(v:Value)(b:List UInt8)(hb:RB w v b)(hl:b.length=64):
  Calls Tryd.prog 69 #[.agg (cellsU s),v] w fun e w' =>e = .returned (.agg (cellsU (Sha.rounds s b)))∧Ext w w' :=by
 refine AA (args:= [.agg ((s).map fun x=>U x).toArray,v]) Tryd.func69 rfl 120 rfl (Nat.le_of_ble_eq_true rfl) ?_
 intro a3 hb
 have o:a3 0=(.agg ((s).map fun x=>U x).toArray:Value):=hb.get 0
 have p:a3 1=(v:Value):=hb.get 1
 clear hb
 have hE:=Ext.refl w
 refine sk fun K1 bg=>(wt (oS rfl (Yk.box (cs:=((s).map fun x=>U x:List Value).toArray) o fun n2 w3 dx a4 bh dy=> ?_)))
 have hE:=hE.trans bh
 have g:=a4;clear a4
 have dz:n2<w3.heap.size:=by omega
 refine oS rfl (Yk.alloc (cs:=((List.replicate 8 0).map fun x=>U x).toArray) IA fun ab aw bi a5 ay d0=> ?_)
 have j:=Ext.refl w3
 have d1:=hE
 have bj:=hE.size
 have d2:=AT (bl g) bi
 have hE:=hE.trans ay
 have g:=eb ay g
 have j:=j.trans ay
 have k:=a5;clear a5
 have d3:ab<aw.heap.size:=by omega
 refine oZ (tN (bg _ _ (sk fun d4 bk=>(wt (oS rfl (Yk.loadAll (vr (PQ n2 0) rfl) g Bf rfl (by rw[List.size_toArray,List.length_map,hs];exact DQ) (oS rfl (Yk.alloc (cs:=((List.replicate 8 0).map fun x=>U x).toArray) IA fun f bm a6 a7 ao d5=> ?_))))))))
 have m:=Ext.refl aw
 have d6:=hE
 have d7:=j
 have az:=hE.size
 have a0:=j.size
 have d8:=AT (bl g) a6
 have d9:=AT (bl k) a6
 have hE:=hE.trans ao
 have g:=eb ao g
 have j:=j.trans ao
 have k:=eb ao k
 have m:=m.trans ao
 have af:=a7;clear a7
 have ea:f<bm.heap.size:=by omega
 refine oS rfl (Yk.storeAll (vr (PQ f 0) rfl) (vr (.agg ((s).map fun x=>U x).toArray) rfl) af (by rw[List.size_toArray,List.size_toArray,List.length_map,List.length_map,hs];rfl) (by rw[List.size_toArray,List.length_map,hs];exact DQ) (Do _) fun ec a8 ap ed=> ?_)
 have hE:=Ac hE ap (Nat.le_trans az (by omega))
 have g:=kb ap g (by omega)
 have j:=Ac j ap (Nat.le_trans a0 (by omega))
 have k:=kb ap k (by omega)
 have m:=Ac m ap (Nat.le_trans (Nat.le_refl _) (by omega))
 clear af
 have af:=a8;clear a8
 have ee:=bl af
 refine oZ (tN (bk _ _ (sk fun ef bn=>(sk fun eg bo=>(wt (oM rfl (oS rfl (Yk.callA1 Md p ((Jz _ v b (hb.keep hE) hl).mono ?_)))))))))
 rintro e eh ⟨rfl,ah⟩
 refine⟨_,rfl,?_⟩
 have hE:=hE.trans ah
 have g:=eb ah g
 have j:=j.trans ah
 have k:=eb ah k
 have m:=m.trans ah
 have af:=eb ah af
 refine oM rfl (AH [(0, .agg ((s).map fun x=>U x).toArray),(1,v),(2,PQ n2 0),(4,PQ ab 0),(5,PQ f 0),(16, .agg ((Sha.sched b 64).map fun x=>U x).toArray),(17,NI 0)] ⟨o,p,rfl,rfl,rfl,rfl,rfl,trivial⟩ fun ei ⟨o,p,r,q,c,u,n,_⟩=>(tN (bo _ _ (Aj (AX (fun(ρ:Aq) (wz:World)=>∃t:Nat,ρ 0=(.agg ((s).map fun x=>U x).toArray:Value)∧ρ 1=(v:Value)∧ρ 2=(PQ n2 0:Value)∧ρ 4=(PQ ab 0:Value)∧ρ 5=(PQ f 0:Value)∧ρ 16=(.agg ((Sha.sched b 64).map fun x=>U x).toArray:Value)∧ρ 17=(NI t:Value)∧Ext w wz∧wz.heap[n2]? =some (.cells ((s).map fun x=>U x).toArray 88 (0,0))∧Ext w3 wz∧wz.heap[ab]? =some (.cells ((List.replicate 8 0).map fun x=>U x).toArray 88 (0,0))∧Ext aw wz∧wz.heap[f]? =some (.cells (((Sha.turned s (Sha.sched b 64) t)).map fun x=>U x).toArray 88 (0,0))∧(t≤64)∧True) (fun ρ _=>64-(intOf (ρ 17)).toNat) ⟨0,o,p,r,q,c,u,n,hE,g,j,k,m,AZ af (rfl),Nat.zero_le _,trivial⟩ ?_)))))
 clear af
 clear hE g j k m
 rintro bp a9 ⟨t,o,p,r,q,c,u,n,hE,g,j,k,m,hb36l,ht,-⟩
 have q17:=n
 obtain⟨V,hV⟩:∃V,V=(Sha.turned s (Sha.sched b 64) t):=⟨_,rfl⟩
 have hb36l:a9.heap[f]? =some (.cells ((V).map fun x=>U x).toArray 88 (0,0)):=AZ hb36l (by rw[hV])
 have hvl:V.length=8:=by rw[hV];exact Sha.turned_length _ _ hs _
 refine sk fun ej bq=>(wt (oS rfl (Yk.eqI (a:=(t:Nat)) (b:=(64:Nat)) n rfl (AN _ _ _ _) (oZ (tN (bq _ _ (sk fun el br=> ?_)))))))
 refine AO ((t)<(64)) (vr (.bool (decide ((t)<(64)))) rfl) (fun bs=> ?_) (fun bs=> ?_)
 ·refine Ah (tN (br _ _ (sk fun em bt=>(Aj (sk fun en bu=>(wt (oM rfl (oS rfl (Yk.idxU (l:=Sha.sched b 64) (i:=t) CP A8 rfl A9 u n (by omega) (Sha.sched_length _ _) (oA rfl (oA rfl (oZ (tN (bu _ _ (sk fun eo bv=> ?_)))))))))))))))
  refine Be [Is (PQ f 4),Is (U ((V).getD (4) 0)),Is (U (Sha.rotr ((V).getD (4) 0) 6)),Is (PQ f 4),Is (U ((V).getD (4) 0)),Is (U (Sha.rotr ((V).getD (4) 0) 11)),Is (U ((Sha.rotr ((V).getD (4) 0) 6)^^^(Sha.rotr ((V).getD (4) 0) 11))),Is (PQ f 4),Is (U ((V).getD (4) 0)),Is (U (Sha.rotr ((V).getD (4) 0) 25)),Is (U (((Sha.rotr ((V).getD (4) 0) 6)^^^(Sha.rotr ((V).getD (4) 0) 11))^^^(Sha.rotr ((V).getD (4) 0) 25))),Is (U (((Sha.rotr ((V).getD (4) 0) 6)^^^(Sha.rotr ((V).getD (4) 0) 11))^^^(Sha.rotr ((V).getD (4) 0) 25)))] (by kernel_rfl) [21,22,23,24,25,26,27,28,29,30,31,8] (by kernel_rfl) (by kernel_rfl) (Ct trivial) ?bw ?hQ1005
  case bw=>
   refine⟨?_,?_,?_,?_,?_,?_,?_,?_,?_,?_,?_,?_,trivial⟩
   ·refine Aa rfl fun σ w1 hC h=> ?_
    have y:=(Ab (h 5 (by decide))).trans c
    exact Yk.atArr0 (i:=4) Bf A9 y (vr (NI 4) rfl) (by omega) ⟨Ext.refl _,rfl⟩
   ·refine Aa rfl fun σ w1 hC h=> ?_
    have bx:=Ab (h 21 (by decide))
    exact Yk.cell1 A8 rfl bx (Ai (eb hC hb36l) (AW (i:=4) (by rw[hvl];omega))) ⟨Ext.refl _,rfl⟩
   ·refine Aa rfl fun σ w1 hC h=> ?_
    have bz:=Ab (h 22 (by decide))
    refine Yk.callA2 CQ bz (vr (NI 6) rfl) ((Db _ ((V).getD (4) 0) 6 (by decide)).mono ?_)
    rintro e w2 ⟨rfl,hx⟩
    exact⟨_,rfl,hx,rfl⟩
   ·refine Aa rfl fun σ w1 hC h=> ?_
    have y:=(Ab (h 5 (by decide))).trans c
    exact Yk.atArr0 (i:=4) Bf A9 y (vr (NI 4) rfl) (by omega) ⟨Ext.refl _,rfl⟩
   ·refine Aa rfl fun σ w1 hC h=> ?_
    have b0:=Ab (h 24 (by decide))
    exact Yk.cell1 A8 rfl b0 (Ai (eb hC hb36l) (AW (i:=4) (by rw[hvl];omega))) ⟨Ext.refl _,rfl⟩
   ·refine Aa rfl fun σ w1 hC h=> ?_
    have b1:=Ab (h 25 (by decide))
    refine Yk.callA2 CQ b1 (vr (NI 11) rfl) ((Db _ ((V).getD (4) 0) 11 (by decide)).mono ?_)
    rintro e w2 ⟨rfl,hx⟩
    exact⟨_,rfl,hx,rfl⟩
   ·refine Aa rfl fun σ w1 hC h=> ?_
    have b2:=Ab (h 23 (by decide))
    have b3:=Ab (h 26 (by decide))
    exact Yk.bin b2 b3 rfl (Cu _ _ _) ⟨Ext.refl _,rfl⟩
   ·refine Aa rfl fun σ w1 hC h=> ?_
    have y:=(Ab (h 5 (by decide))).trans c
    exact Yk.atArr0 (i:=4) Bf A9 y (vr (NI 4) rfl) (by omega) ⟨Ext.refl _,rfl⟩
   ·refine Aa rfl fun σ w1 hC h=> ?_
    have b4:=Ab (h 28 (by decide))
    exact Yk.cell1 A8 rfl b4 (Ai (eb hC hb36l) (AW (i:=4) (by rw[hvl];omega))) ⟨Ext.refl _,rfl⟩
   ·refine Aa rfl fun σ w1 hC h=> ?_
    have b5:=Ab (h 29 (by decide))
    refine Yk.callA2 CQ b5 (vr (NI 25) rfl) ((Db _ ((V).getD (4) 0) 25 (by decide)).mono ?_)
    rintro e w2 ⟨rfl,hx⟩
    exact⟨_,rfl,hx,rfl⟩
   ·refine Aa rfl fun σ w1 hC h=> ?_
    have b6:=Ab (h 27 (by decide))
    have b7:=Ab (h 30 (by decide))
    exact Yk.bin b6 b7 rfl (Cu _ _ _) ⟨Ext.refl _,rfl⟩
   ·refine Aa rfl fun σ w1 hC h=> ?_
    have b8:=Ab (h 31 (by decide))
    exact Yk.assign b8 ⟨Ext.refl _,rfl⟩
  intro b9 ep aj he hf
  obtain⟨-,-,-,-,-,-,-,-,-,-,-,k8,-⟩:=hf
  obtain⟨o,p,r,q,c,T6,T7,u,n,-⟩:=he.hold [(0,_),(1,_),(2,_),(4,_),(5,_),(6,_),(7,U ((Sha.sched b 64).getD (t) 0)),(16,_),(17,_)] ⟨o,p,r,q,c,n,rfl,u,n,trivial⟩ rfl
  clear he
  have hE:=hE.trans aj
  have g:=eb aj g
  have j:=j.trans aj
  have k:=eb aj k
  have m:=m.trans aj
  have hb36l:=eb aj hb36l
  have T8:b9 8=U (((Sha.rotr ((V).getD (4) 0) 6)^^^(Sha.rotr ((V).getD (4) 0) 11))^^^(Sha.rotr ((V).getD (4) 0) 25)):=k8
  clear k8
  refine tN (bv _ _ (sk fun eq ca=>(wt (oS rfl (Yk.atArr0 (i:=4) Bf A9 c (vr (NI 4) rfl) (by omega) (oS rfl (Yk.cell1 A8 rfl (vr (PQ f 4) rfl) (Ai hb36l (AW (i:=4) (by rw[hvl];omega))) (oS rfl (Yk.atArr0 (i:=5) Bf A9 c (vr (NI 5) rfl) (by omega) (oS rfl (Yk.cell1 A8 rfl (vr (PQ f 5) rfl) (Ai hb36l (AW (i:=5) (by rw[hvl];omega))) (oS rfl (Yk.bin (vr (U ((V).getD (4) 0)) rfl) (vr (U ((V).getD (5) 0)) rfl) rfl (Ev _ _ _) (oS rfl (Yk.atArr0 (i:=4) Bf A9 c (vr (NI 4) rfl) (by omega) (oS rfl (Yk.cell1 A8 rfl (vr (PQ f 4) rfl) (Ai hb36l (AW (i:=4) (by rw[hvl];omega))) (oS rfl (Yk.not32 (vr (U ((V).getD (4) 0)) rfl) (oS rfl (Yk.atArr0 (i:=6) Bf A9 c (vr (NI 6) rfl) (by omega) (oS rfl (Yk.cell1 A8 rfl (vr (PQ f 6) rfl) (Ai hb36l (AW (i:=6) (by rw[hvl];omega))) (oS rfl (Yk.bin (vr (U (~~~((V).getD (4) 0))) rfl) (vr (U ((V).getD (6) 0)) rfl) rfl (Ev _ _ _) (oS rfl (Yk.bin (vr (U (((V).getD (4) 0)&&&((V).getD (5) 0))) rfl) (vr (U ((~~~((V).getD (4) 0))&&&((V).getD (6) 0))) rfl) rfl (Cu _ _ _) (oA rfl ?_))))))))))))))))))))))))))))
  refine oZ (tN (ca _ _ (sk fun er cb=> ?_)))
  refine Be [Is (PQ f 7),Is (U ((V).getD (7) 0)),Is (U (((Sha.rotr ((V).getD (4) 0) 6)^^^(Sha.rotr ((V).getD (4) 0) 11))^^^(Sha.rotr ((V).getD (4) 0) 25))),Is (U (((V).getD (7) 0)+(((Sha.rotr ((V).getD (4) 0) 6)^^^(Sha.rotr ((V).getD (4) 0) 11))^^^(Sha.rotr ((V).getD (4) 0) 25)))),Is (U ((((V).getD (4) 0)&&&((V).getD (5) 0))^^^((~~~((V).getD (4) 0))&&&((V).getD (6) 0)))),Is (U ((((V).getD (7) 0)+(((Sha.rotr ((V).getD (4) 0) 6)^^^(Sha.rotr ((V).getD (4) 0) 11))^^^(Sha.rotr ((V).getD (4) 0) 25)))+((((V).getD (4) 0)&&&((V).getD (5) 0))^^^((~~~((V).getD (4) 0))&&&((V).getD (6) 0))))),Is (NI t),Is (PQ 1 t),Is (U (Sha.words.getD (t) 0)),Is (U (((((V).getD (7) 0)+(((Sha.rotr ((V).getD (4) 0) 6)^^^(Sha.rotr ((V).getD (4) 0) 11))^^^(Sha.rotr ((V).getD (4) 0) 25)))+((((V).getD (4) 0)&&&((V).getD (5) 0))^^^((~~~((V).getD (4) 0))&&&((V).getD (6) 0))))+(Sha.words.getD (t) 0))),Is (U ((Sha.sched b 64).getD (t) 0)),Is (U ((((((V).getD (7) 0)+(((Sha.rotr ((V).getD (4) 0) 6)^^^(Sha.rotr ((V).getD (4) 0) 11))^^^(Sha.rotr ((V).getD (4) 0) 25)))+((((V).getD (4) 0)&&&((V).getD (5) 0))^^^((~~~((V).getD (4) 0))&&&((V).getD (6) 0))))+(Sha.words.getD (t) 0))+((Sha.sched b 64).getD (t) 0))),Is (U ((((((V).getD (7) 0)+(((Sha.rotr ((V).getD (4) 0) 6)^^^(Sha.rotr ((V).getD (4) 0) 11))^^^(Sha.rotr ((V).getD (4) 0) 25)))+((((V).getD (4) 0)&&&((V).getD (5) 0))^^^((~~~((V).getD (4) 0))&&&((V).getD (6) 0))))+(Sha.words.getD (t) 0))+((Sha.sched b 64).getD (t) 0)))] (by kernel_rfl) [44,45,46,47,48,49,50,51,52,53,54,55,10] (by kernel_rfl) (by kernel_rfl) ⟨Stab.is _,(Ct trivial)⟩ ?cc ?hQ2007
  case cc=>
   refine⟨?_,?_,?_,?_,?_,?_,?_,?_,?_,?_,?_,?_,?_,trivial⟩
   ·refine Aa rfl fun σ w1 hC h=> ?_
    have y:=(Ab (h 5 (by decide))).trans c
    exact Yk.atArr0 (i:=7) Bf A9 y (vr (NI 7) rfl) (by omega) ⟨Ext.refl _,rfl⟩
   ·refine Aa rfl fun σ w1 hC h=> ?_
    have cd:=Ab (h 44 (by decide))
    exact Yk.cell1 A8 rfl cd (Ai (eb hC hb36l) (AW (i:=7) (by rw[hvl];omega))) ⟨Ext.refl _,rfl⟩
   ·refine Aa rfl fun σ w1 hC h=> ?_
    have e8:=(Ab (h 8 (by decide))).trans T8
    exact Yk.move e8 ⟨Ext.refl _,rfl⟩
   ·refine Aa rfl fun σ w1 hC h=> ?_
    have ce:=Ab (h 45 (by decide))
    have cf:=Ab (h 46 (by decide))
    exact Yk.bin ce cf rfl (BR _ _ _) ⟨Ext.refl _,rfl⟩
   ·refine Aa rfl fun σ w1 hC h=> ?_
    have e9:σ 9=U ((((V).getD (4) 0)&&&((V).getD (5) 0))^^^((~~~((V).getD (4) 0))&&&((V).getD (6) 0))):=(Ab (h 9 (by decide))).trans rfl
    exact Yk.move e9 ⟨Ext.refl _,rfl⟩
   ·refine Aa rfl fun σ w1 hC h=> ?_
    have ch:=Ab (h 47 (by decide))
    have ci:=Ab (h 48 (by decide))
    exact Yk.bin ch ci rfl (BR _ _ _) ⟨Ext.refl _,rfl⟩
   ·refine Aa rfl fun σ w1 hC h=> ?_
    have e6:=(Ab (h 6 (by decide))).trans T6
    exact Yk.move e6 ⟨Ext.refl _,rfl⟩
   ·refine Aa rfl fun σ w1 hC h=> ?_
    have ck:=Ab (h 50 (by decide))
    exact Yk.atArr0 (i:=t) CP A9 (vr (PQ 1 0) rfl) ck (by omega) ⟨Ext.refl _,rfl⟩
   ·refine Aa rfl fun σ w1 hC h=> ?_
    have cl:=Ab (h 51 (by decide))
    exact Yk.cell1 A8 rfl cl (by obtain⟨tG_,fG_,hG_⟩:=Laid.words (hG.keep (hE.trans hC));exact Ai (l:=Sha.words.map fun x=>U x) hG_ (AW (l:=Sha.words) (i:=t) (by show _<64;omega))) ⟨Ext.refl _,rfl⟩
   ·refine Aa rfl fun σ w1 hC h=> ?_
    have cm:=Ab (h 49 (by decide))
    have cn:=Ab (h 52 (by decide))
    exact Yk.bin cm cn rfl (BR _ _ _) ⟨Ext.refl _,rfl⟩
   ·refine Aa rfl fun σ w1 hC h=> ?_
    have e7:=(Ab (h 7 (by decide))).trans T7
    exact Yk.move e7 ⟨Ext.refl _,rfl⟩
   ·refine Aa rfl fun σ w1 hC h=> ?_
    have cp:=Ab (h 53 (by decide))
    have cq:=Ab (h 54 (by decide))
    exact Yk.bin cp cq rfl (BR _ _ _) ⟨Ext.refl _,rfl⟩
   ·refine Aa rfl fun σ w1 hC h=> ?_
    have cr:=Ab (h 55 (by decide))
    exact Yk.assign cr ⟨Ext.refl _,rfl⟩
  intro ct es ak he hf
  obtain⟨-,-,-,-,-,-,-,-,-,-,-,-,k10,-⟩:=hf
  obtain⟨o,p,r,q,c,T6,T7,T8,T9,u,n,-⟩:=he.hold [(0,_),(1,_),(2,_),(4,_),(5,_),(6,_),(7,_),(8,_),(9,U ((((V).getD (4) 0)&&&((V).getD (5) 0))^^^((~~~((V).getD (4) 0))&&&((V).getD (6) 0)))),(16,_),(17,_)] ⟨o,p,r,q,c,T6,T7,T8,rfl,u,n,trivial⟩ rfl
  clear he
  have hE:=hE.trans ak
  have g:=eb ak g
  have j:=j.trans ak
  have k:=eb ak k
  have m:=m.trans ak
  have hb36l:=eb ak hb36l
  have ag:ct 10=U ((((((V).getD (7) 0)+(((Sha.rotr ((V).getD (4) 0) 6)^^^(Sha.rotr ((V).getD (4) 0) 11))^^^(Sha.rotr ((V).getD (4) 0) 25)))+((((V).getD (4) 0)&&&((V).getD (5) 0))^^^((~~~((V).getD (4) 0))&&&((V).getD (6) 0))))+(Sha.words.getD (t) 0))+((Sha.sched b 64).getD (t) 0)):=k10
  clear k10
  refine tN (cb _ _ (sk fun et cu=> ?_))
  refine Be [Is (PQ f 0),Is (U ((V).getD (0) 0)),Is (U (Sha.rotr ((V).getD (0) 0) 2)),Is (PQ f 0),Is (U ((V).getD (0) 0)),Is (U (Sha.rotr ((V).getD (0) 0) 13)),Is (U ((Sha.rotr ((V).getD (0) 0) 2)^^^(Sha.rotr ((V).getD (0) 0) 13))),Is (PQ f 0),Is (U ((V).getD (0) 0)),Is (U (Sha.rotr ((V).getD (0) 0) 22)),Is (U (((Sha.rotr ((V).getD (0) 0) 2)^^^(Sha.rotr ((V).getD (0) 0) 13))^^^(Sha.rotr ((V).getD (0) 0) 22))),Is (U (((Sha.rotr ((V).getD (0) 0) 2)^^^(Sha.rotr ((V).getD (0) 0) 13))^^^(Sha.rotr ((V).getD (0) 0) 22)))] (by kernel_rfl) [56,57,58,59,60,61,62,63,64,65,66,11] (by kernel_rfl) (by kernel_rfl) (Ct trivial) ?cv ?hQ3008
  case cv=>
   refine⟨?_,?_,?_,?_,?_,?_,?_,?_,?_,?_,?_,?_,trivial⟩
   ·refine Aa rfl fun σ w1 hC h=> ?_
    have y:=(Ab (h 5 (by decide))).trans c
    exact Yk.atArr0 (i:=0) Bf A9 y (vr (NI 0) rfl) (by omega) ⟨Ext.refl _,rfl⟩
   ·refine Aa rfl fun σ w1 hC h=> ?_
    have cw:=Ab (h 56 (by decide))
    exact Yk.cell1 A8 rfl cw (Ai (eb hC hb36l) (AW (i:=0) (by rw[hvl];omega))) ⟨Ext.refl _,rfl⟩
   ·refine Aa rfl fun σ w1 hC h=> ?_
    have cx:=Ab (h 57 (by decide))
    refine Yk.callA2 CQ cx (vr (NI 2) rfl) ((Db _ ((V).getD (0) 0) 2 (by decide)).mono ?_)
    rintro e w2 ⟨rfl,hx⟩
    exact⟨_,rfl,hx,rfl⟩
   ·refine Aa rfl fun σ w1 hC h=> ?_
    have y:=(Ab (h 5 (by decide))).trans c
    exact Yk.atArr0 (i:=0) Bf A9 y (vr (NI 0) rfl) (by omega) ⟨Ext.refl _,rfl⟩
   ·refine Aa rfl fun σ w1 hC h=> ?_
    have cy:=Ab (h 59 (by decide))
    exact Yk.cell1 A8 rfl cy (Ai (eb hC hb36l) (AW (i:=0) (by rw[hvl];omega))) ⟨Ext.refl _,rfl⟩
   ·refine Aa rfl fun σ w1 hC h=> ?_
    have cz:=Ab (h 60 (by decide))
    refine Yk.callA2 CQ cz (vr (NI 13) rfl) ((Db _ ((V).getD (0) 0) 13 (by decide)).mono ?_)
    rintro e w2 ⟨rfl,hx⟩
    exact⟨_,rfl,hx,rfl⟩
   ·refine Aa rfl fun σ w1 hC h=> ?_
    have c0:=Ab (h 58 (by decide))
    have c1:=Ab (h 61 (by decide))
    exact Yk.bin c0 c1 rfl (Cu _ _ _) ⟨Ext.refl _,rfl⟩
   ·refine Aa rfl fun σ w1 hC h=> ?_
    have y:=(Ab (h 5 (by decide))).trans c
    exact Yk.atArr0 (i:=0) Bf A9 y (vr (NI 0) rfl) (by omega) ⟨Ext.refl _,rfl⟩
   ·refine Aa rfl fun σ w1 hC h=> ?_
    have c2:=Ab (h 63 (by decide))
    exact Yk.cell1 A8 rfl c2 (Ai (eb hC hb36l) (AW (i:=0) (by rw[hvl];omega))) ⟨Ext.refl _,rfl⟩
   ·refine Aa rfl fun σ w1 hC h=> ?_
    have c3:=Ab (h 64 (by decide))
    refine Yk.callA2 CQ c3 (vr (NI 22) rfl) ((Db _ ((V).getD (0) 0) 22 (by decide)).mono ?_)
    rintro e w2 ⟨rfl,hx⟩
    exact⟨_,rfl,hx,rfl⟩
   ·refine Aa rfl fun σ w1 hC h=> ?_
    have c4:=Ab (h 62 (by decide))
    have c5:=Ab (h 65 (by decide))
    exact Yk.bin c4 c5 rfl (Cu _ _ _) ⟨Ext.refl _,rfl⟩
   ·refine Aa rfl fun σ w1 hC h=> ?_
    have c6:=Ab (h 66 (by decide))
    exact Yk.assign c6 ⟨Ext.refl _,rfl⟩
  intro c7 eu am he hf
  obtain⟨-,-,-,-,-,-,-,-,-,-,-,k11,-⟩:=hf
  obtain⟨o,p,r,q,c,T6,T7,T8,T9,ag,u,n,-⟩:=he.hold [(0,_),(1,_),(2,_),(4,_),(5,_),(6,_),(7,_),(8,_),(9,_),(10,_),(16,_),(17,_)] ⟨o,p,r,q,c,T6,T7,T8,T9,ag,u,n,trivial⟩ rfl
  clear he
  have hE:=hE.trans am
  have g:=eb am g
  have j:=j.trans am
  have k:=eb am k
  have m:=m.trans am
  have hb36l:=eb am hb36l
  have aq:c7 11=U (((Sha.rotr ((V).getD (0) 0) 2)^^^(Sha.rotr ((V).getD (0) 0) 13))^^^(Sha.rotr ((V).getD (0) 0) 22)):=k11
  clear k11
  refine tN (cu _ _ (sk fun ew c8=>(wt (oS rfl (Yk.atArr0 (i:=0) Bf A9 c (vr (NI 0) rfl) (by omega) (oS rfl (Yk.cell1 A8 rfl (vr (PQ f 0) rfl) (Ai hb36l (AW (i:=0) (by rw[hvl];omega))) (oS rfl (Yk.atArr0 (i:=1) Bf A9 c (vr (NI 1) rfl) (by omega) (oS rfl (Yk.cell1 A8 rfl (vr (PQ f 1) rfl) (Ai hb36l (AW (i:=1) (by rw[hvl];omega))) (oS rfl (Yk.bin (vr (U ((V).getD (0) 0)) rfl) (vr (U ((V).getD (1) 0)) rfl) rfl (Ev _ _ _) (oS rfl (Yk.atArr0 (i:=0) Bf A9 c (vr (NI 0) rfl) (by omega) (oS rfl (Yk.cell1 A8 rfl (vr (PQ f 0) rfl) (Ai hb36l (AW (i:=0) (by rw[hvl];omega))) (oS rfl (Yk.atArr0 (i:=2) Bf A9 c (vr (NI 2) rfl) (by omega) (oS rfl (Yk.cell1 A8 rfl (vr (PQ f 2) rfl) (Ai hb36l (AW (i:=2) (by rw[hvl];omega))) (oS rfl (Yk.bin (vr (U ((V).getD (0) 0)) rfl) (vr (U ((V).getD (2) 0)) rfl) rfl (Ev _ _ _) (oS rfl (Yk.bin (vr (U (((V).getD (0) 0)&&&((V).getD (1) 0))) rfl) (vr (U (((V).getD (0) 0)&&&((V).getD (2) 0))) rfl) rfl (Cu _ _ _) (oS rfl (Yk.atArr0 (i:=1) Bf A9 c (vr (NI 1) rfl) (by omega) (oS rfl (Yk.cell1 A8 rfl (vr (PQ f 1) rfl) (Ai hb36l (AW (i:=1) (by rw[hvl];omega))) ?_)))))))))))))))))))))))))))))
  refine oS rfl (Yk.atArr0 (i:=2) Bf A9 c (vr (NI 2) rfl) (by omega) (oS rfl (Yk.cell1 A8 rfl (vr (PQ f 2) rfl) (Ai hb36l (AW (i:=2) (by rw[hvl];omega))) (oS rfl (Yk.bin (vr (U ((V).getD (1) 0)) rfl) (vr (U ((V).getD (2) 0)) rfl) rfl (Ev _ _ _) (oS rfl (Yk.bin (vr (U ((((V).getD (0) 0)&&&((V).getD (1) 0))^^^(((V).getD (0) 0)&&&((V).getD (2) 0)))) rfl) (vr (U (((V).getD (1) 0)&&&((V).getD (2) 0))) rfl) rfl (Cu _ _ _) (oA rfl (oZ (tN (c8 _ _ (wt (oM rfl (oM rfl (oS rfl (Yk.bin ag aq rfl (BR _ _ _) (oM rfl (oS rfl (Yk.bin (vr (U (((((((V).getD (7) 0)+(((Sha.rotr ((V).getD (4) 0) 6)^^^(Sha.rotr ((V).getD (4) 0) 11))^^^(Sha.rotr ((V).getD (4) 0) 25)))+((((V).getD (4) 0)&&&((V).getD (5) 0))^^^((~~~((V).getD (4) 0))&&&((V).getD (6) 0))))+(Sha.words.getD (t) 0))+((Sha.sched b 64).getD (t) 0))+(((Sha.rotr ((V).getD (0) 0) 2)^^^(Sha.rotr ((V).getD (0) 0) 13))^^^(Sha.rotr ((V).getD (0) 0) 22)))) rfl) (vr (U (((((V).getD (0) 0)&&&((V).getD (1) 0))^^^(((V).getD (0) 0)&&&((V).getD (2) 0)))^^^(((V).getD (1) 0)&&&((V).getD (2) 0)))) rfl) rfl (BR _ _ _) (oS rfl (Yk.atArr0 (i:=0) Bf A9 c (vr (NI 0) rfl) (by omega) (oS rfl (Yk.cell1 A8 rfl (vr (PQ f 0) rfl) (Ai hb36l (AW (i:=0) (by rw[hvl];omega))) (oS rfl (Yk.atArr0 (i:=1) Bf A9 c (vr (NI 1) rfl) (by omega) ?_)))))))))))))))))))))))))
  refine oS rfl (Yk.cell1 A8 rfl (vr (PQ f 1) rfl) (Ai hb36l (AW (i:=1) (by rw[hvl];omega))) (oS rfl (Yk.atArr0 (i:=2) Bf A9 c (vr (NI 2) rfl) (by omega) (oS rfl (Yk.cell1 A8 rfl (vr (PQ f 2) rfl) (Ai hb36l (AW (i:=2) (by rw[hvl];omega))) (oS rfl (Yk.atArr0 (i:=3) Bf A9 c (vr (NI 3) rfl) (by omega) (oS rfl (Yk.cell1 A8 rfl (vr (PQ f 3) rfl) (Ai hb36l (AW (i:=3) (by rw[hvl];omega))) (oM rfl (oS rfl (Yk.bin (vr (U ((V).getD (3) 0)) rfl) ag rfl (BR _ _ _) (oS rfl (Yk.atArr0 (i:=4) Bf A9 c (vr (NI 4) rfl) (by omega) (oS rfl (Yk.cell1 A8 rfl (vr (PQ f 4) rfl) (Ai hb36l (AW (i:=4) (by rw[hvl];omega))) (oS rfl (Yk.atArr0 (i:=5) Bf A9 c (vr (NI 5) rfl) (by omega) (oS rfl (Yk.cell1 A8 rfl (vr (PQ f 5) rfl) (Ai hb36l (AW (i:=5) (by rw[hvl];omega))) (oS rfl (Yk.atArr0 (i:=6) Bf A9 c (vr (NI 6) rfl) (by omega) (oS rfl (Yk.cell1 A8 rfl (vr (PQ f 6) rfl) (Ai hb36l (AW (i:=6) (by rw[hvl];omega))) (oS rfl (Yk.build8 (vr (U ((((((((V).getD (7) 0)+(((Sha.rotr ((V).getD (4) 0) 6)^^^(Sha.rotr ((V).getD (4) 0) 11))^^^(Sha.rotr ((V).getD (4) 0) 25)))+((((V).getD (4) 0)&&&((V).getD (5) 0))^^^((~~~((V).getD (4) 0))&&&((V).getD (6) 0))))+(Sha.words.getD (t) 0))+((Sha.sched b 64).getD (t) 0))+(((Sha.rotr ((V).getD (0) 0) 2)^^^(Sha.rotr ((V).getD (0) 0) 13))^^^(Sha.rotr ((V).getD (0) 0) 22)))+(((((V).getD (0) 0)&&&((V).getD (1) 0))^^^(((V).getD (0) 0)&&&((V).getD (2) 0)))^^^(((V).getD (1) 0)&&&((V).getD (2) 0))))) rfl) (vr (U ((V).getD (0) 0)) rfl) (vr (U ((V).getD (1) 0)) rfl) (vr (U ((V).getD (2) 0)) rfl) (vr (U (((V).getD (3) 0)+((((((V).getD (7) 0)+(((Sha.rotr ((V).getD (4) 0) 6)^^^(Sha.rotr ((V).getD (4) 0) 11))^^^(Sha.rotr ((V).getD (4) 0) 25)))+((((V).getD (4) 0)&&&((V).getD (5) 0))^^^((~~~((V).getD (4) 0))&&&((V).getD (6) 0))))+(Sha.words.getD (t) 0))+((Sha.sched b 64).getD (t) 0)))) rfl) (vr (U ((V).getD (4) 0)) rfl) (vr (U ((V).getD (5) 0)) rfl) (vr (U ((V).getD (6) 0)) rfl) (fun w=>NB _ _ _ _ _ _ _ _ w) (oS rfl (Yk.storeAll c (vr (.agg ((Sha.round V (Sha.words.getD (t) 0) ((Sha.sched b 64).getD (t) 0)).map fun x=>U x).toArray) rfl) hb36l (by rw[List.size_toArray,List.size_toArray,List.length_map,List.length_map,hvl];rfl) (DQ) (Do _) fun ex ba ar ey=> ?_))))))))))))))))))))))))))))
  have hE:=Ac hE ar (Nat.le_trans az (by omega))
  have g:=kb ar g (by omega)
  have j:=Ac j ar (Nat.le_trans a0 (by omega))
  have k:=kb ar k (by omega)
  have m:=Ac m ar (Nat.le_trans (Nat.le_refl _) (by omega))
  clear hb36l
  have hb36l:=ba;clear ba
  have ez:=bl hb36l
  refine AH [(0, .agg ((s).map fun x=>U x).toArray),(1,v),(2,PQ n2 0),(4,PQ ab 0),(5,PQ f 0),(6,NI t),(7,U ((Sha.sched b 64).getD (t) 0)),(8,U (((Sha.rotr ((V).getD (4) 0) 6)^^^(Sha.rotr ((V).getD (4) 0) 11))^^^(Sha.rotr ((V).getD (4) 0) 25))),(9,U ((((V).getD (4) 0)&&&((V).getD (5) 0))^^^((~~~((V).getD (4) 0))&&&((V).getD (6) 0)))),(10,U ((((((V).getD (7) 0)+(((Sha.rotr ((V).getD (4) 0) 6)^^^(Sha.rotr ((V).getD (4) 0) 11))^^^(Sha.rotr ((V).getD (4) 0) 25)))+((((V).getD (4) 0)&&&((V).getD (5) 0))^^^((~~~((V).getD (4) 0))&&&((V).getD (6) 0))))+(Sha.words.getD (t) 0))+((Sha.sched b 64).getD (t) 0))),(11,U (((Sha.rotr ((V).getD (0) 0) 2)^^^(Sha.rotr ((V).getD (0) 0) 13))^^^(Sha.rotr ((V).getD (0) 0) 22))),(12,U (((((V).getD (0) 0)&&&((V).getD (1) 0))^^^(((V).getD (0) 0)&&&((V).getD (2) 0)))^^^(((V).getD (1) 0)&&&((V).getD (2) 0)))),(16, .agg ((Sha.sched b 64).map fun x=>U x).toArray),(17,NI t)] ⟨o,p,r,q,c,T6,T7,T8,T9,ag,aq,rfl,u,n,trivial⟩ fun e0 ⟨o,p,r,q,c,T6,T7,T8,T9,ag,aq,bb,u,n,_⟩=>(bN (tN (bt _ _ (wt (oS rfl (Yk.bin (xv:=NI t) (yv:=NI 1) n rfl rfl (Ak _ _ _ (by omega)) (oM rfl (AH [(0, .agg ((s).map fun x=>U x).toArray),(1,v),(2,PQ n2 0),(4,PQ ab 0),(5,PQ f 0),(6,NI t),(7,U ((Sha.sched b 64).getD (t) 0)),(8,U (((Sha.rotr ((V).getD (4) 0) 6)^^^(Sha.rotr ((V).getD (4) 0) 11))^^^(Sha.rotr ((V).getD (4) 0) 25))),(9,U ((((V).getD (4) 0)&&&((V).getD (5) 0))^^^((~~~((V).getD (4) 0))&&&((V).getD (6) 0)))),(10,U ((((((V).getD (7) 0)+(((Sha.rotr ((V).getD (4) 0) 6)^^^(Sha.rotr ((V).getD (4) 0) 11))^^^(Sha.rotr ((V).getD (4) 0) 25)))+((((V).getD (4) 0)&&&((V).getD (5) 0))^^^((~~~((V).getD (4) 0))&&&((V).getD (6) 0))))+(Sha.words.getD (t) 0))+((Sha.sched b 64).getD (t) 0))),(11,U (((Sha.rotr ((V).getD (0) 0) 2)^^^(Sha.rotr ((V).getD (0) 0) 13))^^^(Sha.rotr ((V).getD (0) 0) 22))),(12,U (((((V).getD (0) 0)&&&((V).getD (1) 0))^^^(((V).getD (0) 0)&&&((V).getD (2) 0)))^^^(((V).getD (1) 0)&&&((V).getD (2) 0)))),(16, .agg ((Sha.sched b 64).map fun x=>U x).toArray),(17,NI ((t)+(1)))] ⟨o,p,r,q,c,T6,T7,T8,T9,ag,aq,bb,u,rfl,trivial⟩ fun c9 ⟨o,p,r,q,c,T6,T7,T8,T9,ag,aq,bb,u,n,_⟩=>(tN (And.intro ⟨t+1,o,p,r,q,c,u,n,hE,g,j,k,m,AZ hb36l (congrArg (List.map fun x=>U x) (by rw[hV];rfl)),by omega,trivial⟩ ?_))))))))))
  show 64-(intOf (c9 17)).toNat<64-(intOf (bp 17)).toNat
  rw[n,q17]
  simp only[intOf,Int.toNat_natCast];omega
 obtain⟨T,hT⟩:∃T,T=Sha.turned s (Sha.sched b 64) 64:=⟨_,rfl⟩
 have hTl:T.length=8:=by rw[hT,Sha.turned_length _ _ hs]
 have hb36l:a9.heap[f]? =some (.cells ((T).map fun x=>U x).toArray 88 (0,0)):=AZ hb36l (by rw[hV,show t=64 by omega,←hT])
 refine AJ (Ag (Ag (Ap (tN (bn _ _ (sk fun e1 da=>(sk fun e3 db=>(wt (oM rfl (AH [(0, .agg ((s).map fun x=>U x).toArray),(1,v),(2,PQ n2 0),(4,PQ ab 0),(5,PQ f 0),(16, .agg ((Sha.sched b 64).map fun x=>U x).toArray),(17,NI t),(107,NI 0)] ⟨o,p,r,q,c,u,n,rfl,trivial⟩ fun e4 ⟨o,p,r,q,c,u,n,z,_⟩=>(tN (db _ _ (Aj (AX (fun(ρ:Aq) (wz:World)=>∃i:Nat,ρ 0=(.agg ((s).map fun x=>U x).toArray:Value)∧ρ 1=(v:Value)∧ρ 2=(PQ n2 0:Value)∧ρ 4=(PQ ab 0:Value)∧ρ 5=(PQ f 0:Value)∧ρ 16=(.agg ((Sha.sched b 64).map fun x=>U x).toArray:Value)∧ρ 17=(NI t:Value)∧ρ 107=(NI i:Value)∧Ext w wz∧wz.heap[n2]? =some (.cells ((s).map fun x=>U x).toArray 88 (0,0))∧Ext w3 wz∧wz.heap[ab]? =some (.cells ((List.replicate 8 0).map fun x=>U x).toArray 88 (0,0))∧Ext aw wz∧wz.heap[f]? =some (.cells ((Sha.adding T s i).map fun x=>U x).toArray 88 (0,0))∧(i≤8)∧True) (fun ρ _=>8-(intOf (ρ 107)).toNat) ⟨0,o,p,r,q,c,u,n,z,hE,g,j,k,m,AZ hb36l (rfl),Nat.zero_le _,trivial⟩ ?_))))))))))))))
 clear hb36l
 clear hE g j k m
 rintro dc dd ⟨i,o,p,r,q,c,u,n,z,hE,g,j,k,m,hb36ll,hi,-⟩
 have q107:=z
 have hal:(Sha.adding T s i).length=8:=by rw[Sha.adding_length,hTl]
 refine sk fun fa de=>(wt (oS rfl (Yk.eqI (a:=(i:Nat)) (b:=(8:Nat)) z rfl (AN _ _ _ _) (oZ (tN (de _ _ (sk fun fb df=> ?_)))))))
 refine AO ((i)<(8)) (vr (.bool (decide ((i)<(8)))) rfl) (fun bc=> ?_) (fun bc=> ?_)
 ·refine Ah (tN (df _ _ (sk fun fc dg=>(Aj (sk fun fd dh=>(wt (oM rfl (oA rfl (oZ (tN (dh _ _ ?_)))))))))))
  refine Dg 8 (fun(a_ b_:World)=>b_.heap[f]? =some (.cells (((Sha.adding T s i).set (i) (((Sha.adding T s i).getD (i) 0)+((s).getD (i) 0))).map fun x=>U x).toArray 88 (0,0))∧a_.grownBy b_ (some f)∧b_.heap.size=a_.heap.size) [Is (NI i),Is (PQ f i),Is (U ((Sha.adding T s i).getD (i) 0)),Is (NI i),Is (PQ n2 i),Is (U ((s).getD (i) 0)),Is (U (((Sha.adding T s i).getD (i) 0)+((s).getD (i) 0))),Is (PQ f i),(fun _ _=>True)] (by kernel_rfl) [110,111,112,113,114,115,116,117] (by kernel_rfl) (by kernel_rfl) (by kernel_rfl) rfl (KS ⟨Stab.any,trivial⟩) (KS ⟨Stab.any,trivial⟩) ?di ?hQ4015
  case di=>
   refine⟨?_,?_,?_,?_,?_,?_,?_,?_,?_,trivial⟩
   ·refine Aa rfl fun σ w1 hC h=> ?_
    have a1:=(Ab (h 13 (by decide))).trans z
    have hC:Ext _ w1:=hC
    exact Yk.move a1 ⟨Ext.refl _,rfl⟩
   ·refine Aa rfl fun σ w1 hC h=> ?_
    have y:=(Ab (h 5 (by decide))).trans c
    have a2:=Ab (h 110 (by decide))
    have hC:Ext _ w1:=hC
    exact Yk.atArr0 (i:=i) Bf A9 y a2 (by omega) ⟨Ext.refl _,rfl⟩
   ·refine Aa rfl fun σ w1 hC h=> ?_
    have dj:=Ab (h 111 (by decide))
    have hC:Ext _ w1:=hC
    exact Yk.cell1 A8 rfl dj (Ai (eb hC hb36ll) (AW (i:=i) (by rw[hal];omega))) ⟨Ext.refl _,rfl⟩
   ·refine Aa rfl fun σ w1 hC h=> ?_
    have a1:=(Ab (h 13 (by decide))).trans z
    have hC:Ext _ w1:=hC
    exact Yk.move a1 ⟨Ext.refl _,rfl⟩
   ·refine Aa rfl fun σ w1 hC h=> ?_
    have e2:=(Ab (h 2 (by decide))).trans r
    have dl:=Ab (h 113 (by decide))
    have hC:Ext _ w1:=hC
    exact Yk.atArr0 (i:=i) Bf A9 e2 dl (by omega) ⟨Ext.refl _,rfl⟩
   ·refine Aa rfl fun σ w1 hC h=> ?_
    have dm:=Ab (h 114 (by decide))
    have hC:Ext _ w1:=hC
    exact Yk.cell1 A8 rfl dm (Ai (eb hC g) (AW (i:=i) (by rw[hs];omega))) ⟨Ext.refl _,rfl⟩
   ·refine Aa rfl fun σ w1 hC h=> ?_
    have dn:=Ab (h 112 (by decide))
    have dp:=Ab (h 115 (by decide))
    have hC:Ext _ w1:=hC
    exact Yk.bin dn dp rfl (BR _ _ _) ⟨Ext.refl _,rfl⟩
   ·refine Aa rfl fun σ w1 hC h=> ?_
    have y:=(Ab (h 5 (by decide))).trans c
    have a2:=Ab (h 110 (by decide))
    have hC:Ext _ w1:=hC
    exact Yk.atArr0 (i:=i) Bf A9 y a2 (by omega) ⟨Ext.refl _,rfl⟩
   ·refine Aa rfl fun σ w1 hC h=> ?_
    have dq:=Ab (h 117 (by decide))
    have dr:=Ab (h 116 (by decide))
    have hC:Ext _ w1:=hC
    exact Yk.storeU32 (i:=i) (v:=((Sha.adding T s i).getD (i) 0)+((s).getD (i) 0)) dq dr (eb hC hb36ll) (by rw[hal];omega) F0 fun w2 h1 h2 h3=>⟨⟨h1,h2,h3⟩,trivial⟩
  intro fe ff ds an dt he hf
  obtain⟨-,-,-,-,-,-,-,-,-⟩:=hf
  obtain⟨o,p,r,q,c,bd,u,n,z,-⟩:=he.hold [(0,_),(1,_),(2,_),(4,_),(5,_),(13,_),(16,_),(17,_),(107,_)] ⟨o,p,r,q,c,z,u,n,z,trivial⟩ rfl
  clear he
  have hE:=hE.trans an
  have g:=eb an g
  have j:=j.trans an
  have k:=eb an k
  have m:=m.trans an
  have hb36ll:=eb an hb36ll
  obtain⟨be,au,fg⟩:=dt
  have hE:=Ac hE au (Nat.le_trans az (by omega))
  have g:=kb au g (by omega)
  have j:=Ac j au (Nat.le_trans a0 (by omega))
  have k:=kb au k (by omega)
  have m:=Ac m au (Nat.le_trans (Nat.le_refl _) (by omega))
  clear hb36ll
  have hb36ll:=be;clear be
  have fh:=bl hb36ll
  have hb36ll:ds.heap[f]? =some (.cells ((Sha.adding T s (i+1)).map fun x=>U x).toArray 88 (0,0)):=AZ hb36ll (rfl)
  refine bN (tN (dg _ _ (wt (oS rfl (Yk.bin (xv:=NI i) (yv:=NI 1) z rfl rfl (Ak _ _ _ (by omega)) (oM rfl (AH [(0, .agg ((s).map fun x=>U x).toArray),(1,v),(2,PQ n2 0),(4,PQ ab 0),(5,PQ f 0),(13,NI i),(16, .agg ((Sha.sched b 64).map fun x=>U x).toArray),(17,NI t),(107,NI ((i)+(1)))] ⟨o,p,r,q,c,bd,u,n,rfl,trivial⟩ fun du ⟨o,p,r,q,c,bd,u,n,z,_⟩=>(tN (And.intro ⟨i+1,o,p,r,q,c,u,n,z,hE,g,j,k,m,AZ hb36ll (rfl),by omega,trivial⟩ ?_)))))))))
  show 8-(intOf (du 107)).toNat<8-(intOf (dc 107)).toNat
  rw[z,q107]
  simp only[intOf,Int.toNat_natCast];omega
 obtain⟨Q,hQ⟩:∃Q,Q=Sha.rounds s b:=⟨_,rfl⟩
 have hAl:Q.length=8:=by rw[hQ,Sha.rounds_length _ _ hs]
 have hb36ll:dd.heap[f]? =some (.cells ((Q).map fun x=>U x).toArray 88 (0,0)):=AZ hb36ll (congrArg (List.map fun x=>U x) ((Sha.adding_end hs hTl hi bc).trans (by rw[hQ,hT];rfl)))
 refine AJ (Ag (Ag (Ap (tN (da _ _ (sk fun fi dv=>(wt (oS rfl (Yk.loadAll c hb36ll Bf rfl (by rw[List.size_toArray,List.length_map,hAl];exact DQ) (oS rfl (Yk.storeAll q (vr (.agg ((Q).map fun x=>U x).toArray) rfl) k (by rw[List.size_toArray,List.size_toArray,List.length_map,List.length_map,hAl];rfl) (by rw[List.size_toArray,List.length_map,hAl];exact DQ) (Do _) fun fj bf ax fk=> ?_)))))))))))
 have hE:=Ac hE ax (Nat.le_trans bj (by omega))
 have g:=kb ax g (by omega)
 have j:=Ac j ax (Nat.le_trans (Nat.le_refl _) (by omega))
 clear k
 clear m
 have hb36ll:=kb ax hb36ll (by omega)
 have k:=bf;clear bf
 have fl:=bl k
 refine oZ (tN (dv _ _ (As (Ao (fn:=Tryd.f69) _ rfl [.agg ((Q).map fun x=>U x).toArray] (.agg ((Q).map fun x=>U x).toArray) rfl ⟨ResF.row q k Bf rfl (by rw[List.size_toArray,List.length_map,hAl];exact DQ),trivial⟩ ?_))))
 rw[hQ]
 exact⟨rfl,hE⟩
namespace Sha
theorem blocks_snoc:∀(k:Nat) (s:List UInt32) (b:List UInt8),blocks s b (k+1)=rounds (blocks s b k) ((b.drop (64*k)).take 64)
  | 0,s,b=>by simp[blocks]
  | k+1,s,b=>by
    rw[blocks,blocks_snoc k,blocks,List.drop_drop]
    rw[show 64+64*k=64*(k+1) by omega]
theorem blocks_append:∀(k:Nat) (s:List UInt32) (b c:List UInt8),64*k≤b.length→blocks s (b++c) k=blocks s b k
  | 0,_,_,_,_=>rfl
  | k+1,s,b,c,h=>by
    rw[blocks,blocks,List.take_append_of_le_length (by omega),List.drop_append_of_le_length (by omega),blocks_append k _ _ _ (by rw[List.length_drop];omega)]
structure At (p : List UInt8) (s : List UInt32) (r : List UInt8) : Prop where
  state:s=blocks first p (p.length/64)
  len:r.length=64
  rest:r.take (p.length%64)=p.drop (64*(p.length/64))
theorem At.slen{p:List UInt8}{s:List UInt32}{r:List UInt8}(h:At p s r):s.length=8:=by rw[h.state];exact blocks_length _ _ _ rfl
theorem At.put{p:List UInt8}{s:List UInt32}{r:List UInt8}(h:At p s r)(x:List UInt8)(hx:p.length%64+x.length<64):
    At (p++x) s (r.take (p.length%64)++x++r.drop (p.length%64+x.length)):=by
  have hl:(p++x).length=p.length+x.length:=List.length_append
  have hd:(p++x).length/64=p.length/64:=by rw[hl];omega
  have hm:(p++x).length%64=p.length%64+x.length:=by rw[hl];omega
  have hr:=h.len
  refine⟨?_,?_,?_⟩
  · rw[hd,blocks_append _ _ _ _ (by omega)];exact h.state
  · simp only[List.length_append,List.length_take,List.length_drop];omega
  · have e:(r.take (p.length%64)++x).length=p.length%64+x.length:=by rw[List.length_append,List.length_take];omega
    rw[hm,hd,List.take_append_of_le_length (by omega),List.take_of_length_le (by omega),h.rest,List.drop_append_of_le_length (by omega)]
theorem At.fill{p:List UInt8}{s:List UInt32}{r:List UInt8}(h:At p s r)(x:List UInt8)(hx:p.length%64+x.length=64):
    At (p++x) (rounds s (r.take (p.length%64)++x)) (r.take (p.length%64)++x):=by
  have hl:(p++x).length=p.length+x.length:=List.length_append
  have hd:(p++x).length/64=p.length/64+1:=by rw[hl];omega
  have hm:(p++x).length%64=0:=by rw[hl];omega
  have hr:=h.len
  have e:(r.take (p.length%64)++x).length=64:=by rw[List.length_append,List.length_take];omega
  refine⟨?_,e,?_⟩
  · rw[hd,blocks_snoc,blocks_append _ _ _ _ (by omega),←h.state,List.drop_append_of_le_length (by omega),←h.rest]
    exact congrArg _ (List.take_of_length_le (Nat.le_of_eq e)).symm
  · rw[hm,hd,List.take_zero,List.drop_of_length_le (by omega)]
theorem at_nil:At [] first (List.replicate 64 0):=⟨rfl,by simp,by simp⟩
end Sha
open Go.RowKit
section
variable {P : Program}
theorem Yk.sliceArrL{K:Value→World→Prop}{ρ:Tmp→Value}{t e:TypeId}{n:Nat}(ht:P.underlying t=some (.array n e))(he:∀w' :World,(sizeOf e).run P w' = .ok 1 w'){x lo:Operand}{d:Option Tmp}{ty:TypeId}{pos:String}{af:Array Edge}{gd:Option (Nat × Bool)}{w:World}{b o i:Nat}{k:IntKind} 
    (hx:Ad ρ x = .pointer (some ⟨b,o,none⟩)) (hl:Ad ρ lo = .int k (i:Int)) (hi:i<n) (hk:K (.slice (some ⟨b,o+i,none⟩) (n-i) (n-i)) w):Yk P K ((execOp (Ad ρ) ⟨d, .slice t x (some lo) none none,ty,pos,af,gd⟩).run P w):=by
  refine Yk.value (v:= .slice (some ⟨b,o+i,none⟩) (n-i) (n-i)) (w' :=w) ?_ hk
  have hE:P.elem t=e:=by simp[Program.elem,ht]
  have hN:P.arrayLen t=n:=by simp[Program.arrayLen,ht]
  have hr:=run_sliceAt_array_l (P:=P) (w:=w) (t:=t) (a:=⟨b,o,none⟩) (by rw[hE,hN];exact ht) k (i:Int) (by omega) (by rw[hN];omega)
  rw[hE,he,hN]at hr
  unfold execOp
  simp only[hx,hl,Option.map_some,Option.map_none,Sem.run_bind,hr,Result.andThen_ok,Sem.run_pure]
  have:n≠i:=by omega
  simp[slicedAt,this,Addr.add_lit]
theorem Yk.sliceArr{K:Value→World→Prop}{ρ:Tmp→Value}{t e:TypeId}{n:Nat}(ht:P.underlying t=some (.array n e))(he:∀w' :World,(sizeOf e).run P w' = .ok 1 w'){x:Operand}{d:Option Tmp}{ty:TypeId}{pos:String}{af:Array Edge}{gd:Option (Nat × Bool)}{w:World}{b o:Nat} 
    (hx:Ad ρ x = .pointer (some ⟨b,o,none⟩)) (hk:K (.slice (some ⟨b,o,none⟩) n n) w):Yk P K ((execOp (Ad ρ) ⟨d, .slice t x none none none,ty,pos,af,gd⟩).run P w):=by
  refine Yk.value (v:= .slice (some ⟨b,o,none⟩) n n) (w' :=w) ?_ hk
  have hE:P.elem t=e:=by simp[Program.elem,ht]
  have hN:P.arrayLen t=n:=by simp[Program.arrayLen,ht]
  have hr:=run_sliceAt_array_all (P:=P) (w:=w) (t:=t) (a:=⟨b,o,none⟩) (by rw[hE,hN];exact ht)
  rw[hE,he,hN]at hr
  unfold execOp
  simp only[hx,Option.map_none,Sem.run_bind,hr,Result.andThen_ok,Sem.run_pure]
  simp[slicedAt,Addr.add_lit]
theorem La{w:World}{b:Nat}{l:List Value}{t:TypeId}{fr:Nat × Nat}(h:w.heap[b]? =some (.cells l.toArray t fr)){i:Nat}{v:Value}(hi:l[i]? =some v):w.cell? ⟨b,i,none⟩=some v:=by
  simp[World.cell?,h,hi]
end
def hashL(s:List UInt32)(r:List UInt8)(f n:Nat):List Value:=(s.map fun x=>U x)++(Lib.byteCells r++ [NI f,NI n])
theorem Cm{s:List UInt32}{r:List UInt8}{f n:Nat}(hs:s.length=8)(hr:r.length=64):(hashL s r f n).length=74:=by
  simp[hashL,Lib.byteCells,hs,hr]
theorem F1{s:List UInt32}{r:List UInt8}{f n:Nat}(hs:s.length=8)(hr:r.length=64):(hashL s r f n)[72]? =some (NI f):=by
  unfold hashL
  rw[List.getElem?_append_right (by simp[hs]),List.getElem?_append_right (by simp[Lib.byteCells,hs,hr])]
  simp[Lib.byteCells,hs,hr]
theorem EL{s:List UInt32}{r:List UInt8}{f n:Nat}(hs:s.length=8)(hr:r.length=64):(hashL s r f n)[73]? =some (NI n):=by
  unfold hashL
  rw[List.getElem?_append_right (by simp[hs]),List.getElem?_append_right (by simp[Lib.byteCells,hs,hr])]
  simp[Lib.byteCells,hs,hr]
theorem Gg{s:List UInt32}{r:List UInt8}{f n g:Nat}(hs:s.length=8)(hr:r.length=64):(hashL s r f n).set 72 (NI g)=hashL s r g n:=by
  unfold hashL
  rw[List.set_append_right _ _ (by simp[hs]),List.set_append_right _ _ (by simp[Lib.byteCells,hs,hr])]
  simp[Lib.byteCells,hs,hr]
theorem Gh{s:List UInt32}{r:List UInt8}{f n g:Nat}(hs:s.length=8)(hr:r.length=64):(hashL s r f n).set 73 (NI g)=hashL s r f g:=by
  unfold hashL
  rw[List.set_append_right _ _ (by simp[hs]),List.set_append_right _ _ (by simp[Lib.byteCells,hs,hr])]
  simp[Lib.byteCells,hs,hr]
theorem Lw{s:List UInt32}{r x:List UInt8}{f n at_:Nat}(hs:s.length=8)(hr:r.length=64)(hx:at_+x.length≤64):
    (hashL s r f n).take (8+at_)++Lib.byteCells x++(hashL s r f n).drop (8+at_+x.length)=hashL s (r.take at_++x++r.drop (at_+x.length)) f n:=by
  unfold hashL
  have h8:(s.map fun x=>U x).length=8:=by simp[hs]
  have hb:(Lib.byteCells r).length=64:=by simp[Lib.byteCells,hr]
  rw[List.take_append,List.drop_append,h8,List.take_of_length_le (by omega),List.drop_of_length_le (l:=s.map fun x=>U x) (by omega)]
  rw[show 8+at_-8=at_ by omega,show 8+at_+x.length-8=at_+x.length by omega,List.nil_append]
  rw[List.take_append_of_le_length (by omega),List.drop_append_of_le_length (by omega)]
  simp[Lib.byteCells,List.map_take,List.map_drop]
theorem Kw{s s' :List UInt32}{r:List UInt8}{f n:Nat}(hs:s.length=8):(s'.map fun x=>U x)++(hashL s r f n).drop 8=hashL s' r f n:=by
  unfold hashL
  rw[List.drop_left' (by simp[hs])]
theorem Me{s:List UInt32}{r:List UInt8}{f n:Nat}{j:Nat}{v:Value}(h:(s.map fun x=>U x)[j]? =some v):(hashL s r f n)[j]? =some v:=by
  unfold hashL
  rw[List.getElem?_append_left (List.getElem?_eq_some_iff.1 h).1]
  exact h
theorem Hb{w:World}{g:Nat}{s:List UInt32}{r:List UInt8}{f n:Nat}{t:TypeId}{fr:Nat × Nat}(h:w.heap[g]? =some (.cells (hashL s r f n).toArray t fr)):w.rangeAt g 0 (s.map fun x=>U x):=fun j v hv=>by
  rw[Nat.zero_add]
  exact La h (Me hv)
theorem OF{w:World}{g:Nat}{s:List UInt32}{r:List UInt8}{f n:Nat}{t:TypeId}{fr:Nat × Nat}(hs:s.length=8)(hr:r.length=64)(h:w.heap[g]? =some (.cells (hashL s r f n).toArray t fr)):RB w (.slice (some ⟨g,8,none⟩) 64 64) r:=by
  refine⟨by simp[Lib.byteCells],some ⟨g,8,none⟩,64,by rw[hr],by rw[hr];exact Nat.le_refl _,by decide,fun e=>by simp at e,fun a ha j v hv=> ?_⟩
  cases ha
  rw[Addr.add_lit]
  refine La h ?_
  unfold hashL
  have h8:(s.map fun x=>U x).length=8:=by simp[hs]
  rw[List.getElem?_append_right (by omega),h8,show 8+j-8=j by omega,List.getElem?_append_left (List.getElem?_eq_some_iff.1 hv).1]
  exact hv
theorem Laid.kept{w w' :World}(h:Laid w){g:Nat}(hg:w.grownBy w' (some g))(h1:1<g):Laid w' :=
  ⟨by obtain⟨t,fr,h2⟩:=h.first;exact⟨t,fr,(hg.block 0 (Array.getElem?_eq_some_iff.1 h2).1 (by simp;omega)).trans h2⟩,by obtain⟨t,fr,h2⟩:=h.words;exact⟨t,fr,(hg.block 1 (Array.getElem?_eq_some_iff.1 h2).1 (by simp;omega)).trans h2⟩⟩
open Go.RowKit
theorem Grew.after{w w1 a:World}{v v' :Value}(h:Ext w w1)(g:Grew w1 a v v'):Grew w a v v' :=
  ⟨Bu (Js h.grown _) g.by_ (fun _ hb=> .inl hb),fun k hk=>(g.fresh k hk).imp (fun x=>x) (fun x=>Nat.le_trans h.size x)⟩
theorem Gi{P:Program}{w:World}:∀(l:List UInt8) (a:Addr) (acc:ByteArray),(∀j u,(Lib.byteCells l)[j]? =some u→w.cell? (a.add j)=some u)→(Extern.Bytes.loadBytes a l.length acc).run P w = .ok ⟨acc.data++l.toArray⟩ w
  | [],a,acc,_=>by simp[Extern.Bytes.loadBytes,Sem.run_pure]
  | b :: r,a,acc,h=>by
    have h0:=h 0 (B8 b) (by simp[Lib.byteCells])
    have ha:a.add 0=a:=by unfold Addr.add;split <;> simp_all
    rw[ha]at h0
    have ih:=Gi (P:=P) (w:=w) r (a.add 1) (acc.push b) (fun j u hj=>by
      rw[EX]
      refine h (1+j) u ?_
      rw[Nat.add_comm]
      simpa [Lib.byteCells] using hj)
    have hb:(((b.toNat:Nat):Int)).toNat.toUInt8=b:=by simp
    have hl:(load a).run P w = .ok (B8 b) w:=by simp[load,Sem.run,h0]
    simp only[List.length_cons,Extern.Bytes.loadBytes,Sem.run_bind,hl,Result.andThen_ok]
    rw[hb,ih]
    simp
theorem Hc{P:Program}{w:World}{v:Value}{l:List UInt8}(h:RB w v l):(Extern.Bytes.bytesOf v).run P w = .ok ⟨l.toArray⟩ w:=by
  obtain⟨h1,ao,cap,rfl,h2,h3,h4,h5⟩:=h
  cases ao with
  | none=>
    have:l= []:=List.eq_nil_of_length_eq_zero (h4 rfl).1
    subst this
    rfl
  | some a=>
    have:=Gi (P:=P) (w:=w) l a .empty (h5 a rfl)
    simpa [Extern.Bytes.bytesOf] using this
theorem Jg{P:Program}{w:World}{x y:Value}{l m:List UInt8}(hx:RB w x l)(hy:RB w y m):(Extern.BytealgCompare.compare #[x,y]).run P w = .ok (.int .i64 (Lib.compareBytes l m)) w:=by
  change Sem.run P (do pure (goInt (Extern.BytealgCompare.cmp (←Extern.Bytes.bytesOf x) (←Extern.Bytes.bytesOf y)))) w=_
  simp only[Sem.run_bind,Hc hx,Hc hy,Sem.run_pure,Result.andThen_ok]
  rw[Lib.cmp_eq]
  rfl
section
variable {P : Program} {K : Value → World → Prop} {ρ : Aq} {w : World} {d : Option Tmp} {ty : TypeId} {pos : String} {af : Array Edge} {gd : Option (Nat × Bool)}
theorem Yk.extern2{f:FuncId}{at_:Array TypeId}{x y:Operand}{a b v:Value}(hx:Ad ρ x=a)(hy:Ad ρ y=b)(hr:(callFunc f #[a,b]).run P w = .ok (.value v) w)(hk:K v w):Yk P K ((execOp (Ad ρ) ⟨d, .call ⟨.value (.func f),#[x,y],at_⟩,ty,pos,af,gd⟩).run P w):=by
  refine Yk.value (v:=v) (w' :=w) ?_ hk
  have hf:Ad ρ (.func f) = .func (.func f) #[] #[]:=rfl
  unfold execOp
  simp[resolve,hf,Deferred.ofValue,invoke,hx,hy,hr]
theorem Yk.lit4{t e:TypeId}(hr:∀(z0 z1 z2 z3:Int) (w:World),(Instr.buildSlice t 4 #[(0, .int .u8 z0),(1, .int .u8 z1),(2, .int .u8 z2),(3, .int .u8 z3)]).run P w = .ok (.slice (some ⟨w.heap.size,0,none⟩) 4 4) (w.alloc (.cells #[.int .u8 z0, .int .u8 z1, .int .u8 z2, .int .u8 z3] e))) 
    {x0 x1 x2 x3:Operand} {b0 b1 b2 b3:UInt8} (h0:Ad ρ x0=B8 b0) (h1:Ad ρ x1=B8 b1) (h2:Ad ρ x2=B8 b2) (h3:Ad ρ x3=B8 b3)
    (hk:∀v w',NewB e w w' v [b0,b1,b2,b3]→K v w'):Yk P K ((execOp (Ad ρ) ⟨d, .buildSlice t 4 #[(0,x0),(1,x1),(2,x2),(3,x3)],ty,pos,af,gd⟩).run P w):=by
  have hr' :(execOp (Ad ρ) ⟨d, .buildSlice t 4 #[(0,x0),(1,x1),(2,x2),(3,x3)],ty,pos,af,gd⟩).run P w = .ok (.value (.slice (some ⟨w.heap.size,0,none⟩) 4 4)) (w.alloc (.cells (Lib.byteCells [b0,b1,b2,b3]).toArray e)):=by
    unfold execOp
    simp only[List.map_toArray,List.map_cons,List.map_nil,h0,h1,h2,h3,Sem.run_bind,hr,Result.andThen_ok,Sem.run_pure]
    rfl
  rw[hr']
  exact hk _ _ (FT w e [b0,b1,b2,b3] (by simp))
theorem C6{x y:List UInt8}(hx:x.length=32)(hy:y.length=32):(Lib.byteCells x).toArray.size=(Lib.byteCells y).toArray.size:=by simp[Lib.byteCells,hx,hy]
theorem A5{x:List UInt8}(h:(Lib.byteCells x).length=32):x.length=32:=by rwa [Lib.byteCells_length]at h
theorem RB.ofBlk{g:Nat}{l:List UInt8}{t:TypeId}{fr:Nat × Nat}(h:w.heap[g]? =some (.cells (Lib.byteCells l).toArray t fr))(hl:l.length≤9223372036854775807):RB w (.slice (some ⟨g,0,none⟩) l.length l.length) l:=
  ⟨by simp[Lib.byteCells],_,_,rfl,Nat.le_refl _,by unfold maxLen;omega,(fun h=>by cases h),fun a ha j u hu=>by
    cases ha
    rw[Addr.add_lit,Nat.zero_add]
    exact Ai h hu⟩
theorem RB.ofBlkN{g n:Nat}{l:List UInt8}{t:TypeId}{fr:Nat × Nat}(h:w.heap[g]? =some (.cells (Lib.byteCells l).toArray t fr))(hn:l.length=n)(hl:n≤9223372036854775807):RB w (.slice (some ⟨g,0,none⟩) n n) l:=by
  subst hn
  exact RB.ofBlk h hl
end
/-! ### The order of rows of bytes -/
theorem Mf:∀a b:List UInt8,Lib.compareBytes a b = -1∨Lib.compareBytes a b=0∨Lib.compareBytes a b=1
  | [],[]=> .inr (.inl rfl)
  | [],_ :: _=> .inl rfl
  | _ :: _,[]=> .inr (.inr rfl)
  | x :: a,y :: b=>by
    unfold Lib.compareBytes
    split
    · exact .inl rfl
    · split
      · exact .inr (.inr rfl)
      · exact Mf a b
theorem Hl:∀ {a b:List UInt8},Lib.compareBytes a b=0→a=b
  | [],[],_=>rfl
  | [],_ :: _,h=>by simp[Lib.compareBytes]at h
  | _ :: _,[],h=>by simp[Lib.compareBytes]at h
  | x :: a,y :: b,h=>by
    unfold Lib.compareBytes at h
    split at h
    · cases h
    · split at h
      · cases h
      · rename_i h1 h2
        have hxy:x=y:=UInt8.le_antisymm (UInt8.not_lt.1 h2) (UInt8.not_lt.1 h1)
        rw[hxy,Hl h]
theorem FK:∀a b:List UInt8,Lib.compareBytes a b = - Lib.compareBytes b a
  | [],[]=>rfl
  | [],_ :: _=>rfl
  | _ :: _,[]=>rfl
  | x :: a,y :: b=>by
    unfold Lib.compareBytes
    by_cases h1:x<y
    · rw[if_pos h1,if_neg (UInt8.lt_asymm h1),if_pos h1]
    · by_cases h2:y<x
      · rw[if_neg h1,if_pos h2,if_pos h2];rfl
      · rw[if_neg h1,if_neg h2,if_neg h2,if_neg h1]
        exact FK a b
theorem EC:∀ {a b c:List UInt8},Lib.compareBytes a b≤0→Lib.compareBytes b c≤0→Lib.compareBytes a c≤0
  | [],_,[],_,_=>by simp[Lib.compareBytes]
  | [],_,_ :: _,_,_=>by simp[Lib.compareBytes]
  | _ :: _,[],_,h,_=>by simp[Lib.compareBytes]at h
  | _ :: _,_ :: _,[],_,h=>by simp[Lib.compareBytes]at h
  | x :: a,y :: b,z :: c,h1,h2=>by
    unfold Lib.compareBytes at h1 h2 ⊢
    by_cases xy:x<y
    · by_cases yz:y<z
      · rw[if_pos (UInt8.lt_trans xy yz)];decide
      · by_cases zy:z<y
        · rw[if_neg yz,if_pos zy]at h2;exact absurd h2 (by decide)
        · have:y=z:=UInt8.le_antisymm (UInt8.not_lt.1 zy) (UInt8.not_lt.1 yz)
          rw[←this,if_pos xy];decide
    · by_cases yx:y<x
      · rw[if_neg xy,if_pos yx]at h1;exact absurd h1 (by decide)
      · have e:x=y:=UInt8.le_antisymm (UInt8.not_lt.1 yx) (UInt8.not_lt.1 xy)
        subst e
        rw[if_neg xy,if_neg xy]at h1
        by_cases xz:x<z
        · rw[if_pos xz];decide
        · by_cases zx:z<x
          · rw[if_neg xz,if_pos zx]at h2;exact absurd h2 (by decide)
          · rw[if_neg xz,if_neg zx]at h2 ⊢
            exact EC h1 h2
def CI(l:List (List UInt8)):Prop:=l.Pairwise fun a b=>Lib.compareBytes a b≤0
theorem JA:∀ {l m:List (List UInt8)},CI l→CI m→l.Perm m→l=m
  | [],m,_,_,h=>(List.nil_perm.1 h).symm
  | l,[],_,_,h=>List.perm_nil.1 h
  | a :: l,b :: m,h1,h2,h=>by
    have ha:=List.pairwise_cons.1 h1
    have hb:=List.pairwise_cons.1 h2
    have e:a=b:=by
      have m1:a∈b :: m:=h.subset (by simp)
      have m2:b∈a :: l:=h.symm.subset (by simp)
      rcases List.mem_cons.1 m1 with e | m1
      · exact e
      · rcases List.mem_cons.1 m2 with e | m2
        · exact e.symm
        · have k1:=hb.1 a m1
          have k2:=ha.1 b m2
          have k3:=FK a b
          exact Hl (by omega)
    subst e
    rw[JA ha.2 hb.2 (List.Perm.cons_inv h)]
def Hm(x:List UInt8):List (List UInt8)→List (List UInt8)
  | []=> [x]
  | a :: r=>if Lib.compareBytes x a≤0 then x :: a :: r else a :: Hm x r
def Az:List (List UInt8)→List (List UInt8)
  | []=> []
  | a :: r=>Hm a (Az r)
theorem Gt(x:List UInt8):∀l,(Hm x l).Perm (x :: l)
  | []=>List.Perm.refl _
  | a :: r=>by
    unfold Hm
    split
    · exact List.Perm.refl _
    · exact((Gt x r).cons a).trans (List.Perm.swap x a r)
theorem sortB_perm:∀l,(Az l).Perm l
  | []=>List.Perm.refl _
  | a :: r=>(Gt a _).trans ((sortB_perm r).cons a)
theorem JB(x:List UInt8):∀l,CI l→CI (Hm x l)
  | [],_=>by simp[Hm,CI]
  | a :: r,h=>by
    have hr:=List.pairwise_cons.1 h
    unfold Hm
    split
    · rename_i hx
      refine List.pairwise_cons.2 ⟨fun c hc=> ?_,h⟩
      rcases List.mem_cons.1 hc with rfl | hc
      · exact hx
      · exact EC hx (hr.1 c hc)
    · rename_i hx
      refine List.pairwise_cons.2 ⟨fun c hc=> ?_,JB x r hr.2⟩
      rcases List.mem_cons.1 ((Gt x r).subset hc)with rfl | hc
      · have:=FK c a
        omega
      · exact hr.1 c hc
theorem Gu:∀l,CI (Az l)
  | []=>List.Pairwise.nil
  | a :: r=>JB a _ (Gu r)
theorem BQ(l:List (List UInt8)):(Az l).length=l.length:=(sortB_perm l).length_eq
theorem IB{l m:List (List UInt8)}(h:CI m)(hp:m.Perm l):m=Az l:=JA h (Gu l) (hp.trans (sortB_perm l).symm)
abbrev Bs:=List UInt8
def AI(n:Nat):Bs:= [UInt8.ofNat (n/2^24),UInt8.ofNat (n/2^16),UInt8.ofNat (n/2^8),UInt8.ofNat n]
def DD(b:Bs):Nat:=(b.getD 0 0).toNat*2^24+(b.getD 1 0).toNat*2^16+(b.getD 2 0).toNat*2^8+(b.getD 3 0).toNat
theorem C7(n:Nat):(AI n).length=4:=rfl
theorem Pl(a b c d:Nat)(hb:b<256)(hc:c<256)(hd:d<256):a*2^24|||b*2^16|||c*2^8|||d=a*2^24+b*2^16+c*2^8+d:=by
  have e:a*2^24|||b*2^16=(a*2^8+b)*2^16:=by
    have:=Jv a (b*2^16) 24 (by omega)
    rw[this]
    omega
  have f:(a*2^8+b)*2^16|||c*2^8=((a*2^8+b)*2^8+c)*2^8:=by
    have:=Jv (a*2^8+b) (c*2^8) 16 (by omega)
    rw[this]
    omega
  rw[e,f,Jv _ d 8 (by omega)]
  omega
theorem F2(n:Nat)(h:n<2^32)(r:Bs):DD (AI n++r)=n:=by
  unfold DD AI
  simp
  omega
def Dj(id:Bs):Nat:=(id.getD 0 0).toNat
theorem O4(id:Bs):Dj id<256:=(id.getD 0 0).toNat_lt
def AY(ids:List Bs):List Nat:=(List.range 256).map fun c=>ids.countP fun id=>decide (Dj id≤c)
def BZ(ids:List Bs):List Nat:=(List.range 256).map fun c=>ids.countP fun id=>decide (Dj id=c)
theorem BC(ids:List Bs):(AY ids).length=256:=by simp[AY]
theorem Cn(ids:List Bs):(BZ ids).length=256:=by simp[BZ]
theorem EM(ids:List Bs)(c:Nat)(h:c<256):(BZ ids).getD c 0=ids.countP fun id=>decide (Dj id=c):=by
  rw[List.getD_eq_getElem?_getD]
  simp[BZ,h]
theorem E1(ids:List Bs)(c:Nat)(h:c<256):(AY ids).getD c 0=ids.countP fun id=>decide (Dj id≤c):=by
  rw[List.getD_eq_getElem?_getD]
  simp[AY,h]
theorem G0(ids:List Bs)(c:Nat):(AY ids).getD c 0≤ids.length:=by
  by_cases h:c<256
  · rw[E1 _ _ h]
    exact List.countP_le_length
  · rw[List.getD_eq_getElem?_getD,List.getElem?_eq_none (by rw[BC];omega)]
    simp
theorem Kx(ids:List Bs)(id:Bs):BZ (ids++ [id])=(BZ ids).set (Dj id) ((BZ ids).getD (Dj id) 0+1):=by
  have hb:=O4 id
  apply List.ext_getElem?
  intro c
  by_cases hc:c<256
  · rw[List.getElem?_eq_getElem (by rw[Cn];exact hc),List.getElem?_eq_getElem (by rw[List.length_set,Cn];exact hc)]
    congr 1
    rw[List.getElem_set]
    have g:∀(l:List Bs) (h:c<(BZ l).length),(BZ l)[c]=l.countP fun id=>decide (Dj id=c):=fun l h=>by simp[BZ]
    rw[g]
    split
    · rename_i he
      rw[he,EM _ _ hc,List.countP_append]
      simp[he]
    · rename_i he
      rw[g,List.countP_append]
      simp[he]
  · rw[List.getElem?_eq_none (by rw[Cn];omega),List.getElem?_eq_none (by rw[List.length_set,Cn];omega)]
def Bw(ids:List Bs)(k:Nat):List Nat:=(AY ids).take k++(BZ ids).drop k
theorem Ew(ids:List Bs)(k:Nat)(h:k≤256):(Bw ids k).length=256:=by
  unfold Bw
  rw[List.length_append,List.length_take,List.length_drop,BC,Cn]
  omega
theorem Mg(ids:List Bs):(AY ids).getD 0 0=(BZ ids).getD 0 0:=by
  rw[E1 _ _ (by omega),EM _ _ (by omega)]
  congr 1
  funext id
  simp
theorem fanStep_one(ids:List Bs):Bw ids 1=BZ ids:=by
  have h:=Mg ids
  have h1:=BC ids
  have h2:=Cn ids
  unfold Bw
  match hA:AY ids,hB:BZ ids with
  | [],_=>rw[hA]at h1;simp at h1
  | _ :: _,[]=>rw[hB]at h2;simp at h2
  | a :: A,b :: B=>
    rw[hA,hB]at h
    simp at h
    simp[h]
theorem Mh(ids:List Bs)(c:Nat)(h:c+1<256):(AY ids).getD (c+1) 0=(BZ ids).getD (c+1) 0+(AY ids).getD c 0:=by
  rw[E1 _ _ h,EM _ _ h,E1 _ _ (by omega)]
  induction ids with
  | nil=>rfl
  | cons a r ih=>
    simp only[List.countP_cons,ih]
    by_cases h1:Dj a≤c
    · simp[h1,show Dj a≤c+1 by omega,show Dj a≠c+1 by omega]
      omega
    · by_cases h2:Dj a=c+1
      · simp[h2,show ¬c+1≤c by omega]
        omega
      · simp[h1,h2,show ¬Dj a≤c+1 by omega]
theorem Gv(ids:List Bs)(k:Nat)(h0:0<k)(h:k<256):Bw ids (k+1)=(Bw ids k).set k ((Bw ids k).getD k 0+(Bw ids k).getD (k-1) 0):=by
  have g1:(Bw ids k).getD k 0=(BZ ids).getD k 0:=by
    unfold Bw
    rw[List.getD_eq_getElem?_getD,List.getElem?_append_right (by rw[List.length_take,BC];omega),List.length_take,BC,List.getElem?_drop,show k+(k-min k 256)=k by omega,←List.getD_eq_getElem?_getD]
  have g2:(Bw ids k).getD (k-1) 0=(AY ids).getD (k-1) 0:=by
    unfold Bw
    rw[List.getD_eq_getElem?_getD,List.getElem?_append_left (by rw[List.length_take,BC];omega),List.getElem?_take,if_pos (by omega),←List.getD_eq_getElem?_getD]
  have g3:=Mh ids (k-1) (by omega)
  rw[show k-1+1=k by omega]at g3
  rw[g1,g2,←g3]
  unfold Bw
  rw[List.set_append_right _ _ (by rw[List.length_take,BC];omega),List.length_take,BC,show k-min k 256=0 by omega,List.take_succ_eq_append_getElem (by rw[BC];exact h),List.append_assoc]
  congr 1
  rw[List.drop_eq_getElem_cons (l:=BZ ids) (i:=k) (by rw[Cn];exact h)]
  simp only[List.set_cons_zero,List.singleton_append,List.cons.injEq,and_true]
  rw[List.getD_eq_getElem?_getD,List.getElem?_eq_getElem (by rw[BC];exact h)]
  rfl
theorem Ky(ids:List Bs):Bw ids 256=AY ids:=by
  unfold Bw
  rw[List.take_of_length_le (by rw[BC];omega),List.drop_of_length_le (by rw[Cn];omega),List.append_nil]
open Go.RowKit
set_option maxRecDepth 100000
theorem Mi{w w0 w' :World}{e:TypeId}{v:Value}{l:List UInt8}(h:w'.ownsRow w0.heap.size e 1 v l.length (Lib.byteCells l))(hb:w.heap.size≤w0.heap.size):w'.ownsRow w.heap.size e 1 v l.length (Lib.byteCells l):=CU h hb
theorem Mj(z0 z1 z2 z3:Int)(w:World):(Instr.buildSlice 24 4 #[(0, .int .u8 z0),(1, .int .u8 z1),(2, .int .u8 z2),(3, .int .u8 z3)]).run Tryd.prog w = .ok (.slice (some ⟨w.heap.size,0,none⟩) 4 4) (w.alloc (.cells #[.int .u8 z0, .int .u8 z1, .int .u8 z2, .int .u8 z3] 5)):=by kernel_rfl
theorem Mk(z:Int)(w:World):(Instr.buildSlice 24 1 #[(0, .int .u8 z)]).run Tryd.prog w = .ok (.slice (some ⟨w.heap.size,0,none⟩) 1 1) (w.alloc (.cells #[.int .u8 z] 5)):=by kernel_rfl
theorem ND:A2 Tryd.prog 49:=fun _ _=>by kernel_rfl
theorem Hn(w0 w:World)(hE:Ext w0 w)(v:Value)(l:List UInt8)(n:Nat)(hn:n<9223372036854775808)(hl:l.length+4≤140737488355328)(hown:w.ownsRow w0.heap.size 5 1 v l.length (Lib.byteCells l)):
  Calls Tryd.prog 27 #[v,NI n] w fun e w' =>∃v',e = .returned v' ∧w'.ownsRow w0.heap.size 5 1 v' (l++AI n).length (Lib.byteCells (l++AI n))∧Grew w w' v v' :=by
 refine AA (args:= [v,NI n]) Tryd.func27 rfl 19 rfl (Nat.le_of_ble_eq_true rfl) ?_
 intro m hb
 have g:m 0=(v:Value):=hb.get 0
 have a:m 1=(NI n:Value):=hb.get 1
 clear hb
 refine sk fun y q=>(wt (oS rfl (Yk.assign (vr (Value.slice none 0 0) rfl) (AH [(0,v),(1,NI n),(4,(Value.slice none 0 0))] ⟨g,a,rfl,trivial⟩ fun z ⟨g,a,o,_⟩=>(tN (q _ _ (sk fun K3 r=>(wt (oS rfl (Yk.move g (oS rfl (Yk.move a (oS rfl (Yk.bin (xv:=NI n) (yv:= .int .u64 ((24:Nat):Int)) rfl rfl rfl (If _ _ _ _ (by omega)) (oS rfl (Yk.convI NA u5 (vr (NI ((n)/2^(24))) rfl) (DX ((n)/2^(24))) (oS rfl (Yk.move a (oS rfl (Yk.bin (xv:=NI n) (yv:= .int .u64 ((16:Nat):Int)) rfl rfl rfl (If _ _ _ _ (by omega)) (oS rfl (Yk.convI NA u5 (vr (NI ((n)/2^(16))) rfl) (DX ((n)/2^(16))) (oS rfl (Yk.move a (oS rfl (Yk.bin (xv:=NI n) (yv:= .int .u64 ((8:Nat):Int)) rfl rfl rfl (If _ _ _ _ (by omega)) ?_))))))))))))))))))))))))))
 refine oS rfl (Yk.convI NA u5 (vr (NI ((n)/2^(8))) rfl) (DX ((n)/2^(8))) (oS rfl (Yk.move a (oS rfl (Yk.convI NA u5 (vr (NI n) rfl) (DX (n)) (oS rfl (Yk.lit4 (b0:=UInt8.ofNat ((n)/2^(24))) (b1:=UInt8.ofNat ((n)/2^(16))) (b2:=UInt8.ofNat ((n)/2^(8))) (b3:=UInt8.ofNat (n)) Mj (vr (B8 (UInt8.ofNat ((n)/2^(24)))) rfl) (vr (B8 (UInt8.ofNat ((n)/2^(16)))) rfl) (vr (B8 (UInt8.ofNat ((n)/2^(8)))) rfl) (vr (B8 (UInt8.ofNat (n))) rfl) fun h s b=> ?_)))))))
 have i:=Ext.refl w
 have ab:=hE
 have ac:=hE.size
 have p:Ae v h:=A4 hown b.own
 have ad:Ae h v:=A0 hown b.own
 have hE:=hE.trans b.ext
 have hown:=Stab.own _ _ _ _ _ _ _ _ hown b.ext
 have i:=i.trans b.ext
 have j:=b.own;clear b
 refine oS rfl (Yk.appendRB _ _ w0.heap.size (.int .u8 0) DT FW rfl DT (l) (([UInt8.ofNat ((n)/2^(24)),UInt8.ofNat ((n)/2^(16)),UInt8.ofNat ((n)/2^(8)),UInt8.ofNat (n)]:List UInt8)) (BB hown (vr v rfl)) (RB.of (RB.ofOwn j) (vr h rfl)) (by simp;omega) hE.size fun c t u f=> ?_)
 have hGr:=Grew.after i f
 have f:Grew s t v c:=f
 have x:Ae c h:=Au f p j
 have ae:Ae h c:=fun k h1 h2=>x k h2 h1
 have hE:=AC hE f hown (Nat.le_refl _)
 clear hown
 clear i
 have j:=Bg j f p
 refine oS rfl (Yk.assign (vr c rfl) (AH [(0,v),(1,NI n),(4,c)] ⟨g,a,rfl,trivial⟩ fun af ⟨g,a,o,_⟩=>(tN (r _ _ (As (Ao (fn:=Tryd.f27) _ rfl [c] (c) rfl ⟨o,trivial⟩ ?_))))))
 exact⟨_,rfl,BI u rfl,hGr⟩

theorem Dz(w:World)(v:Value)(b:List UInt8)(hr:RB w v b)(hl:4≤b.length):
  Calls Tryd.prog 62 #[v] w fun e w' =>e = .returned (NI (DD b))∧Ext w w' :=by
 have c0:(b.getD 0 0).toNat<256:=(b.getD 0 0).toNat_lt
 have c1:(b.getD 1 0).toNat<256:=(b.getD 1 0).toNat_lt
 have c2:(b.getD 2 0).toNat<256:=(b.getD 2 0).toNat_lt
 have c3:(b.getD 3 0).toNat<256:=(b.getD 3 0).toNat_lt
 have f:(b.getD 0 0).toNat*2^24<9223372036854775808:=Nat.lt_of_lt_of_le (Nat.mul_lt_mul_of_pos_right c0 (by decide)) (by decide)
 have g:(b.getD 1 0).toNat*2^16<9223372036854775808:=Nat.lt_of_lt_of_le (Nat.mul_lt_mul_of_pos_right c1 (by decide)) (by decide)
 have j:(b.getD 2 0).toNat*2^8<9223372036854775808:=Nat.lt_of_lt_of_le (Nat.mul_lt_mul_of_pos_right c2 (by decide)) (by decide)
 have o:(b.getD 3 0).toNat<9223372036854775808:=by omega
 have k:(b.getD 0 0).toNat*2^24|||(b.getD 1 0).toNat*2^16<9223372036854775808:=Nat.or_lt_two_pow (n:=63) f g
 have p:(b.getD 0 0).toNat*2^24|||(b.getD 1 0).toNat*2^16|||(b.getD 2 0).toNat*2^8<9223372036854775808:=Nat.or_lt_two_pow (n:=63) k j
 refine AA (args:= [v]) Tryd.func62 rfl 25 rfl (Nat.le_of_ble_eq_true rfl) ?_
 intro q hb
 have c:q 0=(v:Value):=hb.get 0
 clear hb
 have hE:=Ext.refl w
 refine sk fun K1 r=>(wt (oA rfl (oZ (tN (r _ _ (sk fun K2 s=> ?_))))))
 refine Be [Is (v),PCell (B8 (b.getD (0) 0)),Is (B8 (b.getD (0) 0)),Is (NI ((b.getD (0) 0).toNat)),Is (NI (((b.getD (0) 0).toNat)*2^(24))),Is (v),PCell (B8 (b.getD (1) 0)),Is (B8 (b.getD (1) 0)),Is (NI ((b.getD (1) 0).toNat)),Is (NI (((b.getD (1) 0).toNat)*2^(16))),Is (NI ((((b.getD (0) 0).toNat)*2^(24))|||(((b.getD (1) 0).toNat)*2^(16)))),Is (v),PCell (B8 (b.getD (2) 0)),Is (B8 (b.getD (2) 0)),Is (NI ((b.getD (2) 0).toNat)),Is (NI (((b.getD (2) 0).toNat)*2^(8))),Is (NI (((((b.getD (0) 0).toNat)*2^(24))|||(((b.getD (1) 0).toNat)*2^(16)))|||(((b.getD (2) 0).toNat)*2^(8)))),Is (v),PCell (B8 (b.getD (3) 0)),Is (B8 (b.getD (3) 0)),Is (NI ((b.getD (3) 0).toNat)),Is (NI ((((((b.getD (0) 0).toNat)*2^(24))|||(((b.getD (1) 0).toNat)*2^(16)))|||(((b.getD (2) 0).toNat)*2^(8)))|||((b.getD (3) 0).toNat))),Is (NI ((((((b.getD (0) 0).toNat)*2^(24))|||(((b.getD (1) 0).toNat)*2^(16)))|||(((b.getD (2) 0).toNat)*2^(8)))|||((b.getD (3) 0).toNat)))] (by kernel_rfl) [3,4,5,6,7,8,9,10,11,12,13,14,15,16,17,18,19,20,21,22,23,24,2] (by kernel_rfl) (by kernel_rfl) ⟨Stab.is _,Stab.pcell _,(Gl ⟨Stab.pcell _,(Iw ⟨Stab.pcell _,(Iw ⟨Stab.pcell _,(Gl trivial)⟩)⟩)⟩)⟩ ?t ?hQ1001
 case t=>
  refine⟨?_,?_,?_,?_,?_,?_,?_,?_,?_,?_,?_,?_,?_,?_,?_,?_,?_,?_,?_,?_,?_,?_,?_,trivial⟩
  ·refine Aa rfl fun σ w1 hC h=> ?_
   have a:=(Ab (h 0 (by decide))).trans c
   exact Yk.move a ⟨Ext.refl _,rfl⟩
  ·refine Aa rfl fun σ w1 hC h=> ?_
   have u:=Ab (h 3 (by decide))
   exact Yk.atRB (l:=b) (i:=0) DT Ls (RB.of (hr.keep (hE.trans hC)) u) (vr (NI 0) rfl) (by omega) fun _ h=>⟨Ext.refl _,h⟩
  ·refine Aa rfl fun σ w1 hC h=> ?_
   have x:(PCell (B8 (b.getD (0) 0))) (σ 4) w1:=h 4 (by decide)
   exact Yk.loadC u5 rfl x ⟨Ext.refl _,rfl⟩
  ·refine Aa rfl fun σ w1 hC h=> ?_
   have y:=Ab (h 5 (by decide))
   exact Yk.convI u5 NA y (FI .i64 (b.getD (0) 0) (fun n hn=>Cy n (by omega))) ⟨Ext.refl _,rfl⟩
  ·refine Aa rfl fun σ w1 hC h=> ?_
   have z:=Ab (h 6 (by decide))
   exact Yk.bin (xv:=NI ((b.getD (0) 0).toNat)) (yv:= .int .u64 ((24:Nat):Int)) z rfl rfl (Ig _ _ _ _ (by omega) (by exact f)) ⟨Ext.refl _,rfl⟩
  ·refine Aa rfl fun σ w1 hC h=> ?_
   have a:=(Ab (h 0 (by decide))).trans c
   exact Yk.move a ⟨Ext.refl _,rfl⟩
  ·refine Aa rfl fun σ w1 hC h=> ?_
   have e8:=Ab (h 8 (by decide))
   exact Yk.atRB (l:=b) (i:=1) DT Ls (RB.of (hr.keep (hE.trans hC)) e8) (vr (NI 1) rfl) (by omega) fun _ h=>⟨Ext.refl _,h⟩
  ·refine Aa rfl fun σ w1 hC h=> ?_
   have e9:(PCell (B8 (b.getD (1) 0))) (σ 9) w1:=h 9 (by decide)
   exact Yk.loadC u5 rfl e9 ⟨Ext.refl _,rfl⟩
  ·refine Aa rfl fun σ w1 hC h=> ?_
   have ab:=Ab (h 10 (by decide))
   exact Yk.convI u5 NA ab (FI .i64 (b.getD (1) 0) (fun n hn=>Cy n (by omega))) ⟨Ext.refl _,rfl⟩
  ·refine Aa rfl fun σ w1 hC h=> ?_
   have ac:=Ab (h 11 (by decide))
   exact Yk.bin (xv:=NI ((b.getD (1) 0).toNat)) (yv:= .int .u64 ((16:Nat):Int)) ac rfl rfl (Ig _ _ _ _ (by omega) (by exact g)) ⟨Ext.refl _,rfl⟩
  ·refine Aa rfl fun σ w1 hC h=> ?_
   have e7:=Ab (h 7 (by decide))
   have ae:=Ab (h 12 (by decide))
   exact Yk.bin (xv:=NI (((b.getD (0) 0).toNat)*2^(24))) (yv:=NI (((b.getD (1) 0).toNat)*2^(16))) e7 ae rfl (Ju _ _ _ (by exact f) (by exact g)) ⟨Ext.refl _,rfl⟩
  ·refine Aa rfl fun σ w1 hC h=> ?_
   have a:=(Ab (h 0 (by decide))).trans c
   exact Yk.move a ⟨Ext.refl _,rfl⟩
  ·refine Aa rfl fun σ w1 hC h=> ?_
   have af:=Ab (h 14 (by decide))
   exact Yk.atRB (l:=b) (i:=2) DT Ls (RB.of (hr.keep (hE.trans hC)) af) (vr (NI 2) rfl) (by omega) fun _ h=>⟨Ext.refl _,h⟩
  ·refine Aa rfl fun σ w1 hC h=> ?_
   have ag:(PCell (B8 (b.getD (2) 0))) (σ 15) w1:=h 15 (by decide)
   exact Yk.loadC u5 rfl ag ⟨Ext.refl _,rfl⟩
  ·refine Aa rfl fun σ w1 hC h=> ?_
   have ah:=Ab (h 16 (by decide))
   exact Yk.convI u5 NA ah (FI .i64 (b.getD (2) 0) (fun n hn=>Cy n (by omega))) ⟨Ext.refl _,rfl⟩
  ·refine Aa rfl fun σ w1 hC h=> ?_
   have ai:=Ab (h 17 (by decide))
   exact Yk.bin (xv:=NI ((b.getD (2) 0).toNat)) (yv:= .int .u64 ((8:Nat):Int)) ai rfl rfl (Ig _ _ _ _ (by omega) (by exact j)) ⟨Ext.refl _,rfl⟩
  ·refine Aa rfl fun σ w1 hC h=> ?_
   have aj:=Ab (h 13 (by decide))
   have ak:=Ab (h 18 (by decide))
   exact Yk.bin (xv:=NI ((((b.getD (0) 0).toNat)*2^(24))|||(((b.getD (1) 0).toNat)*2^(16)))) (yv:=NI (((b.getD (2) 0).toNat)*2^(8))) aj ak rfl (Ju _ _ _ (by exact k) (by exact j)) ⟨Ext.refl _,rfl⟩
  ·refine Aa rfl fun σ w1 hC h=> ?_
   have a:=(Ab (h 0 (by decide))).trans c
   exact Yk.move a ⟨Ext.refl _,rfl⟩
  ·refine Aa rfl fun σ w1 hC h=> ?_
   have al:=Ab (h 20 (by decide))
   exact Yk.atRB (l:=b) (i:=3) DT Ls (RB.of (hr.keep (hE.trans hC)) al) (vr (NI 3) rfl) (by omega) fun _ h=>⟨Ext.refl _,h⟩
  ·refine Aa rfl fun σ w1 hC h=> ?_
   have am:(PCell (B8 (b.getD (3) 0))) (σ 21) w1:=h 21 (by decide)
   exact Yk.loadC u5 rfl am ⟨Ext.refl _,rfl⟩
  ·refine Aa rfl fun σ w1 hC h=> ?_
   have an:=Ab (h 22 (by decide))
   exact Yk.convI u5 NA an (FI .i64 (b.getD (3) 0) (fun n hn=>Cy n (by omega))) ⟨Ext.refl _,rfl⟩
  ·refine Aa rfl fun σ w1 hC h=> ?_
   have ao:=Ab (h 19 (by decide))
   have ap:=Ab (h 23 (by decide))
   exact Yk.bin (xv:=NI (((((b.getD (0) 0).toNat)*2^(24))|||(((b.getD (1) 0).toNat)*2^(16)))|||(((b.getD (2) 0).toNat)*2^(8)))) (yv:=NI ((b.getD (3) 0).toNat)) ao ap rfl (Ju _ _ _ (by exact p) (by exact o)) ⟨Ext.refl _,rfl⟩
  ·refine Aa rfl fun σ w1 hC h=> ?_
   have aq:=Ab (h 24 (by decide))
   exact Yk.assign aq ⟨Ext.refl _,rfl⟩
 intro m w4 ar he hf
 obtain⟨-,-,-,-,-,-,-,-,-,-,-,-,-,-,-,-,-,-,-,-,-,-,k2,-⟩:=hf
 have c:m 0=v:=he.at_ c rfl
 clear he
 have hE:=hE.trans ar
 have T2:m 2=NI ((((((b.getD (0) 0).toNat)*2^(24))|||(((b.getD (1) 0).toNat)*2^(16)))|||(((b.getD (2) 0).toNat)*2^(8)))|||((b.getD (3) 0).toNat)):=k2
 clear k2
 refine tN (s _ _ (As (Ao (fn:=Tryd.f62) _ rfl [NI ((((((b.getD (0) 0).toNat)*2^(24))|||(((b.getD (1) 0).toNat)*2^(16)))|||(((b.getD (2) 0).toNat)*2^(8)))|||((b.getD (3) 0).toNat))] (NI ((((((b.getD (0) 0).toNat)*2^(24))|||(((b.getD (1) 0).toNat)*2^(16)))|||(((b.getD (2) 0).toNat)*2^(8)))|||((b.getD (3) 0).toNat))) rfl ⟨T2,trivial⟩ ?_)))
 exact⟨by rw[show DD b=_ from(Pl _ _ _ _ (b.getD 1 0).toNat_lt (b.getD 2 0).toNat_lt (b.getD 3 0).toNat_lt).symm],hE⟩

theorem Ml(w:World)(n:Nat)(hn:n≤9223372036854775807):
  Calls Tryd.prog 23 #[NI n] w fun e w' =>∃v,e = .returned v∧w'.ownsRow w.heap.size 5 1 v (80 :: Lib.uvarint n).length (Lib.byteCells (80 :: Lib.uvarint n))∧Ext w w' :=by
 refine AA (args:= [NI n]) Tryd.func23 rfl 12 rfl (Nat.le_of_ble_eq_true rfl) ?_
 intro j hb
 have k:j 0=(NI n:Value):=hb.get 0
 clear hb
 have hE:=Ext.refl w
 refine sk fun r l=>(wt (oA rfl (oZ (tN (l _ _ (sk fun s m=>(wt (oS rfl (Yk.lit1 (b:=80) Mk (vr (B8 (80)) rfl) fun g o h=> ?_)))))))))
 have hE:=hE.trans h.ext
 have f:=h.own;clear h
 refine oM rfl (oS rfl (Yk.callA2 ND (vr g rfl) k ((KZ _ g ([(80:UInt8)]) (RB.ofOwn f) (by simp) n (by omega)).mono ?_)))
 rintro e t ⟨a,rfl,c⟩
 refine⟨_,rfl,?_⟩
 have i:=Ext.refl o
 have u:=hE
 have x:=hE.size
 have y:Ae g a:=A4 f c.own
 have z:Ae a g:=A0 f c.own
 have hE:=hE.trans c.ext
 have f:=Stab.own _ _ _ _ _ _ _ _ f c.ext
 have i:=i.trans c.ext
 have p:=c.own;clear c
 refine oM rfl (oS rfl (Yk.extract (vs:= [a,NI 0]) (vr (.tuple #[a,NI 0]) rfl) (show _=some (a:Value)from rfl) (oS rfl (Yk.extract (vs:= [a,NI 0]) (vr (.tuple #[a,NI 0]) rfl) (show _=some (NI 0:Value)from rfl) (oA rfl (oA rfl (oZ (tN (m _ _ (sk fun aa q=>(wt (oM rfl (oA rfl (oZ (tN (q _ _ (As (Ao (fn:=Tryd.f23) _ rfl [a] (a) rfl ⟨rfl,trivial⟩ ?_))))))))))))))))))
 exact⟨_,rfl,Mi p (by omega),hE⟩
open Go.RowKit
section
variable {P : Program} {K : Value → World → Prop} {ρ : Aq} {w : World} {d : Option Tmp} {ty : TypeId} {pos : String} {af : Array Edge} {gd : Option (Nat × Bool)}
variable {α β : Type} {ek : α → Value} {ev : β → Value} {D : α → Prop} {b : Nat} {G : α → Option β}
variable {t Kt E : TypeId} {OK : Value → Prop}
theorem Yk.lookM(L:KL P Kt OK)(hD:∀a,D a→OK (ek a))(hi:∀a c,ek a=ek c→a=c)(ht:P.underlying t=some (.map Kt E)){z:Value}(hz:∀u:World,(zeroValue E).run P u = .ok z u){x y:Operand}{a:α} 
    (hm:Ad ρ x = .map (some b)) (hy:Ad ρ y=ek a) (h:MapF ek ev D w b G) (ha:D a) (hk:K ((G a).elim z ev) w):
    Yk P K ((execOp (Ad ρ) ⟨d, .lookup t x y false,ty,pos,af,gd⟩).run P w):=by
  have hrun:=h.look L hD hi ht hz ha false
  refine Yk.value (v:=(G a).elim z ev) (w' :=w) ?_ hk
  unfold execOp
  simp only[hm,hy,Sem.run_bind,hrun,Result.andThen_ok,Sem.run_pure]
  rfl
theorem Yk.lookOk(L:KL P Kt OK)(hD:∀a,D a→OK (ek a))(hi:∀a c,ek a=ek c→a=c)(ht:P.underlying t=some (.map Kt E)){z:Value}(hz:∀u:World,(zeroValue E).run P u = .ok z u){x y:Operand}{a:α} 
    (hm:Ad ρ x = .map (some b)) (hy:Ad ρ y=ek a) (h:MapF ek ev D w b G) (ha:D a) (hk:K (.tuple #[(G a).elim z ev, .bool (G a).isSome]) w):
    Yk P K ((execOp (Ad ρ) ⟨d, .lookup t x y true,ty,pos,af,gd⟩).run P w):=by
  have hrun:=h.look L hD hi ht hz ha true
  refine Yk.value (v:= .tuple #[(G a).elim z ev, .bool (G a).isSome]) (w' :=w) ?_ hk
  unfold execOp
  simp only[hm,hy,Sem.run_bind,hrun,Result.andThen_ok,Sem.run_pure]
  rfl
theorem Yk.putM[DecidableEq α](L:KL P Kt OK)(hD:∀a,D a→OK (ek a))(ht:P.underlying t=some (.map Kt E)){x y z:Operand}{a:α}{c:β} 
    (hm:Ad ρ x = .map (some b)) (hy:Ad ρ y=ek a) (hz:Ad ρ z=ev c) (h:MapF ek ev D w b G) (ha:D a) (hk:∀w',MapF ek ev D w' b (updM G a (some c))→w.grownBy w' (some b)→w'.heap.size=w.heap.size→K undef w'):
    Yk P K ((execOp (Ad ρ) ⟨d, .mapUpdate t x y z,ty,pos,af,gd⟩).run P w):=by
  obtain⟨w',hrun,h1,h2,h3⟩:=h.put L hD ht ha c
  have hr:(execOp (Ad ρ) ⟨d, .mapUpdate t x y z,ty,pos,af,gd⟩).run P w = .ok .skip w' ∨(execOp (Ad ρ) ⟨d, .mapUpdate t x y z,ty,pos,af,gd⟩).run P w = .ok (.value undef) w' :=by
    unfold execOp
    simp only[hm,hy,hz,Sem.run_bind,hrun,Result.andThen_ok,Sem.run_pure]
    simp
  rcases hr with hr | hr <;> rw[hr] <;> exact hk w' h1 h2 h3
theorem Yk.delM[DecidableEq α](L:KL P Kt OK)(hD:∀a,D a→OK (ek a))(hi:∀a c,ek a=ek c→a=c)(ht:P.underlying t=some (.map Kt E)){x y:Operand}{a:α} 
    (hm:Ad ρ x = .map (some b)) (hy:Ad ρ y=ek a) (h:MapF ek ev D w b G) (ha:D a) (hk:∀w',MapF ek ev D w' b (updM G a none)→w.grownBy w' (some b)→w'.heap.size=w.heap.size→K (.tuple #[]) w'):
    Yk P K ((execOp (Ad ρ) ⟨d, .call ⟨.builtin .delete,#[x,y],#[t,Kt]⟩,ty,pos,af,gd⟩).run P w):=by
  obtain⟨w',hrun,h1,h2,h3⟩:=h.del L hD hi ht (ty:=ty) ha
  refine Yk.value (v:= .tuple #[]) (w' :=w') ?_ (hk w' h1 h2 h3)
  unfold execOp
  simp only[resolve,invoke,builtin,Sem.run_bind,Sem.run_pure,Result.andThen_ok,List.map_toArray,List.map_cons,List.map_nil,hm,hy,hrun]
theorem Yk.mkMap(ek:α→Value)(ev:β→Value)(D:α→Prop)(hk:∀g w',w.heap.size=g→MapF ek ev D w' g (fun _=>none)→Ext w w' →w'.heap.size=g+1→K (.map (some g)) w'):
    Yk P K ((execOp (Ad ρ) ⟨d, .makeMap t none,ty,pos,af,gd⟩).run P w):=by
  refine Yk.value (v:= .map (some w.heap.size)) (w' :=w.alloc (.map #[] 0)) ?_ (hk _ _ rfl (MapF.made ek ev D w) ((Below.refl _ _).alloc (Nat.le_refl _) _) (by simp))
  unfold execOp
  simp[Instr.makeMap,newObj,Result.andThen]
  rfl
theorem Yk.lookOkS(L:KL P Kt OK)(hD:∀a,D a→OK (ek a))(hi:∀a c,ek a=ek c→a=c)(ht:P.underlying t=some (.map Kt E)){z:Value}(hz:∀u:World,(zeroValue E).run P u = .ok z u){x y:Operand}{a:α}{c:β} 
    (hm:Ad ρ x = .map (some b)) (hy:Ad ρ y=ek a) (h:MapF ek ev D w b G) (ha:D a) (hG:G a=some c) (hk:K (.tuple #[ev c, .bool true]) w):Yk P K ((execOp (Ad ρ) ⟨d, .lookup t x y true,ty,pos,af,gd⟩).run P w):=
  Yk.lookOk L hD hi ht hz hm hy h ha (by rw[hG];exact hk)
theorem Yk.lookOkN(L:KL P Kt OK)(hD:∀a,D a→OK (ek a))(hi:∀a c,ek a=ek c→a=c)(ht:P.underlying t=some (.map Kt E)){z:Value}(hz:∀u:World,(zeroValue E).run P u = .ok z u){x y:Operand}{a:α} 
    (hm:Ad ρ x = .map (some b)) (hy:Ad ρ y=ek a) (h:MapF ek ev D w b G) (ha:D a) (hG:G a=none) (hk:K (.tuple #[z, .bool false]) w):Yk P K ((execOp (Ad ρ) ⟨d, .lookup t x y true,ty,pos,af,gd⟩).run P w):=
  Yk.lookOk L hD hi ht hz hm hy h ha (by rw[hG];exact hk)
theorem Yk.lookMS(L:KL P Kt OK)(hD:∀a,D a→OK (ek a))(hi:∀a c,ek a=ek c→a=c)(ht:P.underlying t=some (.map Kt E)){z:Value}(hz:∀u:World,(zeroValue E).run P u = .ok z u){x y:Operand}{a:α}{c:β} 
    (hm:Ad ρ x = .map (some b)) (hy:Ad ρ y=ek a) (h:MapF ek ev D w b G) (ha:D a) (hG:G a=some c) (hk:K (ev c) w):Yk P K ((execOp (Ad ρ) ⟨d, .lookup t x y false,ty,pos,af,gd⟩).run P w):=
  Yk.lookM L hD hi ht hz hm hy h ha (by rw[hG];exact hk)
theorem Yk.build{parts:Array (Nat × Operand)}{vs:Array (Nat × Value)}{v:Value}(hv:(parts.map fun(i,x)=>(i,Ad ρ x))=vs)(hr:∀w:World,(Instr.build t vs).run P w = .ok v w)(hk:K v w):
    Yk P K ((execOp (Ad ρ) ⟨d, .build t parts,ty,pos,af,gd⟩).run P w):=by
  refine Yk.value (v:=v) (w' :=w) ?_ hk
  unfold execOp
  simp only[hv,hr,Sem.run_bind,Result.andThen_ok,Sem.run_pure]
theorem Yk.build1{i0:Nat}{x0:Operand}{a v:Value}(h0:Ad ρ x0=a)(hr:∀w:World,(Instr.build t #[(i0,a)]).run P w = .ok v w)(hk:K v w):Yk P K ((execOp (Ad ρ) ⟨d, .build t #[(i0,x0)],ty,pos,af,gd⟩).run P w):=
  Yk.build (by simp[h0]) hr hk
theorem Yk.build2{i0 i1:Nat}{x0 x1:Operand}{a b v:Value}(h0:Ad ρ x0=a)(h1:Ad ρ x1=b)(hr:∀w:World,(Instr.build t #[(i0,a),(i1,b)]).run P w = .ok v w)(hk:K v w):Yk P K ((execOp (Ad ρ) ⟨d, .build t #[(i0,x0),(i1,x1)],ty,pos,af,gd⟩).run P w):=
  Yk.build (by simp[h0,h1]) hr hk
theorem RG.slice{k:Nat}{enc:α→List Value}{v:Value}{l:List α}(h:RG k enc w v l):∃ao n c,v = .slice ao n c:=by
  obtain⟨ao,c,rfl⟩:=h.len
  exact⟨ao,_,c,rfl⟩
theorem Yk.mkIface{fs}(hu:P.underlying t=some (.struct fs)){x:Operand}{v:Value}(hx:Ad ρ x=v)(hk:K (.iface t v) w):Yk P K ((execOp (Ad ρ) ⟨d, .makeInterface t x,ty,pos,af,gd⟩).run P w):=by
  refine Yk.value (v:= .iface t v) (w' :=w) ?_ hk
  unfold execOp
  simp[Instr.makeInterface,hx,run_underlying hu,Result.andThen]
theorem Yk.lit1G{k:Nat}{enc:α→List Value}{e:TypeId}{x:Operand}{a:α}(hx:Ad ρ x = .agg (enc a).toArray)(hl:(enc a).length=k) 
    (hr:∀(cs:Array Value),cs.size=k→∀w:World,(Instr.buildSlice t 1 #[(0, .agg cs)]).run P w = .ok (.slice (some ⟨w.heap.size,0,none⟩) 1 1) (w.alloc (.cells cs e)))
    (hk:∀v w',RG k enc w' v [a]→Ext w w' →K v w'):Yk P K ((execOp (Ad ρ) ⟨d, .buildSlice t 1 #[(0,x)],ty,pos,af,gd⟩).run P w):=by
  have hE:Ext w (w.alloc (.cells (enc a).toArray e)):=(Below.refl _ _).alloc (Nat.le_refl _) _
  refine Yk.value (v:= .slice (some ⟨w.heap.size,0,none⟩) 1 1) (w' :=w.alloc (.cells (enc a).toArray e)) ?_ (hk _ _ (RG.single hl (heap_alloc_new w _)) hE)
  unfold execOp
  simp only[List.map_toArray,List.map_cons,List.map_nil,hx,Sem.run_bind,hr _ (show(enc a).toArray.size=k by rw[List.size_toArray];exact hl),Result.andThen_ok,Sem.run_pure]
theorem RG.elem{k:Nat}{enc:α→List Value}{v:Value}{l:List α}(h:RG k enc w v l)(dd:α){i:Nat}(hi:i<l.length):(enc (l.getD i dd)).length=k:=by
  refine h.1 _ ?_
  rw[List.getD_eq_getElem?_getD,List.getElem?_eq_getElem hi]
  exact List.getElem_mem hi
theorem RG.cut{k:Nat}{enc:α→List Value}{v:Value}{l:List α}(h:∀x∈l,(enc x).length=k){a c:Nat}(ha:a≤c)(hc:c≤l.length)(hR:Reads w k v (c-a) (((l.flatMap enc).drop (a*k)).take ((c-a)*k))):RG k enc w v ((l.drop a).take (c-a)):=by
  have hd:∀(l:List α) (n:Nat),(∀x∈l,(enc x).length=k)→(l.flatMap enc).drop (n*k)=(l.drop n).flatMap enc:=by
    intro l n
    induction n generalizing l with
    | zero=>intro _;simp
    | succ n ih=>
      intro h
      cases l with
      | nil=>simp
      | cons x r=>
        have hx:=h x (by simp)
        rw[List.flatMap_cons,List.drop_succ_cons,←ih r (fun y hy=>h y (by simp[hy])),show(n+1)*k=(enc x).length+n*k by rw[hx,Nat.add_mul];omega,List.drop_append,List.drop_of_length_le (by omega),Nat.add_sub_cancel_left,List.nil_append]
  have htk:∀(l:List α) (n:Nat),(∀x∈l,(enc x).length=k)→(l.flatMap enc).take (n*k)=(l.take n).flatMap enc:=by
    intro l n
    induction n generalizing l with
    | zero=>intro _;simp
    | succ n ih=>
      intro h
      cases l with
      | nil=>simp
      | cons x r=>
        have hx:=h x (by simp)
        rw[List.flatMap_cons,List.take_succ_cons,List.flatMap_cons,←ih r (fun y hy=>h y (by simp[hy])),show(n+1)*k=(enc x).length+n*k by rw[hx,Nat.add_mul];omega,List.take_append,List.take_of_length_le (by omega),Nat.add_sub_cancel_left]
  refine⟨fun x hx=>h x (List.mem_of_mem_drop (List.mem_of_mem_take hx)),?_⟩
  rw[hd l a h,htk _ _ (fun x hx=>h x (List.mem_of_mem_drop hx))]at hR
  rw[show((l.drop a).take (c-a)).length=c-a by rw[List.length_take,List.length_drop];omega]
  exact hR
theorem E2{l:List Nat}{i:Nat}(hi:i<l.length):(l.map fun x=>NI x)[i]? =some (NI (l.getD i 0)):=by simp[hi]
theorem Lx(l:List Nat):∀v∈(l.map fun x=>NI x),v.oneCell' =true:=by
  intro v hv
  obtain⟨_,_,rfl⟩:=List.mem_map.1 hv
  rfl
theorem Yk.storeN{t' :TypeId}{x y:Operand}{g i:Nat}{l:List Nat}{t:TypeId}{v:Nat}(hx:Ad ρ x = .pointer (some ⟨g,i,none⟩))(hy:Ad ρ y=NI v)(hg:w.heap[g]? =some (.cells (l.map fun x=>NI x).toArray t (0,0)))(hi:i<l.length)(hz:(P.info? t').map (·.size)=some 1) 
    (hk:∀w',w'.heap[g]? =some (.cells ((l.set i v).map fun x=>NI x).toArray t (0,0))→w.grownBy w' (some g)→w'.heap.size=w.heap.size→K undef w'):Yk P K ((execOp (Ad ρ) ⟨d, .store t' x y,ty,pos,af,gd⟩).run P w):=
  Yk.storeC hx hy hg (by simpa using hi) hz rfl rfl fun w' h1 h2 h3=>hk w' (by rw[List.map_set];exact h1) h2 h3
theorem Yk.idxN{xType e:TypeId}{n:Nat}(ht:P.underlying xType=some (.array n e)){de:TypeDesc}(he:P.underlying e=some de)(hd:(match de with | .struct _ | .array _ _=>false | _=>true)=true)(hs:∀w' :World,(sizeOf e).run P w' = .ok 1 w'){x y:Operand}{l:List Nat}{i:Nat}{k:IntKind} 
    (hx:Ad ρ x = .agg (l.map fun x=>NI x).toArray) (hy:Ad ρ y = .int k (i:Int)) (hi:i<n) (hl:l.length=n) (hk:K (NI (l.getD i 0)) w):Yk P K ((execOp (Ad ρ) ⟨d, .index xType x y,ty,pos,af,gd⟩).run P w):=
  Yk.idxA ht he hd hs hx hy hi (E2 (by omega)) hk
theorem Yp.callA1{f:FuncId}(hp:A2 P f){x0:Operand}{a:Value}{at_:Array TypeId}{J:List PanicEntry→World→Prop}(h0:Ad ρ x0=a) 
    (h:Calls P f #[a] w fun e w' =>match e with | .returned v=>K v w' | .panicked ch=>J ch w' | .outgrown=>False):Yp P K J ((execOp (Ad ρ) ⟨d, .call ⟨.value (.func f),#[x0],at_⟩,ty,pos,af,gd⟩).run P w):=
  Yp.call hp [a] (by simp[h0]) h
theorem Yp.callA2{f:FuncId}(hp:A2 P f){x0 x1:Operand}{a b:Value}{at_:Array TypeId}{J:List PanicEntry→World→Prop}(h0:Ad ρ x0=a)(h1:Ad ρ x1=b) 
    (h:Calls P f #[a,b] w fun e w' =>match e with | .returned v=>K v w' | .panicked ch=>J ch w' | .outgrown=>False):Yp P K J ((execOp (Ad ρ) ⟨d, .call ⟨.value (.func f),#[x0,x1],at_⟩,ty,pos,af,gd⟩).run P w):=
  Yp.call hp [a,b] (by simp[h0,h1]) h
theorem Yp.callA3{f:FuncId}(hp:A2 P f){x0 x1 x2:Operand}{a b c:Value}{at_:Array TypeId}{J:List PanicEntry→World→Prop}(h0:Ad ρ x0=a)(h1:Ad ρ x1=b)(h2:Ad ρ x2=c) 
    (h:Calls P f #[a,b,c] w fun e w' =>match e with | .returned v=>K v w' | .panicked ch=>J ch w' | .outgrown=>False):Yp P K J ((execOp (Ad ρ) ⟨d, .call ⟨.value (.func f),#[x0,x1,x2],at_⟩,ty,pos,af,gd⟩).run P w):=
  Yp.call hp [a,b,c] (by simp[h0,h1,h2]) h
theorem Yp.callA4{f:FuncId}(hp:A2 P f){x0 x1 x2 x3:Operand}{a b c g:Value}{at_:Array TypeId}{J:List PanicEntry→World→Prop}(h0:Ad ρ x0=a)(h1:Ad ρ x1=b)(h2:Ad ρ x2=c)(h3:Ad ρ x3=g) 
    (h:Calls P f #[a,b,c,g] w fun e w' =>match e with | .returned v=>K v w' | .panicked ch=>J ch w' | .outgrown=>False):Yp P K J ((execOp (Ad ρ) ⟨d, .call ⟨.value (.func f),#[x0,x1,x2,x3],at_⟩,ty,pos,af,gd⟩).run P w):=
  Yp.call hp [a,b,c,g] (by simp[h0,h1,h2,h3]) h
end
open Go.RowKit
open Go.WideMaps (KeyLaw)
open Go.ChangeMaps (setBlock heap_setBlock_same heap_setBlock_other)
def rk(r:List UInt8):Value:= .agg (Lib.byteCells r).toArray
theorem Cc{r s:List UInt8}(h:rk r=rk s):r=s:=by
  unfold rk at h
  injection h with h
  have h2:Lib.byteCells r=Lib.byteCells s:=List.toArray_inj h
  unfold Lib.byteCells at h2
  exact(List.map_inj_right (fun a b hab=>by injection hab with _ h3;exact UInt8.toNat_inj.1 (by omega))).1 h2
theorem Lb{α β:Type}{f:α→Option β}:∀ {l:List α},(∀x∈l,∃y,f x=some y)→∃ys,l.mapM f=some ys
  | [],_=>⟨[],rfl⟩
  | x :: l,h=>by
    obtain⟨y,hy⟩:=h x (by simp)
    obtain⟨ys,hys⟩:=Lb (l:=l) (fun z hz=>h z (by simp[hz]))
    exact⟨y :: ys,by simp[List.mapM_cons,hy,hys]⟩
theorem IC{P:Program}{k e:TypeId}{n:Nat}(hu:P.underlying k=some (.array n e))(he:P.underlying e=some (.int .u8))(hc:P.cellsOf e=1)(hn:P.cellsOf k=n)(hk:P.keyType k=true)(hsz:0<P.types.size){r:List UInt8}(hr:r.length=n):∃l,keyOf P k (rk r)=some l:=by
  have hf:(rk r).formed P k=true:=by simp[rk,Value.formed,hu,hn,hr,Lib.byteCells]
  have hl:∀i∈List.range n,∃y,P.keyLits P.types.size e (((Lib.byteCells r).drop (i*P.cellsOf e)).take (P.cellsOf e))=some y:=fun i hi=>by
    have hi' :i<r.length:=by rw[hr];simpa using hi
    have h1:((Lib.byteCells r).drop (i*P.cellsOf e)).take (P.cellsOf e)= [Value.int .u8 ((r[i]).toNat:Int)]:=by
      rw[hc,Nat.mul_one]
      simp[Lib.byteCells,hi',List.take_one,List.head?_drop]
    have hw:(Lit.int .u8 ((r[i]).toNat:Int)).wf=true:=by
      have:=(r[i]).toNat_lt
      simp[Lit.wf,IntKind.min,IntKind.max,IntKind.signed,IntKind.bits]
      omega
    rw[h1]
    obtain⟨m,hm⟩:∃m,P.types.size=m+1:=⟨P.types.size-1,by omega⟩
    rw[hm]
    exact⟨[.int .u8 ((r[i]).toNat:Int)],by simp[Program.keyLits,he,hw]⟩
  obtain⟨ys,hys⟩:=Lb hl
  refine⟨.string (keyBytes ys.flatten),?_⟩
  · unfold keyOf
    simp only[hu]
    rw[if_pos (by simp[hk,hf])]
    unfold Program.keyLits
    simp only[hu,rk,Value.cells]
    rw[if_pos (by rw[hn];simp[Lib.byteCells,hr]),hys]
    rfl
def EntAt(w:World)(base:Nat)(I:TypeId)(G:List UInt8→List Nat)(e:MapEntry):Prop:=∃r,r.length=8∧e.key=rk r∧G r≠ []∧w.ownsRow base I 1 e.val (G r).length ((G r).map NI)
structure IdxIn (w : World) (base : Nat) (I : TypeId) (G : List UInt8 → List Nat) (es : List MapEntry) (clock : Nat) : Prop where
  born:∀e∈es,e.born<clock
  nodup:(es.map (·.born)).Nodup
  keys:(es.map (·.key)).Nodup
  ent:∀e∈es,EntAt w base I G e
  all:∀r,r.length=8→G r≠ []→∃e∈es,e.key=rk r
  apart:es.Pairwise fun e f=>Ae e.val f.val∧Ae f.val e.val
def IdxAt(w:World)(b base:Nat)(I:TypeId)(G:List UInt8→List Nat):Prop:=b<base∧∃es clock,w.heap[b]? =some (.map es.toArray clock)∧IdxIn w base I G es clock
section
variable {P : Program} {w w' : World} {b base : Nat} {I : TypeId} {G : List UInt8 → List Nat}
theorem EntAt.keep{e:MapEntry}(h:EntAt w base I G e)(k:Ext w w'):EntAt w' base I G e:=by
  obtain⟨r,h1,h2,h3,h4⟩:=h
  exact⟨r,h1,h2,h3,Stab.own _ _ _ _ _ _ _ _ h4 k⟩
theorem IdxIn.keep{es:List MapEntry}{c:Nat}(h:IdxIn w base I G es c)(k:Ext w w'):IdxIn w' base I G es c:=
  ⟨h.born,h.nodup,h.keys,fun e he=>(h.ent e he).keep k,h.all,h.apart⟩
theorem IdxAt.keep(h:IdxAt w b base I G)(k:Ext w w'):IdxAt w' b base I G:=by
  obtain⟨h1,es,c,h2,h3⟩:=h
  exact⟨h1,es,c,Ext.blk' k h2,h3.keep k⟩
theorem IdxAt.lt(h:IdxAt w b base I G):b<w.heap.size:=by
  obtain⟨h1,es,c,h2,h3⟩:=h
  exact(Array.getElem?_eq_some_iff.1 h2).1
theorem IdxAt.made(w:World):IdxAt (w.alloc (.map #[] 0)) w.heap.size (w.heap.size+1) I (fun _=> []):=
  ⟨Nat.lt_succ_self _,[],0,heap_alloc_new w _,by simp,by simp,by simp,by simp,fun r _ h=>absurd rfl h,by simp⟩
structure O5 (w : World) (base : Nat) (I : TypeId) (G : List UInt8 → List Nat) (r : List UInt8) (v : Value) (l1 : List MapEntry) (e0 : MapEntry) (l2 : List MapEntry) (clock : Nat) : Prop where
  key:e0.key=rk r
  born:∀e∈l1++e0 :: l2,e.born<clock
  nodup:((l1++e0 :: l2).map (·.born)).Nodup
  keys:((l1++e0 :: l2).map (·.key)).Nodup
  ent:∀e∈l1++l2,EntAt w base I G e
  all:∀s,s.length=8→s≠r→G s≠ []→∃e∈l1++l2,e.key=rk s
  apart:(l1++l2).Pairwise fun e f=>Ae e.val f.val∧Ae f.val e.val
  mine:∀e∈l1++l2,Ae e.val v∧Ae v e.val
def IdxOpen(w:World)(b base:Nat)(I:TypeId)(G:List UInt8→List Nat)(r:List UInt8)(v:Value)(zs:List Nat)(st:Nat):Prop:=
  b<base∧r.length=8∧w.ownsRow base I 1 v zs.length (zs.map NI)∧∃l1 e0 l2 clock,w.heap[b]? =some (.map (l1++e0 :: l2).toArray clock)∧e0.born=st∧O5 w base I G r v l1 e0 l2 clock
theorem IdxOpen.grew{r:List UInt8}{v v' :Value}{zs zs' :List Nat}{st:Nat}(h:IdxOpen w b base I G r v zs st)(gr:Grew w w' v v')(ho:w'.ownsRow base I 1 v' zs'.length (zs'.map NI)):IdxOpen w' b base I G r v' zs' st:=by
  obtain⟨h1,h2,h3,l1,a,l2,c,h4,h5,h6⟩:=h
  have hvb:v.ownBlock≠some b:=fun e=>by have:=(h3.lt b e).1;omega
  refine⟨h1,h2,ho,l1,a,l2,c,AP h4 gr hvb,h5,h6.key,h6.born,h6.nodup,h6.keys,fun e he=> ?_,h6.all,h6.apart,fun e he=> ?_⟩
  · obtain⟨q,k1,k2,k3,k4⟩:=h6.ent e he
    refine⟨q,k1,k2,k3,k4.kept gr.by_ ?_⟩
    cases hb:e.val.ownBlock with
    | none=>exact .inl rfl
    | some g=>exact .inr (fun f=>(h6.mine e he).1 g hb f.symm)
  · obtain⟨q,k1,k2,k3,k4⟩:=h6.ent e he
    have key:∀k,e.val.ownBlock=some k→v'.ownBlock≠some k:=fun k hk hv=>by
      rcases gr.fresh k hv with h7 | h7
      · exact(h6.mine e he).1 k hk h7
      · have:=(k4.lt k hk).2;omega
    exact⟨key,fun k hv hk=>key k hk hv⟩
def updG(G:List UInt8→List Nat)(r:List UInt8)(zs:List Nat)(s:List UInt8):List Nat:=if s=r then zs else G s
theorem HI{α:Type}(f:α→α)(x:α)(l2:List α):∀l1:List α,(l1++x :: l2).modify l1.length f=l1++f x :: l2
  | []=>rfl
  | a :: r=>by simp[List.modify_succ_cons,HI f x l2 r]
section
variable {t K E e8 : TypeId} (L : KeyLaw P K) (hk : ∀ r : List UInt8, r.length = 8 → ∃ l, keyOf P K (rk r) = some l) (ht : P.underlying t = some (.map K E)) (hz : ∀ u : World, (zeroValue E).run P u = .ok (.slice none 0 0) u)
include L hk ht hz
theorem IdxAt.look(h:IdxAt w b base I G){r:List UInt8}(hr:r.length=8):∃v,(Instr.lookup t (.map (some b)) (rk r) false).run P w = .ok v w∧w.ownsRow base I 1 v (G r).length ((G r).map NI):=by
  obtain⟨h1,es,c,hb,H⟩:=h
  obtain⟨l,hl⟩:=hk r hr
  have hkeys:∀e∈es,∃l,keyOf P K e.key=some l:=fun e he=>by
    obtain⟨q,k1,k2,-⟩:=H.ent e he
    rw[k2]
    exact hk q k1
  rcases L.find w hl es hkeys with ⟨f1,f2⟩ | ⟨j,a,f1,f2,f3⟩
  · have hG:G r= []:=by
      by_cases hG:G r= []
      · exact hG
      · obtain⟨e,he,hek⟩:=H.all r hr hG
        exact absurd hek (f2 e he)
    refine⟨.slice none 0 0,by simp[Instr.lookup,run_underlying ht,MapKept.run_getObj_map hb,L.check w _ hl,f1,hz,Result.andThen],?_⟩
    rw[hG]
    exact World.ownsRow_nil _ _ _ _
  · have hm:a∈es:=List.mem_of_getElem? f2
    obtain⟨q,k1,k2,k3,k4⟩:=H.ent a hm
    have:q=r:=Cc (k2.symm.trans f3)
    subst this
    exact⟨a.val,by simp[Instr.lookup,run_underlying ht,MapKept.run_getObj_map hb,L.check w _ hl,f1,Result.andThen],k4⟩
theorem IdxAt.entry(h:IdxAt w b base I G){r:List UInt8}(hr:r.length=8):∃v st w1,(Instr.mapEntry t (.map (some b)) (rk r)).run P w = .ok (.tuple #[v,goInt ((st:Nat):Int)]) w1∧w.grownBy w1 (some b)∧w1.heap.size=w.heap.size∧IdxOpen w1 b base I G r v (G r) st:=by
  obtain⟨h1,es,c,hb,H⟩:=h
  obtain⟨l,hl⟩:=hk r hr
  have hblt:b<w.heap.size:=(Array.getElem?_eq_some_iff.1 hb).1
  have hkeys:∀e∈es,∃l,keyOf P K e.key=some l:=fun e he=>by
    obtain⟨q,k1,k2,-⟩:=H.ent e he
    rw[k2]
    exact hk q k1
  have hgr:∀o,w.grownBy { w with heap:=w.heap.setIfInBounds b o } (some b):=fun o=>⟨rfl,rfl,rfl,by simp,fun i _ hi=>by simp only[Array.getElem?_setIfInBounds];rw[if_neg (fun e=>hi (by rw[e]))]⟩
  have hnew:∀o,({ w with heap:=w.heap.setIfInBounds b o } :World).heap[b]? =some o:=fun o=>by simp[hblt]
  have hkeep:∀(o:Obj) e,EntAt w base I G e→EntAt { w with heap:=w.heap.setIfInBounds b o } base I G e:=fun o e ⟨q,k1,k2,k3,k4⟩=>by
    refine⟨q,k1,k2,k3,k4.kept (hgr o) ?_⟩
    cases he:e.val.ownBlock with
    | none=>exact .inl rfl
    | some g=>
      have:=(k4.lt g he).1
      exact .inr (fun f=>by cases f;omega)
  rcases L.find w hl es hkeys with ⟨f1,f2⟩ | ⟨j,a,f1,f2,f3⟩
  · have hG:G r= []:=by
      by_cases hG:G r= []
      · exact hG
      · obtain⟨e,he,hek⟩:=H.all r hr hG
        exact absurd hek (f2 e he)
    refine⟨.slice none 0 0,c,{ w with heap:=w.heap.setIfInBounds b (.map (es++({ key:=rk r,val:= .slice none 0 0,born:=c } :MapEntry) :: []).toArray (c+1)) },?_,hgr _,by simp,h1,hr,?_,es,({ key:=rk r,val:= .slice none 0 0,born:=c } :MapEntry),[],c+1,hnew _,rfl,rfl,?_,?_,?_,?_,?_,?_,?_⟩
    · simp[Instr.mapEntry,run_underlying ht,MapKept.run_getObj_map hb,L.check w false hl,f1,hz,MapKept.run_setObj_map _ hb,Result.andThen]
    · rw[hG]
      exact World.ownsRow_nil _ _ _ _
    · intro e he
      rcases List.mem_append.1 he with h2 | h2
      · have:=H.born e h2;omega
      · rw[List.mem_singleton.1 h2];simp
    · simp only[List.map_append,List.map_cons,List.map_nil]
      refine List.nodup_append.2 ⟨H.nodup,by simp,fun x hx y hy e=> ?_⟩
      obtain⟨f,he1,rfl⟩:=List.mem_map.1 hx
      have:=H.born f he1
      simp at hy
      omega
    · simp only[List.map_append,List.map_cons,List.map_nil]
      refine List.nodup_append.2 ⟨H.keys,by simp,fun x hx y hy e=> ?_⟩
      obtain⟨f,he1,rfl⟩:=List.mem_map.1 hx
      simp at hy
      exact f2 f he1 (e.trans hy)
    · simp only[List.append_nil]
      exact fun e he=>hkeep _ e (H.ent e he)
    · simp only[List.append_nil]
      exact fun s h2 _ h3=>H.all s h2 h3
    · simp only[List.append_nil]
      exact H.apart
    · exact fun e _=>⟨fun k _ hk=>by simp[Value.ownBlock]at hk,fun k hk=>by simp[Value.ownBlock]at hk⟩
  · have hm:a∈es:=List.mem_of_getElem? f2
    obtain⟨q,k1,k2,k3,k4⟩:=H.ent a hm
    have hq:q=r:=Cc (k2.symm.trans f3)
    subst hq
    have hsame:es.modify j (fun e=> { e with key:=rk q })=es:=by
      rw[Go.ChangeMaps.modify_eq_set _ _ _ _ f2]
      have:({ a with key:=rk q } :MapEntry)=a:=by rw[←f3]
      rw[this]
      exact Go.WideElems.set_self _ _ _ f2
    have hrun:(Instr.mapEntry t (.map (some b)) (rk q)).run P w = .ok (.tuple #[a.val,goInt ((a.born:Nat):Int)]) { w with heap:=w.heap.setIfInBounds b (.map es.toArray c) } :=by
      simp[Instr.mapEntry,run_underlying ht,MapKept.run_getObj_map hb,L.check w false hl,f1,f2,f3,L.stays w hl,hsame,MapKept.run_setObj_map _ hb,Result.andThen]
    obtain⟨l1,l2,rfl⟩:=List.append_of_mem hm
    have hp:=H.apart
    rw[List.pairwise_append,List.pairwise_cons]at hp
    have hsub:∀e,e∈l1++l2→e∈l1++a :: l2:=fun e he=>by
      rcases List.mem_append.1 he with h2 | h2
      · simp[h2]
      · simp[h2]
    refine⟨a.val,a.born,{ w with heap:=w.heap.setIfInBounds b (.map (l1++a :: l2).toArray c) },?_,hgr _,by simp,h1,hr,?_,l1,a,l2,c,hnew _,rfl,f3,H.born,H.nodup,H.keys,fun e he=>hkeep _ e (H.ent e (hsub e he)),?_,?_,?_⟩
    · exact hrun
    · refine k4.kept (hgr _) ?_
      cases he:a.val.ownBlock with
      | none=>exact .inl rfl
      | some g=>
        have:=(k4.lt g he).1
        exact .inr (fun f=>by cases f;omega)
    · intro s h2 h3 h4
      obtain⟨e,he,hek⟩:=H.all s h2 h4
      refine⟨e,?_,hek⟩
      rcases List.mem_append.1 he with h5 | h5
      · simp[h5]
      · rcases List.mem_cons.1 h5 with h6 | h6
        · subst h6
          exact absurd (Cc (hek.symm.trans f3)) h3
        · simp[h6]
    · rw[List.pairwise_append]
      exact⟨hp.1,hp.2.1.2,fun x hx y hy=>hp.2.2 x hx y (by simp[hy])⟩
    · intro e he
      rcases List.mem_append.1 he with h5 | h5
      · exact hp.2.2 e h5 a (by simp)
      · exact⟨(hp.2.1.1 e h5).2,(hp.2.1.1 e h5).1⟩
end
theorem IdxOpen.store{t:TypeId}{r:List UInt8}{v:Value}{zs:List Nat}{st:Nat}(h:IdxOpen w b base I G r v zs st)(hne:zs≠ []):∃w1,(Instr.entryStore t (.map (some b)) (goInt ((st:Nat):Int)) v).run P w = .ok () w1∧w.grownBy w1 (some b)∧w1.heap.size=w.heap.size∧IdxAt w1 b base I (updG G r zs):=by
  obtain⟨h1,hr,h3,l1,a,l2,c,hb,rfl,H⟩:=h
  have hblt:b<w.heap.size:=(Array.getElem?_eq_some_iff.1 hb).1
  have hgr:∀o,w.grownBy { w with heap:=w.heap.setIfInBounds b o } (some b):=fun o=>⟨rfl,rfl,rfl,by simp,fun i _ hi=>by simp only[Array.getElem?_setIfInBounds];rw[if_neg (fun e=>hi (by rw[e]))]⟩
  have hnew:∀o,({ w with heap:=w.heap.setIfInBounds b o } :World).heap[b]? =some o:=fun o=>by simp[hblt]
  have hrow:∀(o:Obj) {x:Value} {n:Nat} {xs:List Value},w.ownsRow base I 1 x n xs→World.ownsRow { w with heap:=w.heap.setIfInBounds b o } base I 1 x n xs:=fun o x n xs k4=>by
    refine k4.kept (hgr o) ?_
    cases he:x.ownBlock with
    | none=>exact .inl rfl
    | some g=>
      have:=(k4.lt g he).1
      exact .inr (fun f=>by cases f;omega)
  have hidx:(l1++a :: l2).toArray.findIdx? (fun e=>((e.born:Nat):Int)==((a.born:Nat):Int))=some l1.length:=by
    rw[Go.WideElems.findIdx_arr]
    exact Go.WideElems.findIdx_born H.nodup (by simp)
  have hmod:(l1++a :: l2).toArray.modify l1.length (fun e=> { e with val:=v })=(l1 ++ { a with val:=v } :: l2).toArray:=by
    apply Array.ext'
    rw[Array.toList_modify]
    exact HI _ _ _ _
  have hsub:∀e,e∈l1++l2→e∈l1++a :: l2:=fun e he=>by
    rcases List.mem_append.1 he with h2 | h2
    · simp[h2]
    · simp[h2]
  have hkn:∀e∈l1++l2,e.key≠a.key:=fun e he hke=>by
    have hkk:=H.keys
    simp only[List.map_append,List.map_cons,List.nodup_append,List.nodup_cons]at hkk
    rcases List.mem_append.1 he with h2 | h2
    · exact hkk.2.2 e.key (List.mem_map.2 ⟨e,h2,rfl⟩) a.key (by simp) hke
    · exact hkk.2.1.1 (hke▸List.mem_map.2 ⟨e,h2,rfl⟩)
  have hent:∀(o:Obj),∀e∈l1++l2,EntAt { w with heap:=w.heap.setIfInBounds b o } base I (updG G r zs) e:=fun o e he=>by
    obtain⟨q,k1,k2,k3,k4⟩:=H.ent e he
    have hqr:q≠r:=fun f=>hkn e he (by rw[k2,f,H.key])
    have hu:updG G r zs q=G q:=if_neg hqr
    exact⟨q,k1,k2,by rw[hu];exact k3,by rw[hu];exact hrow o k4⟩
  have hur:updG G r zs r=zs:=if_pos rfl
  have hp:=H.apart
  rw[List.pairwise_append]at hp
  refine⟨{ w with heap:=w.heap.setIfInBounds b (.map (l1 ++ { a with val:=v } :: l2).toArray c) },?_,hgr _,by simp,h1,_,c,hnew _,?_,?_,?_,?_,?_,?_⟩
  · simp[Instr.entryStore,MapKept.run_getObj_map hb,asInt,asIntOf,goInt,hidx,hmod,MapKept.run_setObj_map _ hb,Result.andThen]
  · intro e he
    rcases List.mem_append.1 he with h2 | h2
    · exact H.born e (by simp[h2])
    · rcases List.mem_cons.1 h2 with h4 | h4
      · rw[h4];exact H.born a (by simp)
      · exact H.born e (by simp[h4])
  · have:=H.nodup
    simpa using this
  · have:=H.keys
    simpa using this
  · intro e he
    rcases List.mem_append.1 he with h2 | h2
    · exact hent _ e (by simp[h2])
    · rcases List.mem_cons.1 h2 with h4 | h4
      · rw[h4]
        exact⟨r,hr,H.key,by rw[hur];exact hne,by rw[hur];exact hrow _ h3⟩
      · exact hent _ e (by simp[h4])
  · intro s h2 h4
    by_cases hs:s=r
    · exact⟨{ a with val:=v },by simp,by rw[hs];exact H.key⟩
    · rw[show updG G r zs s=G s from if_neg hs]at h4
      obtain⟨e,he,hek⟩:=H.all s h2 hs h4
      refine⟨e,?_,hek⟩
      rcases List.mem_append.1 he with h5 | h5
      · simp[h5]
      · simp[h5]
  · rw[List.pairwise_append,List.pairwise_cons]
    refine⟨hp.1,⟨fun e he=> ?_,hp.2.1⟩,fun x hx y hy=> ?_⟩
    · have:=H.mine e (by simp[he])
      exact⟨this.2,this.1⟩
    · rcases List.mem_cons.1 hy with h4 | h4
      · rw[h4]
        exact H.mine x (by simp[hx])
      · exact hp.2.2 x hx y h4
end
open Go.RowKit
structure BX (N : Nat) (r : Option Nat) (w w' : World) : Prop where
  os:w'.os=w.os
  tape:w'.tape=w.tape
  output:w'.output=w.output
  size:w.heap.size≤w'.heap.size
  block:∀k,k<N→some k≠r→w'.heap[k]? =w.heap[k]?
def BU(B N:Nat)(e:TypeId)(r:Option Nat)(l:List UInt8)(x:Value)(w' :World):Prop:=w'.ownsRow B e 1 x l.length (Lib.byteCells l)∧∀k,x.ownBlock=some k→r=some k∨N≤k
section
variable {N B : Nat} {r : Option Nat} {w w' w1 w0 : World} {e t : TypeId}
theorem BX.refl(N:Nat)(r:Option Nat)(w:World):BX N r w w:=⟨rfl,rfl,rfl,Nat.le_refl _,fun _ _ _=>rfl⟩
theorem BX.trans{a b c:World}(h:BX N r a b)(k:BX N r b c):BX N r a c:=⟨k.os.trans h.os,k.tape.trans h.tape,k.output.trans h.output,Nat.le_trans h.size k.size,fun i hi hr=>(k.block i hi hr).trans (h.block i hi hr)⟩
theorem BX.ofExt(h:Ext w w')(hN:N≤w.heap.size):BX N r w w' :=⟨h.os,h.tape,h.output,h.size,fun k hk _=>h.block k (Nat.lt_of_lt_of_le hk hN)⟩
theorem BX.ofGrown{q:Option Nat}(h:w.grownBy w' q)(hN:N≤w.heap.size)(hq:∀k,q=some k→r=some k∨N≤k):BX N r w w' :=
  ⟨h.os,h.tape,h.output,h.size,fun k hk hr=>h.block k (Nat.lt_of_lt_of_le hk hN) (fun e=>(hq k e.symm).elim (fun x=>hr x.symm) (fun x=>by omega))⟩
theorem BX.grown(h:BX w.heap.size r w w'):w.grownBy w' r:=⟨h.os,h.tape,h.output,h.size,h.block⟩
theorem CB(h:Ext w0 w)(k:BX N r w w1)(hle:w0.heap.size≤N)(hr:∀k,r=some k→w0.heap.size≤k):Ext w0 w1:=
  Below.trans h ⟨k.os,k.tape,k.output,k.size,fun i hi=>k.block i (Nat.lt_of_lt_of_le hi hle) (fun e=>by have:=hr i e.symm;omega)⟩
theorem BX.blk{g:Nat}{o:Obj}(k:BX w.heap.size r w w1)(h:w.heap[g]? =some o)(hne:r≠some g):w1.heap[g]? =some o:=(k.block g (Array.getElem?_eq_some_iff.1 h).1 (fun e=>hne e.symm)).trans h
theorem BX.map{α β:Type}{ek:α→Value}{ev:β→Value}{D:α→Prop}{b:Nat}{G:α→Option β}(k:BX w.heap.size r w w1)(h:MapF ek ev D w b G)(hne:r≠some b):MapF ek ev D w1 b G:=h.other k.grown hne
end
section
variable {P : Program} {n : Nat} {ρ : Aq} {w : World} {Q : B9}
def EN(w:World)(r:Option Nat)(es:List Nat)(m:Nat):World→Prop:=bif es.contains m then Ext w else BX w.heap.size r w
def DR(N:Nat)(r:Option Nat)(cs:List Nat)(m:Nat):World→World→Prop:=bif cs.contains m then BX N r else Ext
def Ly(l:List Oper)(cs es:List Nat):Bool:=cs.all fun m=>es.all fun i=>((Ba l []).getD m 0).testBit i
theorem Cz{l:List Oper}(r:Option Nat)(cs es:List Nat)(ks ls:Nat→List Nat)(Φs:List Bn){id:Nat}(hm:P.follows .mixedOrders=true)(ds:List Tmp)(hg:B7 l n=true)(hkl:BW l ks=true)(hds:slotsW l=ds) 
    (hls:lsOk l cs ks ls=true) (hes:Ly l cs es=true) (hgc:(cs.all fun m=>((l[m]?).bind (·.guard)).isNone)=true) (hst:AllStab Ext Φs) (hsB:AllCh (BX w.heap.size r) ls Φs cs)
    (hs:StepsF P l (EN w r es) (DR w.heap.size r cs) (AQ Φs) ρ 0 l)
    (hQ:∀(ρ' :Aq) w',BX w.heap.size r w w' →EndF ds ρ ρ' →Bb l ks (AQ Φs) ρ' w' ds→Q .normal ρ' w'):B2 P n (.region id l.toArray true) Q ρ w:=by
  have stepR:∀m a b,BX w.heap.size r w a→DR w.heap.size r cs m a b→BX w.heap.size r w b:=fun m a b h k=>by
    unfold DR at k
    cases hc:cs.contains m <;> rw[hc]at k
    · exact h.trans (BX.ofExt k h.size)
    · exact h.trans k
  have drew:Ext w w.drew:=(Below.refl _ _).drew
  intro a ha
  obtain⟨T,df⟩:=a
  have hz:T.size=n:=ha.size
  subst hz
  refine Df ks (EN w r es) (fun _ w' =>BX w.heap.size r w w') _ (AQ Φs) hm T df hg hkl ds hds (fun m i _ _ hne hbit w1 w' hc hr=> ?_) (fun m listed w1 w' _ _ _ _ hE hR=>stepR m _ _ hE hR) (fun m i hm' hi hni hne hbit v w1 w' h hr=> ?_) (fun m o w1 ho hgo=> ?_) (fun m _=> ?_) (BX.ofExt drew (Nat.le_refl _)) (StepsF.ok ha.get l 0 hs) (fun u listed w' hall hE hf=> ?_)
  · unfold EN at hc ⊢
    cases he:es.contains i <;> rw[he]at hc
    · exact stepR m _ _ hc hr
    · unfold DR at hr
      cases hcm:cs.contains m <;> rw[hcm]at hr
      · exact Ext.trans hc hr
      · unfold Ly at hes
        have:=List.all_eq_true.1 (List.all_eq_true.1 hes m (by simpa using hcm)) i (by simpa using he)
        rw[this]at hbit
        cases hbit
  · unfold DR at hr
    cases hc:cs.contains m <;> rw[hc]at hr
    · exact hst.get Φs i v w1 w' h hr
    · refine(AllCh.get cs hsB m hc).get Φs 0 i ?_ v w1 w' h hr
      rw[Nat.zero_add]
      intro hmem
      unfold lsOk at hls
      have h1:=List.all_eq_true.1 (List.all_eq_true.1 hls m (by simpa using hc)) i hmem
      simp only[Bool.or_eq_true]at h1
      rcases h1 with (h1 | h1) | h1
      · exact hni (by simpa using h1)
      · exact hne (Nat.eq_of_beq_eq_true h1)
      · rw[h1]at hbit
        cases hbit
  · unfold DR
    cases hc:cs.contains m
    · exact Ext.refl w1
    · have:=List.all_eq_true.1 hgc m (by simpa using hc)
      rw[ho]at this
      simp only[Option.bind_some,Option.isNone_iff_eq_none]at this
      rw[this]at hgo
      cases hgo
  · unfold EN
    cases es.contains m
    · exact BX.ofExt drew (Nat.le_refl _)
    · exact drew
  · have hw:=DW ha.get ds (EA hg ds hds) u
    refine⟨fun t=>if t∈ds then u t else ρ t,⟨by rw[CJ],ha.defers,hw⟩,hQ _ w' hE ⟨fun t ht=>if_neg (by simpa using ht)⟩ ?_⟩
    have key:∀es:List Tmp,(∀d∈es,d∈ds)→Bb l ks (AQ Φs) u w' es→Bb l ks (AQ Φs) (fun t=>if t∈ds then u t else ρ t) w' es:=by
      intro es
      induction es with
      | nil=>exact fun _ _=>trivial
      | cons d es ih=>
        intro hm h
        refine⟨?_,ih (fun x hx=>hm x (by simp[hx])) h.2⟩
        have:=h.1
        simp only[if_pos (hm d (by simp))]
        exact this
    exact key ds (fun _ h=>h) hf
end
open Go.RowKit
theorem Yp.mono'{P:Program}{K K' :Value→World→Prop}{J J' :List PanicEntry→World→Prop}{r:Result Next}(h:Yp P K J r)(hm:∀v w,K v w→K' v w)(hj:∀c w,J c w→J' c w):Yp P K' J' r:=by
  match r,h with
  | .ok (.value v) w',h=>exact hm _ _ h
  | .ok .skip w',h=>exact hm _ _ h
  | .halt (.panic v) w',h=>exact hj _ _ h
  | .ok (.enter f args) w',h=>
    refine Calls.mono h fun e w'' hx=> ?_
    match e,hx with
    | .returned v,hx=>exact hm _ _ hx
    | .panicked ch,hx=>exact hj _ _ hx
section
variable {P : Program} {l : List Oper} {kill : Nat → List Nat} {C : Nat → World → Prop} {R : Nat → World → World → Prop} {Φ : Nat → Bn} {a0 : Act}
theorem NE(g:Fv l a0.tmps.size)(hkl:BW l kill=true){L:Nat}{oL:Oper}(hn:C3 l L=true)(hoL:l[L]? =some oL)(hgL:oL.guard=none)(hdL:oL.dst=none) 
    (hC:∀n m,n<l.length→m<l.length→n≠m→((Ba l []).getD n 0).testBit m=false→∀w w',C m w→R n w w' →C m w') (hΦ:∀n i,n<l.length→i<l.length→i∉kill n→i≠n→((Ba l []).getD i 0).testBit n=false→∀v w w',Φ i v w→R n w w' →Φ i v w') (hRr:∀n o w,l[n]? =some o→o.guard.isSome=true→R n w w) (hs:∀i o,l[i]? =some o→i≠L→Ez P l C R Φ a0.tmps i o) {Q:Exit→Act→World→Prop}
    (hQ:∀listed a' w',(∀i,i<l.length→i≠L→On listed i)→¬On listed L→Inv l kill C (fun _ _=>True) Φ a0 listed a' w' →Yp P (fun _ w'' =>Q .normal a' w'') (fun ch w'' =>Q (.panic ch) a' w'') ((execOp a'.eval oL).run P w')):
    ∀(fuel:Nat) (listed:Array Bool) (a:Act) (w:World),(listed.toList.filter (!·)).length=fuel→¬On listed L→Inv l kill C (fun _ _=>True) Φ a0 listed a w→wpAny P .any l.toArray Q fuel listed a w:=by
  obtain⟨hlen,hb⟩:=CO hn
  have rdy:∀(listed:Array Bool),listed.size=l.length→(∀i,i<l.length→On listed i)→Region.ready .any l.toArray listed= []:=by
    intro listed hsz hon
    cases hr:Region.ready .any l.toArray listed with
    | nil=>rfl
    | cons x xs=>
      exfalso
      have hm:x∈Region.ready .any l.toArray listed:=by rw[hr];simp
      obtain⟨h1,o,ho,_⟩:=mem_ready.1 hm
      have hx:x<l.length:=by simpa using (Array.getElem?_eq_some_iff.1 ho).1
      have h2:=hon x hx
      have hx' :x<listed.size:=h2.lt
      unfold On at h2
      simp[hx']at h1 h2
      rw[h1]at h2
      cases h2
  intro fuel
  induction fuel with
  | zero=>
    intro listed a w hf hoff h
    exfalso
    have:=DP _ hf L (by rw[Array.length_toList,h.size];omega)
    exact hoff (by unfold On;simp at this;simp[this])
  | succ fuel ih=>
    intro listed a w hf hoff h
    have hstep:∀i∈Region.ready .any l.toArray listed,∃o,l[i]? =some o∧¬On listed i∧(∀e∈o.after,Region.binds .any e=true→On listed e.on)∧((listed.setIfInBounds i true).toList.filter (!·)).length=fuel:=by
      intro i hi
      obtain⟨h1,o,ho,hall⟩:=mem_ready.1 hi
      have ho' :l[i]? =some o:=by simpa using ho
      have hil:i<listed.size:=by rw[h.size];exact(List.getElem?_eq_some_iff.1 ho').1
      refine⟨o,ho',?_,fun e he hb=>hall e he hb,?_⟩
      · unfold On
        simp[hil]at h1 ⊢
        exact h1
      · rw[Array.toList_setIfInBounds]
        have:=Ee listed.toList i (by
          simp[hil]at h1
          simp[hil,h1])
        omega
    refine⟨fun hr=> ?_,fun i hi=> ?_⟩
    · exfalso
      have full:∀i,i<l.length→On listed i:=by
        intro i
        induction i using Nat.strongRecOn with
        | _ i ih=>
          intro hi
          refine Classical.byContradiction fun hno=> ?_
          have ho:l[i]? =some l[i]:=List.getElem?_eq_getElem hi
          have:i∈Region.ready .any l.toArray listed:=by
            refine mem_ready.2 ⟨?_,l[i],by rw[List.getElem?_toArray];exact ho,fun e he hb=> ?_⟩
            · have hi' :i<listed.size:=by rw[h.size];exact hi
              unfold On at hno
              simp[hi']at hno ⊢
              exact hno
            · have hlt:=g.back i _ ho e he hb
              exact ih e.on hlt (by omega)
          rw[hr]at this
          cases this
      exact hoff (full L (by omega))
    · obtain⟨o,ho,hno,hall,hcnt⟩:=hstep i hi
      by_cases hiL:i=L
      · subst hiL
        obtain rfl:oL=o:=by rw[hoL]at ho;exact Option.some.inj ho
        have hon:∀j,j<l.length→j≠i→On listed j:=fun j hj hne=>h.maskReady ho hall (hb j (by omega))
        have hst:=hQ listed a w hon hno h
        have hall' :∀j,j<l.length→On (listed.setIfInBounds i true) j:=fun j hj=>by
          by_cases hji:j=i
          · exact(on_set (by rw[h.size];omega)).2 (.inl hji)
          · exact(on_set (by rw[h.size];omega)).2 (.inr (hon j hj hji))
        have hr:=rdy (listed.setIfInBounds i true) (by simpa using h.size) hall'
        have fin:∀v w',Q .normal a w' →wpAny P .any l.toArray Q fuel (listed.setIfInBounds i true) (a.put oL.dst v) w' :=fun v w' hq=>by
          have b:a.put oL.dst v=a:=by rw[hdL];rfl
          rw[b]
          cases fuel with
          | zero=>exact⟨hr,hq⟩
          | succ m=>exact⟨fun _=>hq,fun j hj=>by rw[hr]at hj;cases hj⟩
        unfold wpOp
        simp only[List.getElem?_toArray,ho]
        have hw:Region.wanted oL (yielded l.toArray a.tmps)=true:=by unfold Region.wanted;rw[hgL]
        rw[if_pos hw]
        refine .inl ?_
        unfold Oper.wp
        generalize (execOp a.eval oL).run P w=r at hst ⊢
        match r,hst with
        | .ok (.value v) w',hst=>exact fin _ _ hst
        | .ok .skip w',hst=>exact fin _ _ hst
        | .halt (.panic v) w',hst=>exact hst
        | .ok (.enter f args) w',hst=>
          refine Calls.mono hst fun e w'' hx=> ?_
          match e,hx with
          | .returned v,hx=>exact fin _ _ hx
          | .panicked ch,hx=>exact hx
      · refine h.step g hkl hC (fun _ _ _ _ _ _ _ _ _ _=>trivial) hΦ hRr ho hno hall (hs i o ho hiL) fun a' w' h' =>ih _ _ _ hcnt (fun hx=> ?_) h'
        exact((on_set (by rw[h.size];exact(List.getElem?_eq_some_iff.1 ho).1)).1 hx).elim (fun e=>hiL e.symm) hoff
end
section
variable {P : Program} {n : Nat} {ρ : Aq} {w : World} {Q : B9}
theorem Ih{l:List Oper}(L:Nat)(oL:Oper)(ks:Nat→List Nat)(C:Nat→World→Prop)(R:Nat→World→World→Prop)(Φs:List Bn){id:Nat}(hm:P.follows .mixedOrders=true)(ds:List Tmp)(hg:B7 l n=true)(hn:C3 l L=true)(hkl:BW l ks=true)(hds:slotsW l=ds)(hoL:l[L]? =some oL)(hgL:oL.guard=none)(hdL:oL.dst=none) 
    (hC:∀n m,n<l.length→m<l.length→n≠m→((Ba l []).getD n 0).testBit m=false→∀w w',C m w→R n w w' →C m w')
    (hΦ:∀n i,n<l.length→i<l.length→i∉ks n→i≠n→((Ba l []).getD i 0).testBit n=false→∀v w w',AQ Φs i v w→R n w w' →AQ Φs i v w')
    (hRr:∀n o w,l[n]? =some o→o.guard.isSome=true→R n w w) (h0:∀n,n<l.length→C n { w with drawn:=w.drawn+1 })
    (hs:StepsFL P l L C R (AQ Φs) ρ 0 l)
    (hQ:∀(ρ' :Aq) w1,C L w1→EndF ds ρ ρ' →Bb l ks (AQ Φs) ρ' w1 ds→Yp P (fun _ w' =>Q .normal ρ' w') (fun ch w' =>Q (.panic ch) ρ' w') ((execOp (Ad ρ') oL).run P w1)):B2 P n (.region id l.toArray true) Q ρ w:=by
  intro a ha
  obtain⟨T,df⟩:=a
  have hz:T.size=n:=ha.size
  subst hz
  obtain⟨hl,hb⟩:=CO hn
  have g:=ET hg
  refine wp_region_any hm (NE (a0:= { tmps:=T,defers:=df }) (C:=C) (R:=R) (Φ:=AQ Φs) g hkl hn hoL hgL hdL hC hΦ hRr (fun i o ho hi=> ?_) (fun listed a' w' hon hoff h=> ?_) _ _ _ _ (by simp) ?_ ?_)
  · have hst:=StepsFL.get l 0 hs i o ho (by omega)
    rw[Nat.zero_add]at hst
    have h2:=StepsF.ok (P:=P) (l:=l) (C:=C) (R:=R) (Φ:=AQ Φs) (T:=T) ha.get [o] i ⟨hst,trivial⟩
    exact h2.1
  · -- what the slots hold
    have hw:∀d k,CH l d l.length=some k→(List.range l.length).all (fun n=> !(ks n).contains k)=true→AQ Φs k (a'.tmps.getD d undef) w' :=fun d k hk hall=>by
      obtain⟨h1,⟨o,ho,hd⟩,h3⟩:=Da _ hk
      have hkL:k≠L:=fun e=>by subst e;rw[hoL]at ho;cases ho;rw[hdL]at hd;cases hd
      refine h.new d k o ho hd (hon k h1 hkL) (fun k' o' hkk ho' hd' _=>h3 k' o' hkk (List.getElem?_eq_some_iff.1 ho').1 ho' hd') (fun n hn hkn=> ?_)
      have hnl:n<l.length:=by have:=hn.lt;rw[h.size]at this;exact this
      have:=List.all_eq_true.1 hall n (by simpa using hnl)
      simp at this
      exact this hkn
    have hget:∀t,a'.tmps.getD t undef=if t∈ds then a'.tmps.getD t undef else ρ t:=fun t=>by
      by_cases hn:t∈ds
      · rw[if_pos hn]
      · rw[if_neg hn,←ha.get]
        exact h.old t fun k o ho hd _=>hn (by
          rw[←hds]
          unfold slotsW
          rw[List.mem_eraseDups,List.mem_filterMap]
          exact⟨o,List.mem_of_getElem? ho,hd⟩)
    have hcl:=h.cls L (by omega) hoff
    have hend:EndF ds ρ (fun t=>a'.tmps.getD t undef):=⟨fun t ht=>by rw[hget t,if_neg (by simpa using ht)]⟩
    have:=hQ (fun t=>a'.tmps.getD t undef) w' hcl hend (Dx hw ds)
    rw[evalR_eq]at this
    exact Yp.mono' this (fun v w'' hq=>⟨_,⟨h.tmps,h.defers.trans ha.defers,fun t=>rfl⟩,hq⟩) (fun ch w'' hq=>⟨_,⟨h.tmps,h.defers.trans ha.defers,fun t=>rfl⟩,hq⟩)
  · intro h
    unfold On at h
    rw[Array.getD_eq_getD_getElem?,Array.getElem?_replicate]at h
    split at h <;> simp at h
  · have hno:∀i,¬On (Array.replicate l.toArray.size false) i:=fun i h=>by
      unfold On at h
      rw[Array.getD_eq_getD_getElem?,Array.getElem?_replicate]at h
      split at h <;> simp at h
    exact⟨Array.size_replicate,fun i o _ h=>absurd h (hno i),rfl,rfl,fun n hn _=>h0 n hn,trivial,fun t _=>rfl,fun t k o _ _ h=>absurd h (hno k)⟩
end
open Go.RowKit
set_option maxRecDepth 100000
def CF(e:Nat):PanicEntry:= { v:= .iface 69 (.agg ([NI e]:List Value).toArray),recovered:=false }
theorem Ph{vx vy:Value}{x y:Bs}{w:World}(hx:RB w vx x)(hy:RB w vy y):(callFunc 86 #[vx,vy]).run Tryd.prog w = .ok (.value (.int .i64 (Lib.compareBytes x y))) w:=by
 rw[run_callFunc_extern (e:=Extern.BytealgCompare.compare) Tryd.func86 (by kernel_rfl) (by kernel_rfl) (by kernel_rfl) (by kernel_rfl),Jg hx hy]
 rfl
theorem Kz(z0:Int)(w:World):(Instr.build 69 #[(0, .int .i64 z0)]).run Tryd.prog w = .ok (.agg ([.int .i64 z0]:List Value).toArray) w:=by kernel_rfl
theorem NF:∃fs,Tryd.prog.underlying 69=some (.struct fs):=Eg (by kernel_rfl)
theorem NG:A2 Tryd.prog 73:=fun _ _=>by kernel_rfl
theorem Bc(w:World)(b:Bool)(e:Nat):
  Calls Tryd.prog 64 #[.bool b,NI e] w fun r w' =>(∃v,r = .returned v∧v = .tuple #[]∧b=true∧Ext w w')∨∃ch,r = .panicked ch∧ch= [CF e]∧b=false∧Ext w w' :=by
 refine CX (args:= [.bool (b),NI e]) Tryd.func64 rfl 9 rfl (Nat.le_of_ble_eq_true rfl) ?_
 intro c hb
 have f:c 0=(.bool (b):Value):=hb.get 0
 have g:c 1=(NI e:Value):=hb.get 1
 clear hb
 have hE:=Ext.refl w
 refine sk fun i h=>(wt (oM rfl (oS rfl (Yk.notB f (oZ (tN (h _ _ ?_)))))))
 refine Iy (!(b)) (vr (.bool (!(b))) rfl) (fun a=> ?_) (fun a=> ?_)
 ·refine wt (oM rfl (oS rfl (Yk.build1 g (fun w=>Kz (((e:Nat):Int)) w) (oS rfl (Yk.mkIface (NF).choose_spec (vr (.agg ([NI e]).toArray) rfl) (oP rfl (Yp.panic (vr (.iface 69 (.agg ([NI e]).toArray)) rfl) (AK ?_))))))))
  exact .inr ⟨_,rfl,rfl,by simpa using a,hE⟩
 refine Ah (Gr (fn:=Tryd.f64) [] rfl [] (.tuple #[]) rfl trivial ?_)
 exact .inl ⟨_,rfl,rfl,by simpa using a,hE⟩

theorem Ho(w:World)(vx vy:Value)(x y:Bs)(hx:RB w vx x)(hy:RB w vy y):
  Calls Tryd.prog 73 #[vx,vy] w fun e w' =>e = .returned (.int .i64 (Lib.compareBytes x y))∧Ext w w' :=by
 refine AA (args:= [vx,vy]) Tryd.func73 rfl 8 rfl (Nat.le_of_ble_eq_true rfl) ?_
 intro a hb
 have b:a 0=(vx:Value):=hb.get 0
 have c:a 1=(vy:Value):=hb.get 1
 clear hb
 have hE:=Ext.refl w
 refine sk fun h f=>(wt (oA rfl (oZ (tN (f _ _ (sk fun i g=>(wt (oM rfl (oM rfl (oS rfl (Yk.extern2 b c (Ph (hx.keep hE) (hy.keep hE)) (oA rfl (oZ (tN (g _ _ (As (Ao (fn:=Tryd.f73) _ rfl [.int .i64 (Lib.compareBytes x y:Int)] (.int .i64 (Lib.compareBytes x y:Int)) rfl ⟨rfl,trivial⟩ ?_)))))))))))))))))
 exact⟨rfl,hE⟩

theorem Fx(w:World)(x y:Bs)(hxl:x.length=32)(hyl:y.length=32):
  Calls Tryd.prog 57 #[AB x,AB y] w fun e w' =>e = .returned (.int .i64 (Lib.compareBytes x y))∧Ext w w' :=by
 refine AA (args:= [AB x,AB y]) Tryd.func57 rfl 8 rfl (Nat.le_of_ble_eq_true rfl) ?_
 intro m hb
 have i:m 0=(AB x:Value):=hb.get 0
 have j:m 1=(AB y:Value):=hb.get 1
 clear hb
 have hE:=Ext.refl w
 refine sk fun K1 q=>(wt (oS rfl (Yk.box (cs:=(Lib.byteCells x:List Value).toArray) i fun b n ah o r ai=> ?_)))
 have hE:=hE.trans r
 have a:=o;clear o
 have aj:b<n.heap.size:=by omega
 refine oS rfl (Yk.box (cs:=(Lib.byteCells y:List Value).toArray) j fun c s t p k ak=> ?_)
 have f:=Ext.refl n
 have al:=hE
 have am:=hE.size
 have an:=AT (bl a) t
 have hE:=hE.trans k
 have a:=eb k a
 have f:=f.trans k
 have l:=p;clear p
 have ao:c<s.heap.size:=by omega
 refine oA rfl (oZ (tN (q _ _ (sk fun ap u=> ?_))))
 refine Be [Is (.slice (some ⟨b,0,none⟩) 32 32),Is (.slice (some ⟨c,0,none⟩) 32 32),Is (.int .i64 (Lib.compareBytes x y:Int)),Is (.int .i64 (Lib.compareBytes x y:Int))] (by kernel_rfl) [5,6,7,4] (by kernel_rfl) (by kernel_rfl) (Gl trivial) ?v ?hQ1001
 case v=>
  refine⟨?_,?_,?_,?_,trivial⟩
  ·refine Aa rfl fun σ w1 hC h=> ?_
   have z:σ 2=PQ b 0:=(Ab (h 2 (by decide))).trans rfl
   exact Yk.sliceArr Ow Ls z ⟨Ext.refl _,rfl⟩
  ·refine Aa rfl fun σ w1 hC h=> ?_
   have e3:σ 3=PQ c 0:=(Ab (h 3 (by decide))).trans rfl
   exact Yk.sliceArr Ow Ls e3 ⟨Ext.refl _,rfl⟩
  ·refine Aa rfl fun σ w1 hC h=> ?_
   have e5:=Ab (h 5 (by decide))
   have e6:=Ab (h 6 (by decide))
   refine Yk.callA2 NG e5 e6 ((Ho _ _ _ x y (RB.ofBlkN (eb hC a) hxl (by decide)) (RB.ofBlkN (eb hC l) hyl (by decide))).mono ?_)
   rintro e w2 ⟨rfl,hx⟩
   exact⟨_,rfl,hx,rfl⟩
  ·refine Aa rfl fun σ w1 hC h=> ?_
   have e7:=Ab (h 7 (by decide))
   exact Yk.assign e7 ⟨Ext.refl _,rfl⟩
 intro ae ar g he hf
 obtain⟨-,-,-,k4,-⟩:=hf
 obtain⟨i,j,T2,T3,-⟩:=he.hold [(0,_),(1,_),(2,PQ b 0),(3,PQ c 0)] ⟨i,j,rfl,rfl,trivial⟩ rfl
 clear he
 have hE:=hE.trans g
 have a:=eb g a
 have f:=f.trans g
 have l:=eb g l
 have T4:ae 4 = .int .i64 (Lib.compareBytes x y:Int):=k4
 clear k4
 refine tN (u _ _ (As (Ao (fn:=Tryd.f57) _ rfl [.int .i64 (Lib.compareBytes x y:Int)] (.int .i64 (Lib.compareBytes x y:Int)) rfl ⟨T4,trivial⟩ ?_)))
 exact⟨rfl,hE⟩
open Go.RowKit
set_option maxRecDepth 100000
theorem Mm(ids:List Bs)(c:Nat):(BZ ids).getD c 0≤ids.length:=by
 by_cases h:c<256
 ·rw[EM _ _ h]
  exact List.countP_le_length
 ·rw[List.getD_eq_getElem?_getD,List.getElem?_eq_none (by rw[Cn];omega)]
  simp
theorem KA(ids:List Bs)(c:Nat)(h0:0<c)(h:c<256):(Bw ids c).getD c 0+(Bw ids c).getD (c-1) 0≤ids.length:=by
 have h1:=Gv ids c h0 h
 have h2:(Bw ids (c+1)).getD c 0=(AY ids).getD c 0:=by
  unfold Bw
  rw[List.getD_eq_getElem?_getD,List.getElem?_append_left (by rw[List.length_take,BC];omega),List.getElem?_take,if_pos (by omega),←List.getD_eq_getElem?_getD]
 rw[h1,List.getD_eq_getElem?_getD,List.getElem?_set_self (by rw[Ew _ _ (by omega)];exact h)]at h2
 have h3:=G0 ids c
 rw[Option.getD_some]at h2
 omega
theorem Gw:(Tryd.prog.info? 59).map (·.size)=some 256:=by kernel_rfl
theorem JC{d:Option Tmp}{ty:TypeId}{pos:String}{af:Array Edge}{gd:Option (Nat × Bool)}(σ:Operand→Value)(w:World):(execOp σ ⟨d, .alloc 59,ty,pos,af,gd⟩).run Tryd.prog w = .ok (.value (PQ w.heap.size 0)) (w.alloc (.cells ((List.replicate 256 0).map fun x=>NI x).toArray 59)):=by kernel_rfl
theorem JD:Tryd.prog.underlying 47=some (.slice 38):=by kernel_rfl
theorem Mn:∀w' :World,(sizeOf 38).run Tryd.prog w' = .ok 32 w' :=fun _=>by kernel_rfl
theorem NH{d:Option Tmp}{ty:TypeId}{pos:String}{af:Array Edge}{gd:Option (Nat × Bool)}(σ:Operand→Value)(w:World):(execOp σ ⟨d, .alloc 38,ty,pos,af,gd⟩).run Tryd.prog w = .ok (.value (PQ w.heap.size 0)) (w.alloc (.cells (Lib.byteCells (List.replicate 32 0)).toArray 38)):=by kernel_rfl
theorem Eb:Tryd.prog.underlying 59=some (.array 256 3):=by kernel_rfl
theorem FL:∀w' :World,(sizeOf 3).run Tryd.prog w' = .ok 1 w' :=fun _=>by kernel_rfl
theorem JE:(Tryd.prog.info? 3).map (·.size)=some 1:=by kernel_rfl
theorem Lc(w:World)(v:Value)(ids:List Bs)(hr:RG 32 Lib.byteCells w v ids):
  Calls Tryd.prog 26 #[v] w fun e w' =>e = .returned (.agg ((AY ids).map fun x=>NI x).toArray)∧Ext w w' :=by
 have hil:=hr.lenLt
 refine AA (args:= [v]) Tryd.func26 rfl 34 rfl (Nat.le_of_ble_eq_true rfl) ?_
 intro ax hb
 have k:ax 0=(v:Value):=hb.get 0
 clear hb
 have hE:=Ext.refl w
 refine sk fun K1 ay=>(wt (oS rfl (Yk.alloc (cs:=((List.replicate 256 0).map fun x=>NI x).toArray) JC fun r w3 b6 aj az b7=> ?_)))
 have hE:=hE.trans az
 have f:=aj;clear aj
 have b8:r<w3.heap.size:=by omega
 refine oZ (tN (ay _ _ (sk fun b9 a0=>(wt (oS rfl (Yk.alloc (cs:=((List.replicate 256 0).map fun x=>NI x).toArray) JC fun m a1 a2 ak ae ca=> ?_))))))
 have g:=Ext.refl w3
 have cb:=hE
 have al:=hE.size
 have cc:=AT (bl f) a2
 have hE:=hE.trans ae
 have f:=eb ae f
 have g:=g.trans ae
 have am:=ak;clear ak
 have cd:m<a1.heap.size:=by omega
 refine oZ (tN (a0 _ _ (sk fun ce a3=>(sk fun cf a4=>(wt (oM rfl (oS rfl (Yk.lenRG JD (RG.of (hr.keep hE) k) (oM rfl (AH [(0,v),(2,PQ r 0),(3,PQ m 0),(7,v),(8,NI ids.length),(9,NI 0)] ⟨k,rfl,rfl,k,rfl,rfl,trivial⟩ fun cg ⟨k,n,j,o,p,l,_⟩=>(tN (a4 _ _ (Aj (AX (fun(ρ:Aq) (wz:World)=>∃i:Nat,ρ 0=(v:Value)∧ρ 2=(PQ r 0:Value)∧ρ 3=(PQ m 0:Value)∧ρ 7=(v:Value)∧ρ 8=(NI ids.length:Value)∧ρ 9=(NI i:Value)∧Ext w wz∧wz.heap[r]? =some (.cells ((List.replicate 256 0).map fun x=>NI x).toArray 59 (0,0))∧Ext w3 wz∧wz.heap[m]? =some (.cells ((BZ (ids.take i)).map fun x=>NI x).toArray 59 (0,0))∧(i≤ids.length)∧True) (fun ρ _=>ids.length-(intOf (ρ 9)).toNat) ⟨0,k,n,j,o,p,l,hE,f,g,AZ am (congrArg (List.map fun x=>NI x) (show _=BZ []from by decide+kernel)),Nat.zero_le _,trivial⟩ ?_))))))))))))))
 clear am
 clear hE f g
 rintro a5 a6 ⟨i,k,n,j,o,p,l,hE,f,g,hb21l,hi,-⟩
 have q9:=l
 refine sk fun ch a7=>(wt (oS rfl (Yk.eqI (a:=(i:Nat)) (b:=(ids.length:Nat)) l p (AN _ _ _ _) (oZ (tN (a7 _ _ (sk fun ci a8=> ?_)))))))
 refine AO ((i)<(ids.length)) (vr (.bool (decide ((i)<(ids.length)))) rfl) (fun a9=> ?_) (fun a9=> ?_)
 ·have ba:(ids.getD i []).length=32:=by have h1:=RG.elem hr [] (show i<ids.length by omega);rwa [Lib.byteCells_length]at h1
  refine Ah (tN (a8 _ _ (sk fun cj bb=>(Aj (sk fun ck bc=>(wt ?_))))))
  have af:(Lib.byteCells (ids.getD (i) ([]:List UInt8))).length=32:=(RG.elem (hr.keep hE) ([]:List UInt8) (by omega))
  refine oS rfl (Yk.atRG JD Mn (by decide) ([]:List UInt8) (RG.of (hr.keep hE) o) l (by omega) fun bd an=>(oS rfl (Yk.loadPR (PR.of an (vr bd rfl)) Ow rfl (by rw[af];exact L9) (oS rfl (Yk.alloc (cs:=(Lib.byteCells (List.replicate 32 0)).toArray) NH fun t be ao ap u cl=> ?_)))))
  have y:=Ext.refl a6
  have cm:=hE
  have cn:=g
  have bf:=hE.size
  have bg:=g.size
  have co:=AT (bl f) ao
  have cp:=AT (bl hb21l) ao
  have hE:=hE.trans u
  have f:=eb u f
  have g:=g.trans u
  have hb21l:=eb u hb21l
  have y:=y.trans u
  have s:=ap;clear ap
  have cq:t<be.heap.size:=by omega
  refine oS rfl (Yk.storeAll (vr (PQ t 0) rfl) (vr (AB (ids.getD (i) ([]:List UInt8))) rfl) s (by exact C6 (A5 (af)) List.length_replicate) (by exact AM (A5 (af))) (AF _) fun cr aq z ct=> ?_)
  have hE:=Ac hE z (Nat.le_trans bf (by omega))
  have f:=kb z f (by omega)
  have g:=Ac g z (Nat.le_trans bg (by omega))
  have hb21l:=kb z hb21l (by omega)
  have y:=Ac y z (Nat.le_trans (Nat.le_refl _) (by omega))
  clear s
  have s:=aq;clear aq
  have cu:=bl s
  refine oZ ?_
  clear an
  refine tN (bc _ _ (wt (oS rfl (Yk.atArr0 (i:=0) Ow Ls (vr (PQ t 0) rfl) (vr (NI 0) rfl) (by decide) (oS rfl (Yk.cell1 u5 rfl (vr (PQ t 0) rfl) (Ai s (CE (i:=0) (by rw[ba];omega))) (oS rfl (Yk.atArr0 (i:=((ids.getD (i) ([]:List UInt8)).getD (0) 0).toNat) Eb FL j (vr (B8 ((ids.getD (i) ([]:List UInt8)).getD (0) 0)) rfl) (by exact UInt8.toNat_lt _) (oS rfl (Yk.cell1 NA rfl (vr (.pointer (some ⟨m,((ids.getD (i) ([]:List UInt8)).getD (0) 0).toNat,none⟩)) rfl) (Ai hb21l (E2 (i:=((ids.getD (i) ([]:List UInt8)).getD (0) 0).toNat) (by rw[Cn];exact UInt8.toNat_lt _))) (oS rfl (Yk.bin (xv:=NI ((BZ (ids.take i)).getD (((ids.getD (i) ([]:List UInt8)).getD (0) 0).toNat) 0)) (yv:=NI 1) rfl rfl rfl (Ak _ _ _ (by have:=Mm (ids.take i) ((ids.getD i []).getD 0 0).toNat;rw[List.length_take]at this;omega)) (oS rfl (Yk.atArr0 (i:=((ids.getD (i) ([]:List UInt8)).getD (0) 0).toNat) Eb FL j (vr (B8 ((ids.getD (i) ([]:List UInt8)).getD (0) 0)) rfl) (by exact UInt8.toNat_lt _) (oS rfl (Yk.storeN (i:=((ids.getD (i) ([]:List UInt8)).getD (0) 0).toNat) (v:=((BZ (ids.take i)).getD (((ids.getD (i) ([]:List UInt8)).getD (0) 0).toNat) 0)+(1)) (vr (.pointer (some ⟨m,((ids.getD (i) ([]:List UInt8)).getD (0) 0).toNat,none⟩)) rfl) (vr (NI (((BZ (ids.take i)).getD (((ids.getD (i) ([]:List UInt8)).getD (0) 0).toNat) 0)+(1))) rfl) hb21l (by rw[Cn];exact UInt8.toNat_lt _) JE fun cv ar ac cw=> ?_))))))))))))))))
  have hE:=Ac hE ac (Nat.le_trans al (by omega))
  have f:=kb ac f (by omega)
  have g:=Ac g ac (Nat.le_trans (Nat.le_refl _) (by omega))
  clear hb21l
  clear y
  have s:=kb ac s (by omega)
  have hb21l:=ar;clear ar
  have cx:=bl hb21l
  refine oZ (bN (tN (bb _ _ (wt (oS rfl (Yk.bin (xv:=NI i) (yv:=NI 1) l rfl rfl (Ak _ _ _ (by omega)) (oM rfl (AH [(0,v),(2,PQ r 0),(3,PQ m 0),(5,PQ t 0),(7,v),(8,NI ids.length),(9,NI ((i)+(1)))] ⟨k,n,j,rfl,o,p,rfl,trivial⟩ fun bh ⟨k,n,j,T5,o,p,l,_⟩=> ?_))))))))
  refine tN (And.intro ⟨i+1,k,n,j,o,p,l,hE,f,g,AZ hb21l (congrArg (List.map fun x=>NI x) (by rw[List.take_succ_eq_append_getElem (by omega),Kx];simp only[List.getD_eq_getElem?_getD,List.getElem?_eq_getElem (show i<ids.length by omega),Option.getD_some];rfl)),by omega,trivial⟩ ?_)
  show ids.length-(intOf (bh 9)).toNat<ids.length-(intOf (a5 9)).toNat
  rw[l,q9]
  simp only[intOf,Int.toNat_natCast];omega
 refine AJ (Ag (Ag (Ap (tN (a3 _ _ (sk fun cz bi=>(sk fun c0 bj=>(wt (oA rfl (AH [(0,v),(2,PQ r 0),(3,PQ m 0),(6,NI 1),(7,v),(8,NI ids.length),(9,NI i)] ⟨k,n,j,rfl,o,p,l,trivial⟩ fun c1 ⟨k,n,j,q,o,p,l,_⟩=>(tN (bj _ _ (Aj (AX (fun(ρ:Aq) (wz:World)=>∃c:Nat,ρ 0=(v:Value)∧ρ 2=(PQ r 0:Value)∧ρ 3=(PQ m 0:Value)∧ρ 7=(v:Value)∧ρ 8=(NI ids.length:Value)∧ρ 9=(NI i:Value)∧ρ 6=(NI c:Value)∧Ext w wz∧wz.heap[r]? =some (.cells ((List.replicate 256 0).map fun x=>NI x).toArray 59 (0,0))∧Ext w3 wz∧wz.heap[m]? =some (.cells ((Bw ids c).map fun x=>NI x).toArray 59 (0,0))∧(0<c)∧(c≤256)∧True) (fun ρ _=>256-(intOf (ρ 6)).toNat) ⟨1,k,n,j,o,p,l,q,hE,f,g,AZ hb21l (congrArg (List.map fun x=>NI x) (by rw[fanStep_one,show i=ids.length by omega,List.take_length])),by omega,by omega,trivial⟩ ?_))))))))))))))
 clear hb21l
 clear hE f g
 rintro bk bm ⟨c,k,n,j,o,p,l,q,hE,f,g,hb21ll,hc0',hcl,-⟩
 have q6:=q
 refine sk fun c2 bn=>(sk fun c3 bo=>(wt (oM rfl (oS rfl (Yk.eqI (a:=(c:Nat)) (b:=(256:Nat)) q rfl (AN _ _ _ _) (oZ (tN (bo _ _ ?_))))))))
 refine AO ((c)<(256)) (vr (.bool (decide ((c)<(256)))) rfl) (fun bp=> ?_) (fun bp=> ?_)
 ·refine Ah (tN (bn _ _ (sk fun c4 bq=>(Aj ?_))))
  refine Dg 9 (fun(a_ b_:World)=>b_.heap[m]? =some (.cells (((Bw ids c).set (c) (((Bw ids c).getD (c) 0)+((Bw ids c).getD ((c)-(1)) 0))).map fun x=>NI x).toArray 59 (0,0))∧a_.grownBy b_ (some m)∧b_.heap.size=a_.heap.size) [Is (NI c),Is (PQ m c),Is (NI ((Bw ids c).getD (c) 0)),Is (NI c),Is (NI ((c)-(1))),Is (.pointer (some ⟨m,(c)-(1),none⟩)),Is (NI ((Bw ids c).getD ((c)-(1)) 0)),Is (NI (((Bw ids c).getD (c) 0)+((Bw ids c).getD ((c)-(1)) 0))),Is (PQ m c),(fun _ _=>True)] (by kernel_rfl) [24,25,26,27,28,29,30,31,32] (by kernel_rfl) (by kernel_rfl) (by kernel_rfl) rfl (FF ⟨Stab.any,trivial⟩) (FF ⟨Stab.any,trivial⟩) ?br ?hQ1010
  case br=>
   refine⟨?_,?_,?_,?_,?_,?_,?_,?_,?_,?_,trivial⟩
   ·refine Aa rfl fun σ w1 hC h=> ?_
    have e6:=(Ab (h 6 (by decide))).trans q
    have hC:Ext _ w1:=hC
    exact Yk.move e6 ⟨Ext.refl _,rfl⟩
   ·refine Aa rfl fun σ w1 hC h=> ?_
    have e3:=(Ab (h 3 (by decide))).trans j
    have ah:=Ab (h 24 (by decide))
    have hC:Ext _ w1:=hC
    exact Yk.atArr0 (i:=c) Eb FL e3 ah (by omega) ⟨Ext.refl _,rfl⟩
   ·refine Aa rfl fun σ w1 hC h=> ?_
    have bs:=Ab (h 25 (by decide))
    have hC:Ext _ w1:=hC
    exact Yk.cell1 NA rfl bs (Ai (eb hC hb21ll) (E2 (i:=c) (by rw[Ew _ _ hcl];omega))) ⟨Ext.refl _,rfl⟩
   ·refine Aa rfl fun σ w1 hC h=> ?_
    have e6:=(Ab (h 6 (by decide))).trans q
    have hC:Ext _ w1:=hC
    exact Yk.move e6 ⟨Ext.refl _,rfl⟩
   ·refine Aa rfl fun σ w1 hC h=> ?_
    have bt:=Ab (h 27 (by decide))
    have hC:Ext _ w1:=hC
    exact Yk.bin (xv:=NI c) (yv:=NI 1) bt rfl rfl (Bj _ _ _ (by omega) (by omega)) ⟨Ext.refl _,rfl⟩
   ·refine Aa rfl fun σ w1 hC h=> ?_
    have e3:=(Ab (h 3 (by decide))).trans j
    have bu:=Ab (h 28 (by decide))
    have hC:Ext _ w1:=hC
    exact Yk.atArr0 (i:=(c)-(1)) Eb FL e3 bu (by omega) ⟨Ext.refl _,rfl⟩
   ·refine Aa rfl fun σ w1 hC h=> ?_
    have bv:=Ab (h 29 (by decide))
    have hC:Ext _ w1:=hC
    exact Yk.cell1 NA rfl bv (Ai (eb hC hb21ll) (E2 (i:=(c)-(1)) (by rw[Ew _ _ hcl];omega))) ⟨Ext.refl _,rfl⟩
   ·refine Aa rfl fun σ w1 hC h=> ?_
    have bw:=Ab (h 26 (by decide))
    have bx:=Ab (h 30 (by decide))
    have hC:Ext _ w1:=hC
    exact Yk.bin (xv:=NI ((Bw ids c).getD (c) 0)) (yv:=NI ((Bw ids c).getD ((c)-(1)) 0)) bw bx rfl (Ak _ _ _ (by have:=KA ids c hc0' (by omega);omega)) ⟨Ext.refl _,rfl⟩
   ·refine Aa rfl fun σ w1 hC h=> ?_
    have e3:=(Ab (h 3 (by decide))).trans j
    have ah:=Ab (h 24 (by decide))
    have hC:Ext _ w1:=hC
    exact Yk.atArr0 (i:=c) Eb FL e3 ah (by omega) ⟨Ext.refl _,rfl⟩
   ·refine Aa rfl fun σ w1 hC h=> ?_
    have bz:=Ab (h 32 (by decide))
    have b0:=Ab (h 31 (by decide))
    have hC:Ext _ w1:=hC
    exact Yk.storeN (i:=c) (v:=((Bw ids c).getD (c) 0)+((Bw ids c).getD ((c)-(1)) 0)) bz b0 (eb hC hb21ll) (by rw[Ew _ _ hcl];omega) JE fun w2 h1 h2 h3=>⟨⟨h1,h2,h3⟩,trivial⟩
  intro c6 c7 c8 ad b1 he hf
  obtain⟨-,-,-,-,-,-,-,-,-,-⟩:=hf
  obtain⟨k,n,j,q,o,p,l,-⟩:=he.hold [(0,_),(2,_),(3,_),(6,_),(7,_),(8,_),(9,_)] ⟨k,n,j,q,o,p,l,trivial⟩ rfl
  clear he
  have hE:=hE.trans ad
  have f:=eb ad f
  have g:=g.trans ad
  have hb21ll:=eb ad hb21ll
  obtain⟨au,ai,c9⟩:=b1
  have hE:=Ac hE ai (Nat.le_trans al (by omega))
  have f:=kb ai f (by omega)
  have g:=Ac g ai (Nat.le_trans (Nat.le_refl _) (by omega))
  clear hb21ll
  have hb21ll:=au;clear au
  have da:=bl hb21ll
  refine bN (tN (bq _ _ (wt (oM rfl (oS rfl (Yk.bin (xv:=NI c) (yv:=NI 1) q rfl rfl (Ak _ _ _ (by omega)) (oA rfl (AH [(0,v),(2,PQ r 0),(3,PQ m 0),(6,NI ((c)+(1))),(7,v),(8,NI ids.length),(9,NI i)] ⟨k,n,j,rfl,o,p,l,trivial⟩ fun b2 ⟨k,n,j,q,o,p,l,_⟩=>(tN (And.intro ⟨c+1,k,n,j,o,p,l,q,hE,f,g,AZ hb21ll (congrArg (List.map fun x=>NI x) (Gv ids c hc0' (by omega)).symm),by omega,by omega,trivial⟩ ?_))))))))))
  show 256-(intOf (b2 6)).toNat<256-(intOf (bk 6)).toNat
  rw[q,q6]
  simp only[intOf,Int.toNat_natCast];omega
 have b3:c=256:=by omega
 obtain⟨F,hF⟩:∃F,F=AY ids:=⟨_,rfl⟩
 have hb21ll:bm.heap[m]? =some (.cells (F.map fun x=>NI x).toArray 59 (0,0)):=AZ hb21ll (by rw[b3,Ky,hF])
 have hFl:F.length=256:=by rw[hF,BC]
 refine AJ (Ag (Ag (Ap (tN (bi _ _ (sk fun db b4=>(wt (oS rfl (Yk.loadAll j hb21ll Eb rfl (by rw[List.size_toArray,List.length_map,hFl];exact Gw) (oS rfl (Yk.storeAll n (vr (.agg (F.map fun x=>NI x).toArray) rfl) f (by rw[List.size_toArray,List.size_toArray,List.length_map,List.length_map,hFl];rfl) (by rw[List.size_toArray,List.length_map,hFl];exact Gw) (Lx _) fun dc av aw dd=> ?_)))))))))))
 have hE:=Ac hE aw (Nat.le_trans (Nat.le_refl _) (by omega))
 clear f
 clear g
 have hb21ll:=kb aw hb21ll (by omega)
 have f:=av;clear av
 have de:=bl f
 refine oZ (tN (b4 _ _ (As (Ao (fn:=Tryd.f26) _ rfl [.agg (F.map fun x=>NI x).toArray] (.agg (F.map fun x=>NI x).toArray) rfl ⟨ResF.row n f Eb rfl (by rw[List.size_toArray,List.length_map,hFl];exact Gw),trivial⟩ ?_))))
 subst hF
 exact⟨rfl,hE⟩
open Go.RowKit
section
variable {P : Program}
theorem ED{t e:TypeId}{size:Nat}(ht:P.underlying t=some (.slice e))(he:∀w' :World,(sizeOf e).run P w' = .ok size w'){w:World}{v:Value}{n:Nat}{xs:List Value}(hr:Reads w size v n xs)(lo hi:Option Value)(l h:Nat)(hlh:l≤h)(hn:h≤n) 
    (hlo:lo=none∧l=0∨∃k,lo=some (.int k l)) (hhi:hi=none∧h=n∨∃k,hi=some (.int k h)):
    ∃ao c,((∀w:World,(Instr.sliceAt t v lo hi none).run P w = .ok (.slice ao (h-l) c) w)∧(Value.slice ao (h-l) c).ownBlock=v.ownBlock)∧Reads w size (.slice ao (h-l) c) (h-l) ((xs.drop (l*size)).take ((h-l)*size)):=by
  obtain⟨h1,ao,cap,rfl,h2,h3,h4,h5⟩:=hr
  have hE:P.elem t=e:=by simp[Program.elem,ht]
  have ht' :P.underlying t=some (.slice (P.elem t)):=by rw[hE];exact ht
  refine⟨if cap=l then ao else ao.map (·.add (l*size)),cap-l,⟨?_,?_⟩,?_,_,_,rfl,by omega,by omega,?_,?_⟩
  · intro w
    rw[run_sliceAt_slice (P:=P) w t _ _ _ _ ht']
    have hl' :(l:Int)≤(h:Int):=by omega
    have hh' :(h:Int)≤(cap:Int):=by omega
    have hn' :(l:Int)≤(n:Int):=by omega
    rcases hlo with ⟨rfl,rfl⟩ | ⟨k,rfl⟩ <;> rcases hhi with ⟨rfl,rfl⟩ | ⟨k',rfl⟩
    · rw[run_slice_all (P:=P) w t ao h cap ht',hE,he]
      simp[Result.andThen,sliced]
    · rw[run_slice_h (P:=P) w t ao n cap ht' k' h (by omega) hh',hE,he]
      simp[Result.andThen,sliced]
    · rw[run_slice_l (P:=P) w t ao h cap ht' k l (by omega) hl',hE,he]
      simp[Result.andThen,sliced]
    · rw[run_slice_lh (P:=P) w t ao n cap ht' k k' l h (by omega) hl' hh',hE,he]
      simp[Result.andThen,sliced]
  · cases ao with
    | none=>simp[Value.ownBlock]
    | some x=>
      split
      · rfl
      · simp only[Option.map_some,Value.ownBlock,Option.some.injEq]
        unfold Addr.add
        split <;> rfl
  · rw[List.length_take,List.length_drop,h1]
    have:(h-l)*size≤n*size-l*size:=by rw[←Nat.sub_mul];exact Nat.mul_le_mul_right _ (by omega)
    omega
  · intro hnone
    have:ao=none:=by
      cases ao with
      | none=>rfl
      | some x=>split at hnone <;> simp at hnone
    obtain⟨h6,h7⟩:=h4 this
    omega
  · intro a ha j u hu
    have hj:j<((xs.drop (l*size)).take ((h-l)*size)).length:=(List.getElem?_eq_some_iff.1 hu).1
    have hj2:j<(h-l)*size:=by rw[List.length_take]at hj;omega
    have hhl:h-l≠0:=fun e=>by rw[e]at hj2;simp at hj2
    rw[if_neg (by omega)]at ha
    cases ao with
    | none=>simp at ha
    | some x=>
      simp at ha
      subst ha
      rw[EX]
      refine h5 x rfl _ _ ?_
      rw[List.getElem?_take,if_pos hj2,List.getElem?_drop]at hu
      exact hu
end
section
variable {P : Program} {K : Value → World → Prop} {ρ : Aq} {w w0 : World} {d : Option Tmp} {ty : TypeId} {pos : String} {af : Array Edge} {gd : Option (Nat × Bool)}
variable {α : Type} {k : Nat} {enc : α → List Value} {t e : TypeId}
theorem Yk.sliceLoW(ht:P.underlying t=some (.slice e))(he:∀w' :World,(sizeOf e).run P w' = .ok k w'){x lo:Operand}{v:Value}{xs:List α}(hx:Ad ρ x=v)(h:RG k enc w0 v xs){kd:IntKind}{l:Nat}(hlo:Ad ρ lo = .int kd (l:Int))(hl:l≤xs.length) 
    (hk:∀v',RG k enc w0 v' (xs.drop l)→v'.ownBlock=v.ownBlock→K v' w):Yk P K ((execOp (Ad ρ) ⟨d, .slice t x (some lo) none none,ty,pos,af,gd⟩).run P w):=by
  obtain⟨ao,c,⟨hrun,hb⟩,hR⟩:=ED ht he h.2 (some (.int kd l)) none l xs.length hl (Nat.le_refl _) (.inr ⟨kd,rfl⟩) (.inl ⟨rfl,rfl⟩)
  have hR' :=RG.cut h.1 hl (Nat.le_refl _) hR
  rw[List.take_of_length_le (by rw[List.length_drop];exact Nat.le_refl _)]at hR'
  refine Yk.value (v:= .slice ao (xs.length-l) c) (w' :=w) ?_ (hk _ hR' hb)
  unfold execOp
  simp only[hx,hlo,Option.map_some,Option.map_none,hrun,Sem.run_bind,Sem.run_pure,Result.andThen_ok]
theorem Yk.sliceHiW(ht:P.underlying t=some (.slice e))(he:∀w' :World,(sizeOf e).run P w' = .ok k w'){x hi:Operand}{v:Value}{xs:List α}(hx:Ad ρ x=v)(h:RG k enc w0 v xs){kd:IntKind}{n:Nat}(hhi:Ad ρ hi = .int kd (n:Int))(hl:n≤xs.length) 
    (hk:∀v',RG k enc w0 v' (xs.take n)→v'.ownBlock=v.ownBlock→K v' w):Yk P K ((execOp (Ad ρ) ⟨d, .slice t x none (some hi) none,ty,pos,af,gd⟩).run P w):=by
  obtain⟨ao,c,⟨hrun,hb⟩,hR⟩:=ED ht he h.2 none (some (.int kd n)) 0 n (Nat.zero_le _) hl (.inl ⟨rfl,rfl⟩) (.inr ⟨kd,rfl⟩)
  have hR' :=RG.cut h.1 (Nat.zero_le _) hl hR
  rw[List.drop_zero,Nat.sub_zero]at hR'
  refine Yk.value (v:= .slice ao (n-0) c) (w' :=w) ?_ (hk _ hR' hb)
  unfold execOp
  simp only[hx,hhi,Option.map_some,Option.map_none,hrun,Sem.run_bind,Sem.run_pure,Result.andThen_ok]
theorem G1{P:Program}{e:TypeId}{k b:Nat}(h:(P.info? e).map (fun i=>(i.zero.map (fun z=>z.cells.size),i.size,i.bytes))=some (some k,k,b)):∃z,(P.info? e).map (fun i=>(i.zero,i.size,i.bytes))=some (some z,k,b)∧z.cells.size=k:=by
  cases hi:P.info? e with
  | none=>rw[hi]at h;cases h
  | some i=>
    rw[hi]at h
    simp only[Option.map_some,Option.some.injEq,Prod.mk.injEq]at h
    cases hz:i.zero with
    | none=>rw[hz]at h;cases h.1
    | some z=>
      rw[hz]at h
      simp only[Option.map_some,Option.some.injEq]at h
      exact⟨z,by simp[hz,h.2.1,h.2.2],h.1⟩
theorem Yk.makeG(base:Nat)(z:Value)(bytes:Nat)(ht:P.underlying t=some (.slice e))(hi:(P.info? e).map (fun i=>(i.zero,i.size,i.bytes))=some (some z,k,bytes)){x y:Operand}{kl kc:IntKind}{n:Nat}(hx:Ad ρ x = .int kl 0)(hy:Ad ρ y = .int kc (n:Int))(hb:bytes*n≤281474976710656)(hn:n≤9223372036854775807)(hbase:base≤w.heap.size) 
    (hk:∀v w',OG base e k enc w' v ([]:List α)→Ext w w' →K v w'):Yk P K ((execOp (Ad ρ) ⟨d, .makeSlice t x y,ty,pos,af,gd⟩).run P w):=by
  obtain⟨i,hi,hz,hsize,hby⟩:=info_parts hi
  obtain⟨w',hr,h2,h3⟩:=run_make_own (P:=P) (w:=w) base t e i z k ht hi hz hsize kl kc n (by rw[hby];exact hb) (by unfold maxLen;omega) hbase
  refine Yk.value (v:= .slice (some ⟨w.heap.size,0,none⟩) 0 n) (w' :=w') ?_ (hk _ w' ⟨by simp,h2⟩ (Ext.of h3))
  unfold execOp
  simp only[hx,hy,hr,Sem.run_bind,Sem.run_pure,Result.andThen_ok]
theorem Yk.makeN(bytes:Nat)(ht:P.underlying t=some (.slice e))(hi:(P.info? e).map (fun i=>(i.zero,i.size,i.bytes))=some (some (.int .i64 0),1,bytes)){x y:Operand}{kl kc:IntKind}{n:Nat}(hx:Ad ρ x = .int kl (n:Int))(hy:Ad ρ y = .int kc (n:Int))(hb:bytes*n≤281474976710656)(hn:n≤9223372036854775807) 
    (hk:∀g w',w.heap.size=g→w'.heap[g]? =some (.cells ((List.replicate n 0).map fun x=>NI x).toArray e (0,0))→Ext w w' →w'.heap.size=g+1→K (.slice (some ⟨g,0,none⟩) n n) w'):Yk P K ((execOp (Ad ρ) ⟨d, .makeSlice t x y,ty,pos,af,gd⟩).run P w):=by
  obtain⟨i,hi,hz,hsize,hby⟩:=info_parts hi
  have hb' :(i.bytes:Int)*(n:Int)≤281474976710656:=by
    have h:((i.bytes*n:Nat):Int)≤281474976710656:=by rw[hby];omega
    rwa [Int.natCast_mul]at h
  have hr:=run_make (P:=P) w t e i _ ht hi hz kl kc (n:Int) n (by omega) (by omega) hb' (by omega)
  have hm:madeCells (Value.int .i64 0).cells (n*i.size)=((List.replicate n 0).map fun x=>NI x).toArray:=by
    rw[hsize,Nat.mul_one]
    apply Array.ext
    · simp[madeCells]
    · intro j h1 h2
      simp[madeCells,Value.cells,Nat.mod_one]
  simp only[Int.toNat_natCast]at hr
  rw[hm]at hr
  refine Yk.value (v:= .slice (some ⟨w.heap.size,0,none⟩) n n) (w' :=w.alloc (.cells ((List.replicate n 0).map fun x=>NI x).toArray e)) ?_ (hk w.heap.size _ rfl (heap_alloc_new w _) ((Below.refl _ _).alloc (Nat.le_refl _) _) (by simp))
  unfold execOp
  simp only[hx,hy,hr,Sem.run_bind,Sem.run_pure,Result.andThen_ok]
theorem Yk.atSl0(ht:P.underlying t=some (.slice e))(he:∀w' :World,(sizeOf e).run P w' = .ok 1 w'){x y:Operand}{b i n c:Nat}{kd:IntKind}(hx:Ad ρ x = .slice (some ⟨b,0,none⟩) n c)(hy:Ad ρ y = .int kd (i:Int))(hi:i<n)(hk:K (.pointer (some ⟨b,i,none⟩)) w):Yk P K ((execOp (Ad ρ) ⟨d, .indexAddr t x y,ty,pos,af,gd⟩).run P w):=
  Yk.atSl ht he hx hy hi (by rw[Nat.zero_add];exact hk)
theorem OG.base{α:Type}{b b' k:Nat}{e:TypeId}{enc:α→List Value}{v:Value}{l:List α}(h:OG b e k enc w v l)(hb:b' ≤b):OG b' e k enc w v l:=⟨h.1,CU h.2 hb⟩
theorem B5{α:Type}{b k:Nat}{e:TypeId}{enc:α→List Value}{v:Value}{l l' :List α}(h:OG b e k enc w v l)(e' :l=l'):OG b e k enc w v l' :=by rw[←e'];exact h
theorem CY{α β:Type}{ek:α→Value}{ev:β→Value}{D:α→Prop}{b:Nat}{G G' :α→Option β}(h:MapF ek ev D w b G)(e:G=G'):MapF ek ev D w b G' :=by rw[←e];exact h
def CK{α:Type}(B N:Nat)(e:TypeId)(k:Nat)(enc:α→List Value)(r:Option Nat)(l:List α)(x:Value)(w' :World):Prop:=OG B e k enc w' x l∧∀k,x.ownBlock=some k→r=some k∨N≤k
theorem RG.nilOwn(w:World)(b:Nat)(e:TypeId):OG b e k enc w (.slice none 0 0) ([]:List α):=OG.nil b e k enc w
structure MI (l O A B : List (List UInt8)) : Prop where
  perm:(O++(A++B)).Perm l
  ascO:CI O
  ascA:CI A
  ascB:CI B
  le:∀x∈O,∀y∈A++B,Lib.compareBytes x y≤0
theorem MI.start{l A B:List (List UInt8)}{h:Nat}(hA:A.Perm (l.take h))(hB:B.Perm (l.drop h))(a1:CI A)(b1:CI B):MI l [] A B:=
  ⟨by rw[List.nil_append];exact(hA.append hB).trans (by rw[List.take_append_drop]),List.Pairwise.nil,a1,b1,by simp⟩
theorem MI.left{l O A B:List (List UInt8)}(h:MI l O A B)(hA:0<A.length)(hB:0<B.length)(hc:Lib.compareBytes (A.getD 0 []) (B.getD 0 [])≤0):MI l (O++ [A.getD 0 []]) (A.drop 1) B:=by
  match A,B,hA,hB,h,hc with
  | a :: A,b :: B,_,_,h,hc=>
    simp only[List.getD_cons_zero,List.drop_succ_cons,List.drop_zero]at hc ⊢
    have hp:=List.pairwise_cons.1 h.ascA
    have hq:=List.pairwise_cons.1 h.ascB
    have hall:∀y∈A++b :: B,Lib.compareBytes a y≤0:=fun y hy=>by
      rcases List.mem_append.1 hy with h1 | h1
      · exact hp.1 y h1
      · rcases List.mem_cons.1 h1 with rfl | h1
        · exact hc
        · exact EC hc (hq.1 y h1)
    refine⟨by rw[List.append_assoc];exact h.perm,?_,hp.2,h.ascB,?_⟩
    · unfold CI
      rw[List.pairwise_append]
      exact⟨h.ascO,by simp,fun x hx y hy=>by rw[List.mem_singleton.1 hy];exact h.le x hx a (by simp)⟩
    · intro x hx y hy
      rcases List.mem_append.1 hx with h1 | h1
      · exact h.le x h1 y (by simp only[List.cons_append,List.mem_cons];exact .inr hy)
      · rw[List.mem_singleton.1 h1];exact hall y hy
theorem MI.right{l O A B:List (List UInt8)}(h:MI l O A B)(hA:0<A.length)(hB:0<B.length)(hc:¬Lib.compareBytes (A.getD 0 []) (B.getD 0 [])≤0):MI l (O++ [B.getD 0 []]) A (B.drop 1):=by
  match A,B,hA,hB,h,hc with
  | a :: A,b :: B,_,_,h,hc=>
    simp only[List.getD_cons_zero,List.drop_succ_cons,List.drop_zero]at hc ⊢
    have hp:=List.pairwise_cons.1 h.ascA
    have hq:=List.pairwise_cons.1 h.ascB
    have hba:Lib.compareBytes b a≤0:=by have:=FK a b;omega
    have hall:∀y∈a :: A++B,Lib.compareBytes b y≤0:=fun y hy=>by
      rcases List.mem_append.1 hy with h1 | h1
      · rcases List.mem_cons.1 h1 with rfl | h1
        · exact hba
        · exact EC hba (hp.1 y h1)
      · exact hq.1 y h1
    refine⟨?_,?_,h.ascA,hq.2,?_⟩
    · refine List.Perm.trans ?_ h.perm
      rw[List.append_assoc]
      refine List.Perm.append_left O ?_
      simp only[List.singleton_append]
      exact(List.perm_middle (l₁:=a :: A) (l₂:=B) (a:=b)).symm
    · unfold CI
      rw[List.pairwise_append]
      exact⟨h.ascO,by simp,fun x hx y hy=>by rw[List.mem_singleton.1 hy];exact h.le x hx b (by simp)⟩
    · intro x hx y hy
      rcases List.mem_append.1 hx with h1 | h1
      · exact h.le x h1 y (by
          rcases List.mem_append.1 hy with h2 | h2
          · exact List.mem_append_left _ h2
          · exact List.mem_append_right _ (by simp[h2]))
      · rw[List.mem_singleton.1 h1];exact hall y hy
theorem MI.done{l O A B:List (List UInt8)}(h:MI l O A B)(he:A.length=0∨B.length=0):((O++A)++B).Perm l∧CI ((O++A)++B):=by
  refine⟨by rw[List.append_assoc];exact h.perm,?_⟩
  rw[List.append_assoc]
  unfold CI
  rw[List.pairwise_append]
  refine⟨h.ascO,?_,h.le⟩
  rcases he with he | he
  · rw[List.eq_nil_of_length_eq_zero he,List.nil_append];exact h.ascB
  · rw[List.eq_nil_of_length_eq_zero he,List.append_nil];exact h.ascA
theorem Mo{l:List (List UInt8)}(h:l.length<2):CI l:=by
  match l,h with
  | [],_=>exact List.Pairwise.nil
  | [a],_=>simp[CI]
end
open Go.RowKit
set_option maxRecDepth 100000
theorem pk6_ig38:∃z,(Tryd.prog.info? 38).map (fun i=>(i.zero,i.size,i.bytes))=some (some z,32,32)∧z.cells.size=32:=G1 (by kernel_rfl)
theorem Hp:A2 Tryd.prog 56:=fun _ _=>by kernel_rfl
theorem NJ:A2 Tryd.prog 57:=fun _ _=>by kernel_rfl
theorem NK(c0 c1 c2 c3 c4 c5 c6 c7 c8 c9 c10 c11 c12 c13 c14 c15 c16 c17 c18 c19 c20 c21 c22 c23 c24 c25 c26 c27 c28 c29 c30 c31:Value)(w:World):(Instr.buildSlice 47 1 #[(0, .agg #[c0,c1,c2,c3,c4,c5,c6,c7,c8,c9,c10,c11,c12,c13,c14,c15,c16,c17,c18,c19,c20,c21,c22,c23,c24,c25,c26,c27,c28,c29,c30,c31])]).run Tryd.prog w = .ok (.slice (some ⟨w.heap.size,0,none⟩) 1 1) (w.alloc (.cells #[c0,c1,c2,c3,c4,c5,c6,c7,c8,c9,c10,c11,c12,c13,c14,c15,c16,c17,c18,c19,c20,c21,c22,c23,c24,c25,c26,c27,c28,c29,c30,c31] 38)):=by kernel_rfl
theorem JF:∀(cs:Array Value),cs.size=32→∀w:World,(Instr.buildSlice 47 1 #[(0, .agg cs)]).run Tryd.prog w = .ok (.slice (some ⟨w.heap.size,0,none⟩) 1 1) (w.alloc (.cells cs 38))
 | ⟨[c0,c1,c2,c3,c4,c5,c6,c7,c8,c9,c10,c11,c12,c13,c14,c15,c16,c17,c18,c19,c20,c21,c22,c23,c24,c25,c26,c27,c28,c29,c30,c31]⟩,_,w=>NK c0 c1 c2 c3 c4 c5 c6 c7 c8 c9 c10 c11 c12 c13 c14 c15 c16 c17 c18 c19 c20 c21 c22 c23 c24 c25 c26 c27 c28 c29 c30 c31 w
theorem Lz(n:Nat)(ih:∀l:List Bs,l.length<n→∀(w:World) (v:Value),RG 32 Lib.byteCells w v l→Calls Tryd.prog 56 #[v, .func (.func 57) #[] #[]] w fun e w' =>∃v' m,e = .returned v' ∧OG w.heap.size 38 32 Lib.byteCells w' v' m∧m.Perm l∧CI m∧Ext w w')(l:List Bs)(hn:l.length=n)(hlim:l.length≤1048576)(w:World)(v:Value)(hr:RG 32 Lib.byteCells w v l):
  Calls Tryd.prog 56 #[v, .func (.func 57) #[] #[]] w fun e w' =>∃v' m,e = .returned v' ∧OG w.heap.size 38 32 Lib.byteCells w' v' m∧m.Perm l∧CI m∧Ext w w' :=by
 refine AA (args:= [v, .func (.func 57) #[] #[]]) Tryd.func56 rfl 68 rfl (Nat.le_of_ble_eq_true rfl) ?_
 intro a3 hb
 have o:a3 0=(v:Value):=hb.get 0
 have p:a3 1=(.func (.func 57) #[] #[]:Value):=hb.get 1
 clear hb
 have hE:=Ext.refl w
 refine sk fun K1 bn=>(wt (oA rfl (oZ (tN (bn _ _ (sk fun K2 bo=>(sk fun K3 bp=>(wt (oM rfl (oS rfl (Yk.lenRG JD (RG.of hr o) (oS rfl (Yk.eqI (a:=(l.length:Nat)) (b:=(2:Nat)) rfl rfl (AN _ _ _ _) (oZ (tN (bp _ _ ?_))))))))))))))))
 refine AO ((l.length)<(2)) (vr (.bool (decide ((l.length)<(2)))) rfl) (fun a4=> ?_) (fun a4=> ?_)
 ·refine sk fun K4 bq=>(wt (oM rfl (oS rfl (Yk.appendRG _ _ w.heap.size _ 32 JD pk6_ig38.choose_spec.1 pk6_ig38.choose_spec.2 JD ([]) (l) (RG.nilOwn _ _ _) (RG.of hr o) (fun _ _=>AF _) (by simp only[List.length_nil];omega) (by simp only[List.length_nil];omega) hE.size fun v5 w6 br an=> ?_))))
  have an:Grew w w6 (.slice none 0 0) v5:=an
  have hx_:Ext w w6:=Ext.of (by have:=an.by_;exact this)
  have hE:=hE.trans hx_
  refine oA rfl (oZ (tN (bq _ _ (As (Am (Ao (fn:=Tryd.f56) _ rfl [v5] (v5) rfl ⟨rfl,trivial⟩ ?_))))))
  exact⟨_,l,rfl,OG.base (B5 br (List.nil_append l)) (by omega),List.Perm.refl _,Mo a4,hE⟩
 refine Ah (tN (bo _ _ (sk fun K9 bs=> ?_)))
 refine Be [Is (v),Is (v),Is (NI l.length),Is (NI ((l.length)/(2))),fun x _=>RG 32 (Lib.byteCells) w x (l.take ((l.length)/(2))),Is (.func (.func 57) #[] #[]),fun x w' =>∃m,RG 32 Lib.byteCells w' x m∧m.Perm (l.take ((l.length)/(2)))∧CI m,Is (v),Is (v),Is (NI l.length),Is (NI ((l.length)/(2))),fun x _=>RG 32 (Lib.byteCells) w x (l.drop ((l.length)/(2))),Is (.func (.func 57) #[] #[]),fun x w' =>∃m,RG 32 Lib.byteCells w' x m∧m.Perm (l.drop ((l.length)/(2)))∧CI m,fun x w' =>∃m,RG 32 Lib.byteCells w' x m∧m.Perm (l.take ((l.length)/(2)))∧CI m,fun x w' =>∃m,RG 32 Lib.byteCells w' x m∧m.Perm (l.drop ((l.length)/(2)))∧CI m] (by kernel_rfl) [13,14,15,16,17,18,19,20,21,22,23,24,25,26,5,6] (by kernel_rfl) (by kernel_rfl) (Gl ⟨(fun _ _ _ h _=>h),Stab.is _,(fun _ _ _ ⟨m,h1,h2⟩ k=>⟨m,h1.keep k,h2⟩),(Gl ⟨(fun _ _ _ h _=>h),Stab.is _,(fun _ _ _ ⟨m,h1,h2⟩ k=>⟨m,h1.keep k,h2⟩),(fun _ _ _ ⟨m,h1,h2⟩ k=>⟨m,h1.keep k,h2⟩),(fun _ _ _ ⟨m,h1,h2⟩ k=>⟨m,h1.keep k,h2⟩),trivial⟩)⟩) ?bt ?hQ1003
 case bt=>
  refine⟨?_,?_,?_,?_,?_,?_,?_,?_,?_,?_,?_,?_,?_,?_,?_,?_,trivial⟩
  ·refine Aa rfl fun σ w1 hC h=> ?_
   have s:=(Ab (h 0 (by decide))).trans o
   exact Yk.move s ⟨Ext.refl _,rfl⟩
  ·refine Aa rfl fun σ w1 hC h=> ?_
   have s:=(Ab (h 0 (by decide))).trans o
   exact Yk.move s ⟨Ext.refl _,rfl⟩
  ·refine Aa rfl fun σ w1 hC h=> ?_
   have bu:=Ab (h 14 (by decide))
   exact Yk.lenRG JD (RG.of (hr.keep hC) bu) ⟨Ext.refl _,rfl⟩
  ·refine Aa rfl fun σ w1 hC h=> ?_
   have bv:=Ab (h 15 (by decide))
   exact Yk.bin (xv:=NI l.length) (yv:=NI 2) bv rfl rfl (EU _ _ _ (by omega) (by omega)) ⟨Ext.refl _,rfl⟩
  ·refine Aa rfl fun σ w1 hC h=> ?_
   have bw:=Ab (h 13 (by decide))
   have bx:=Ab (h 16 (by decide))
   exact Yk.sliceHiW JD Mn bw hr bx (by omega) fun v h _=>⟨Ext.refl _,h⟩
  ·refine Aa rfl fun σ w1 hC h=> ?_
   have e1:=(Ab (h 1 (by decide))).trans p
   exact Yk.move e1 ⟨Ext.refl _,rfl⟩
  ·refine Aa rfl fun σ w1 hC h=> ?_
   have bz:(fun x _=>RG 32 (Lib.byteCells) w x (l.take ((l.length)/(2)))) (σ 17) w1:=h 17 (by decide)
   have b0:=Ab (h 18 (by decide))
   refine Yk.callA2 Hp rfl b0 ((ih (l.take ((l.length)/(2))) (by have hlen_:=List.length_take_le (l.length/2) l;first | (simp only[List.length_take];omega) | (simp only[List.length_drop];omega)) _ _ (RG.keep bz hC)).mono ?_)
   rintro e t ⟨_,m,rfl,h1,h2,h3,h4⟩
   exact⟨_,rfl,h4,m,RG.ofOwn h1,h2,h3⟩
  ·refine Aa rfl fun σ w1 hC h=> ?_
   have s:=(Ab (h 0 (by decide))).trans o
   exact Yk.move s ⟨Ext.refl _,rfl⟩
  ·refine Aa rfl fun σ w1 hC h=> ?_
   have s:=(Ab (h 0 (by decide))).trans o
   exact Yk.move s ⟨Ext.refl _,rfl⟩
  ·refine Aa rfl fun σ w1 hC h=> ?_
   have b1:=Ab (h 21 (by decide))
   exact Yk.lenRG JD (RG.of (hr.keep hC) b1) ⟨Ext.refl _,rfl⟩
  ·refine Aa rfl fun σ w1 hC h=> ?_
   have b2:=Ab (h 22 (by decide))
   exact Yk.bin (xv:=NI l.length) (yv:=NI 2) b2 rfl rfl (EU _ _ _ (by omega) (by omega)) ⟨Ext.refl _,rfl⟩
  ·refine Aa rfl fun σ w1 hC h=> ?_
   have b3:=Ab (h 20 (by decide))
   have b4:=Ab (h 23 (by decide))
   exact Yk.sliceLoW JD Mn b3 hr b4 (by omega) fun v h _=>⟨Ext.refl _,h⟩
  ·refine Aa rfl fun σ w1 hC h=> ?_
   have e1:=(Ab (h 1 (by decide))).trans p
   exact Yk.move e1 ⟨Ext.refl _,rfl⟩
  ·refine Aa rfl fun σ w1 hC h=> ?_
   have b5:(fun x _=>RG 32 (Lib.byteCells) w x (l.drop ((l.length)/(2)))) (σ 24) w1:=h 24 (by decide)
   have b6:=Ab (h 25 (by decide))
   refine Yk.callA2 Hp rfl b6 ((ih (l.drop ((l.length)/(2))) (by have hlen_:=List.length_take_le (l.length/2) l;first | (simp only[List.length_take];omega) | (simp only[List.length_drop];omega)) _ _ (RG.keep b5 hC)).mono ?_)
   rintro e t ⟨_,m,rfl,h1,h2,h3,h4⟩
   exact⟨_,rfl,h4,m,RG.ofOwn h1,h2,h3⟩
  ·refine Aa rfl fun σ w1 hC h=> ?_
   have b7:(fun x w' =>∃m,RG 32 Lib.byteCells w' x m∧m.Perm (l.take ((l.length)/(2)))∧CI m) (σ 19) w1:=h 19 (by decide)
   exact Yk.assign rfl ⟨Ext.refl _,b7⟩
  ·refine Aa rfl fun σ w1 hC h=> ?_
   have b8:(fun x w' =>∃m,RG 32 Lib.byteCells w' x m∧m.Perm (l.drop ((l.length)/(2)))∧CI m) (σ 26) w1:=h 26 (by decide)
   exact Yk.assign rfl ⟨Ext.refl _,b8⟩
 intro ad g a6 he hf
 obtain⟨-,-,-,-,-,-,-,-,-,-,-,-,-,-,k5,k6,-⟩:=hf
 obtain⟨o,p,r,-⟩:=he.hold [(0,_),(1,_),(4,(Value.slice none 0 0))] ⟨o,p,rfl,trivial⟩ rfl
 clear he
 have hr:=hr.keep a6
 have hE:=hE.trans a6
 have k5:(fun x w' =>∃m,RG 32 Lib.byteCells w' x m∧m.Perm (l.take ((l.length)/(2)))∧CI m) (ad 5) g:=k5
 obtain⟨a7,i⟩:∃v,ad 5=v:=⟨_,rfl⟩
 rw[i]at k5
 have b9:=k5;clear k5
 obtain⟨A,ca,cb,ha17⟩:=b9
 have k6:(fun x w' =>∃m,RG 32 Lib.byteCells w' x m∧m.Perm (l.drop ((l.length)/(2)))∧CI m) (ad 6) g:=k6
 obtain⟨a8,j⟩:∃v,ad 6=v:=⟨_,rfl⟩
 rw[j]at k6
 have cc:=k6;clear k6
 obtain⟨B,cd,ce,ha22⟩:=cc
 refine tN (bs _ _ (sk fun dw cf=>(wt (oM rfl (oS rfl (Yk.lenRG JD (RG.of hr o) ?_))))))
 have f:=Ext.refl g
 have dx:=hE
 have u:=hE.size
 refine oS rfl (Yk.makeG (enc:=Lib.byteCells) g.heap.size _ 32 JD pk6_ig38.choose_spec.1 (vr (NI 0) rfl) (vr (NI l.length) rfl) (by omega) (by omega) (Nat.le_refl _) fun a9 dy ba bb=> ?_)
 have hE:=hE.trans bb
 have f:=f.trans bb
 refine oA rfl (AH [(0,v),(1, .func (.func 57) #[] #[]),(4,(Value.slice none 0 0)),(5,a7),(6,a8),(7,a9)] ⟨o,p,r,i,j,rfl,trivial⟩ fun dz ⟨o,p,r,i,j,q,_⟩=>(tN (cf _ _ (sk fun d0 bc=>(Aj (AX (fun(ρ:Aq) (wz:World)=>∃va:Value,∃vb:Value,∃Al:List Bs,∃Bl:List Bs,∃Ol:List Bs,∃vo:Value,ρ 0=(v:Value)∧ρ 1=(.func (.func 57) #[] #[]:Value)∧ρ 4=((Value.slice none 0 0):Value)∧ρ 5=(va:Value)∧ρ 6=(vb:Value)∧ρ 7=(vo:Value)∧Ext w wz∧Ext g wz∧RG 32 Lib.byteCells g va Al∧RG 32 Lib.byteCells g vb Bl∧OG g.heap.size 38 32 (Lib.byteCells) wz vo Ol∧(MI l Ol Al Bl)∧True) (fun ρ _=>Bz (ρ 5)+Bz (ρ 6)) ⟨a7,a8,A,B,[],a9,o,p,r,i,j,q,hE,f,ca,cd,ba,MI.start cb ce ha17 ha22,trivial⟩ ?_))))))
 clear ba
 clear hE f
 rintro ae bd ⟨va,vb,Al,Bl,Ol,vo,o,p,r,i,j,q,hE,f,hfa,hfb,hfo,hMI,-⟩
 have q5:=i
 have q6:=j
 have qa:=hfa.sliceLen
 have qb:=hfb.sliceLen
 have hla:=hMI.perm.length_eq
 simp only[List.length_append]at hla
 by_cases hga:0<Al.length
 ·by_cases hgb:0<Bl.length
  ·refine sk fun d1 cg=>(sk fun d2 ch=>(wt (oM rfl (oS rfl (Yk.lenRG JD (RG.of (hfa.keep f) i) (oS rfl (Yk.eqI (a:=(Al.length:Nat)) (b:=(0:Nat)) rfl rfl (Bm _ _ _ _) (oM rfl (oY (d:=33) rfl rfl (vr (.bool (true)) (congrArg Value.bool (decide_eq_true (hga)))) (Yk.move j (oY (d:=33) rfl rfl (vr (.bool (true)) (congrArg Value.bool (decide_eq_true (hga)))) (Yk.lenRG JD (RG.of (hfb.keep f) (vr vb rfl)) (oY (d:=33) rfl rfl (vr (.bool (true)) (congrArg Value.bool (decide_eq_true (hga)))) (Yk.eqI (a:=(Bl.length:Nat)) (b:=(0:Nat)) rfl rfl (Bm _ _ _ _) (oS rfl (Yk.pickT (vr (.bool (true)) (congrArg Value.bool (decide_eq_true (hga)))) (vr (.bool (true)) (congrArg Value.bool (decide_eq_true (hgb)))) (oZ (tN (ch _ _ (AE (vr (.bool (true)) rfl) (Ah (tN (cg _ _ ?_)))))))))))))))))))))))
   refine Aj (sk fun d3 ci=> ?_)
   refine Be [Is (.func (.func 57) #[] #[]),Is (va),fun x w' =>PR (Lib.byteCells (Al.getD (0) ([]:List UInt8))) x w',Is (AB (Al.getD (0) ([]:List UInt8))),Is (vb),fun x w' =>PR (Lib.byteCells (Bl.getD (0) ([]:List UInt8))) x w',Is (AB (Bl.getD (0) ([]:List UInt8))),Is (.int .i64 (Lib.compareBytes (Al.getD (0) ([]:List UInt8)) (Bl.getD (0) ([]:List UInt8)):Int)),Is (.bool (decide ((Lib.compareBytes (Al.getD (0) ([]:List UInt8)) (Bl.getD (0) ([]:List UInt8)):Int)≤((0:Nat):Int))))] (by kernel_rfl) [38,39,40,41,42,43,44,45,46] (by kernel_rfl) (by kernel_rfl) (Ef ⟨(fun _ _ _ h k=>PR.keep h k),(Ef ⟨(fun _ _ _ h k=>PR.keep h k),(DV trivial)⟩)⟩) ?cj ?hQ2006
   case cj=>
    refine⟨?_,?_,?_,?_,?_,?_,?_,?_,?_,trivial⟩
    ·refine Aa rfl fun σ w1 hC h=> ?_
     have e1:=(Ab (h 1 (by decide))).trans p
     exact Yk.move e1 ⟨Ext.refl _,rfl⟩
    ·refine Aa rfl fun σ w1 hC h=> ?_
     have e5:=(Ab (h 5 (by decide))).trans i
     exact Yk.move e5 ⟨Ext.refl _,rfl⟩
    ·refine Aa rfl fun σ w1 hC h=> ?_
     have ck:=Ab (h 39 (by decide))
     exact Yk.atRG JD Mn (by decide) ([]:List UInt8) (RG.of (hfa.keep (f.trans hC)) ck) (vr (NI 0) rfl) (by omega) fun v h=>⟨Ext.refl _,h⟩
    ·refine Aa rfl fun σ w1 hC h=> ?_
     have cl:(fun x w' =>PR (Lib.byteCells (Al.getD (0) ([]:List UInt8))) x w') (σ 40) w1:=h 40 (by decide)
     exact Yk.loadPR cl Ow rfl (by rw[RG.elem hfa ([]:List UInt8) (by omega)];exact L9) ⟨Ext.refl _,rfl⟩
    ·refine Aa rfl fun σ w1 hC h=> ?_
     have e6:=(Ab (h 6 (by decide))).trans j
     exact Yk.move e6 ⟨Ext.refl _,rfl⟩
    ·refine Aa rfl fun σ w1 hC h=> ?_
     have cm:=Ab (h 42 (by decide))
     exact Yk.atRG JD Mn (by decide) ([]:List UInt8) (RG.of (hfb.keep (f.trans hC)) cm) (vr (NI 0) rfl) (by omega) fun v h=>⟨Ext.refl _,h⟩
    ·refine Aa rfl fun σ w1 hC h=> ?_
     have cn:(fun x w' =>PR (Lib.byteCells (Bl.getD (0) ([]:List UInt8))) x w') (σ 43) w1:=h 43 (by decide)
     exact Yk.loadPR cn Ow rfl (by rw[RG.elem hfb ([]:List UInt8) (by omega)];exact L9) ⟨Ext.refl _,rfl⟩
    ·refine Aa rfl fun σ w1 hC h=> ?_
     have co:=Ab (h 38 (by decide))
     have cp:=Ab (h 41 (by decide))
     have cq:=Ab (h 44 (by decide))
     refine Yk.clo NJ (caps:= #[]) co #[AB (Al.getD (0) ([]:List UInt8)),AB (Bl.getD (0) ([]:List UInt8))] (by simp only[List.map_toArray,List.map_cons,List.map_nil,List.append_toArray,List.cons_append,List.nil_append];exact congrArg List.toArray (Ov cp cq)) ((Fx _ (Al.getD (0) ([]:List UInt8)) (Bl.getD (0) ([]:List UInt8)) ((A5 (RG.elem hfa ([]:List UInt8) (by omega)))) ((A5 (RG.elem hfb ([]:List UInt8) (by omega))))).mono ?_)
     rintro e t ⟨rfl,hx⟩
     exact⟨_,rfl,hx,rfl⟩
    ·refine Aa rfl fun σ w1 hC h=> ?_
     have cr:=Ab (h 45 (by decide))
     exact Yk.eqI cr (vr (NI 0) rfl) (Pa _ .i64 (Lib.compareBytes (Al.getD (0) ([]:List UInt8)) (Bl.getD (0) ([]:List UInt8)):Int) ((0:Nat):Int)) ⟨Ext.refl _,rfl⟩
   intro cs c ao he hf
   obtain⟨-,-,-,-,-,-,-,-,k46,-⟩:=hf
   obtain⟨o,p,r,i,j,q,af,-⟩:=he.hold [(0,_),(1,_),(4,_),(5,_),(6,_),(7,_),(37, .bool (true))] ⟨o,p,r,i,j,q,rfl,trivial⟩ rfl
   clear he
   have hE:=hE.trans ao
   have f:=f.trans ao
   have hfo:=hfo.keep ao
   have ct:cs 46 = .bool (decide ((Lib.compareBytes (Al.getD (0) ([]:List UInt8)) (Bl.getD (0) ([]:List UInt8)):Int)≤((0:Nat):Int))):=k46
   clear k46
   refine tN (ci _ _ ?_)
   refine AO ((Lib.compareBytes (Al.getD (0) ([]:List UInt8)) (Bl.getD (0) ([]:List UInt8)):Int)≤((0:Nat):Int)) ct (fun ap=> ?_) (fun ap=> ?_)
   ·have cu:∀k,Value.ownBlock vo=some k→g.heap.size≤k:=fun k hk=>(hfo.2.lt k hk).1
    have hsz_:g.heap.size≤c.heap.size:=f.size
    refine Cz (Value.ownBlock vo) [5] [0] (fun m=>if m=5 then [0,2,4]else []) (fun m=>if m=5 then [0,2,4,5,8]else []) [fun x w' =>CK g.heap.size c.heap.size 38 32 (Lib.byteCells) (Value.ownBlock vo) (Ol) x w',Is (va),fun x w' =>PR (Lib.byteCells (Al.getD (0) ([]:List UInt8))) x w',Is (AB (Al.getD (0) ([]:List UInt8))),fun x w' =>RG 32 (Lib.byteCells) w' x ([(Al.getD (0) ([]:List UInt8))]),fun x w' =>CK g.heap.size c.heap.size 38 32 (Lib.byteCells) (Value.ownBlock vo) ((Ol)++ [(Al.getD (0) ([]:List UInt8))]) x w',Is (va),fun x _=>RG 32 (Lib.byteCells) g x (Al.drop (1)),fun x w' =>CK g.heap.size c.heap.size 38 32 (Lib.byteCells) (Value.ownBlock vo) ((Ol)++ [(Al.getD (0) ([]:List UInt8))]) x w',fun x _=>RG 32 (Lib.byteCells) g x (Al.drop (1))] (by kernel_rfl) [47,48,49,50,51,52,53,54,7,5] (by kernel_rfl) (by kernel_rfl) (by kernel_rfl) (by kernel_rfl) (by kernel_rfl) rfl ⟨(fun _ _ _ h k=>⟨OG.keep h.1 k,h.2⟩),Stab.is _,(fun _ _ _ h k=>PR.keep h k),Stab.is _,(fun _ _ _ h k=>RG.keep h k),(fun _ _ _ h k=>⟨OG.keep h.1 k,h.2⟩),Stab.is _,(fun _ _ _ h _=>h),(fun _ _ _ h k=>⟨OG.keep h.1 k,h.2⟩),(fun _ _ _ h _=>h),trivial⟩ ⟨⟨.inl rfl, .inr (Stab.is _), .inl rfl, .inr (Stab.is _), .inl rfl, .inl rfl, .inr (Stab.is _), .inr ((fun _ _ _ h _=>h)), .inl rfl, .inr ((fun _ _ _ h _=>h)),trivial⟩,trivial⟩ ?cv ?hQ3007
    case cv=>
     refine⟨?_,?_,?_,?_,?_,?_,?_,?_,?_,?_,trivial⟩
     ·refine Aa rfl fun σ w1 hC h=> ?_
      have hX:Ext c w1:=hC
      have hC:BX c.heap.size (Value.ownBlock vo) c w1:=BX.ofExt hX (Nat.le_refl _)
      have e7:=(Ab (h 7 (by decide))).trans q
      exact Yk.move e7 ⟨Ext.refl _,OG.keep hfo hX,fun k hk=> .inl hk⟩
     ·refine Aa rfl fun σ w1 hC h=> ?_
      have hC:BX c.heap.size (Value.ownBlock vo) c w1:=hC
      have e5:=(Ab (h 5 (by decide))).trans i
      exact Yk.move e5 ⟨Ext.refl _,rfl⟩
     ·refine Aa rfl fun σ w1 hC h=> ?_
      have hC:BX c.heap.size (Value.ownBlock vo) c w1:=hC
      have cw:=Ab (h 48 (by decide))
      exact Yk.atRG JD Mn (by decide) ([]:List UInt8) (RG.of (hfa.keep (CB f hC (by omega) (fun k hk=>by have:=cu k hk;omega))) cw) (vr (NI 0) rfl) (by omega) fun v h=>⟨Ext.refl _,h⟩
     ·refine Aa rfl fun σ w1 hC h=> ?_
      have hC:BX c.heap.size (Value.ownBlock vo) c w1:=hC
      have cx:(fun x w' =>PR (Lib.byteCells (Al.getD (0) ([]:List UInt8))) x w') (σ 49) w1:=h 49 (by decide)
      exact Yk.loadPR cx Ow rfl (by rw[RG.elem hfa ([]:List UInt8) (by omega)];exact L9) ⟨Ext.refl _,rfl⟩
     ·refine Aa rfl fun σ w1 hC h=> ?_
      have hC:BX c.heap.size (Value.ownBlock vo) c w1:=hC
      have cy:=Ab (h 50 (by decide))
      exact Yk.lit1G (a:=(Al.getD (0) ([]:List UInt8))) (enc:=Lib.byteCells) cy (by rw[Lib.byteCells_length];exact(A5 (RG.elem hfa ([]:List UInt8) (by omega)))) JF fun v t h hx=>⟨hx,h⟩
     ·refine Aa rfl fun σ w1 hC h=> ?_
      have hC:BX c.heap.size (Value.ownBlock vo) c w1:=hC
      have ar:(fun x w' =>CK g.heap.size c.heap.size 38 32 (Lib.byteCells) (Value.ownBlock vo) (Ol) x w') (σ 47) w1:=h 47 (by decide)
      have cz:(fun x w' =>RG 32 (Lib.byteCells) w' x ([(Al.getD (0) ([]:List UInt8))])) (σ 51) w1:=h 51 (by decide)
      exact Yk.appendRG _ _ g.heap.size _ 32 JD pk6_ig38.choose_spec.1 pk6_ig38.choose_spec.2 JD (Ol) ([(Al.getD (0) ([]:List UInt8))]) ar.1 cz (fun _ _=>AF _) (by simp only[List.length_cons,List.length_nil];omega) (by simp only[List.length_cons,List.length_nil];omega) (Nat.le_trans hsz_ hC.size) fun v t ho hg=>⟨BX.ofGrown hg.by_ hC.size ar.2,ho,fun k hk=>(hg.fresh k hk).elim (ar.2 k) (fun x=> .inr (Nat.le_trans hC.size x))⟩
     ·refine Aa rfl fun σ w1 hC h=> ?_
      have hC:BX c.heap.size (Value.ownBlock vo) c w1:=hC
      have e5:=(Ab (h 5 (by decide))).trans i
      exact Yk.move e5 ⟨Ext.refl _,rfl⟩
     ·refine Aa rfl fun σ w1 hC h=> ?_
      have hC:BX c.heap.size (Value.ownBlock vo) c w1:=hC
      have c0:=Ab (h 53 (by decide))
      exact Yk.sliceLoW JD Mn c0 hfa (vr (NI 1) rfl) (by omega) fun v h _=>⟨Ext.refl _,h⟩
     ·refine Aa rfl fun σ w1 hC h=> ?_
      have hC:BX c.heap.size (Value.ownBlock vo) c w1:=hC
      have c1:(fun x w' =>CK g.heap.size c.heap.size 38 32 (Lib.byteCells) (Value.ownBlock vo) ((Ol)++ [(Al.getD (0) ([]:List UInt8))]) x w') (σ 52) w1:=h 52 (by decide)
      exact Yk.assign rfl ⟨Ext.refl _,c1⟩
     ·refine Aa rfl fun σ w1 hC h=> ?_
      have hC:BX c.heap.size (Value.ownBlock vo) c w1:=hC
      have c2:(fun x _=>RG 32 (Lib.byteCells) g x (Al.drop (1))) (σ 54) w1:=h 54 (by decide)
      exact Yk.assign rfl ⟨Ext.refl _,c2⟩
    intro y au c3 he hf
    obtain⟨-,-,-,-,-,-,-,-,k7,k5,-⟩:=hf
    obtain⟨o,p,r,j,af,-⟩:=he.hold [(0,_),(1,_),(4,_),(6,_),(37,_)] ⟨o,p,r,j,af,trivial⟩ rfl
    clear he
    have k7:(fun x w' =>CK g.heap.size c.heap.size 38 32 (Lib.byteCells) (Value.ownBlock vo) ((Ol)++ [(Al.getD (0) ([]:List UInt8))]) x w') (y 7) au:=k7
    obtain⟨be,q⟩:∃v,y 7=v:=⟨_,rfl⟩
    rw[q]at k7
    have bf:Grew c au vo be:=⟨c3.grown,k7.2⟩
    have c4:=k7.1;clear k7
    have hE:=AC hE bf hfo.2 u
    have f:=AC f bf hfo.2 (Nat.le_refl _)
    clear hfo
    have k5:(fun x _=>RG 32 (Lib.byteCells) g x (Al.drop (1))) (y 5) au:=k5
    obtain⟨c5,i⟩:∃v,y 5=v:=⟨_,rfl⟩
    rw[i]at k5
    have bg:=k5;clear k5
    refine bN (tN (And.intro ⟨c5,vb,Al.drop (1),Bl,(Ol)++ [(Al.getD (0) ([]:List UInt8))],be,o,p,r,i,j,q,hE,f,bg,hfb,c4,hMI.left (by omega) (by omega) ap,trivial⟩ ?_))
    show Bz (y 5)+Bz (y 6)<Bz (ae 5)+Bz (ae 6)
    rw[i,j,q5,q6]
    have n5:=bg.sliceLen
    have n6:=hfb.sliceLen
    try rw[n5]
    try rw[n6]
    try rw[qa]
    try rw[qb]
    simp only[List.length_drop]
    omega
   have c6:∀k,Value.ownBlock vo=some k→g.heap.size≤k:=fun k hk=>(hfo.2.lt k hk).1
   have hsz_:g.heap.size≤c.heap.size:=f.size
   refine Cz (Value.ownBlock vo) [5] [0] (fun m=>if m=5 then [0,2,4]else []) (fun m=>if m=5 then [0,2,4,5,8]else []) [fun x w' =>CK g.heap.size c.heap.size 38 32 (Lib.byteCells) (Value.ownBlock vo) (Ol) x w',Is (vb),fun x w' =>PR (Lib.byteCells (Bl.getD (0) ([]:List UInt8))) x w',Is (AB (Bl.getD (0) ([]:List UInt8))),fun x w' =>RG 32 (Lib.byteCells) w' x ([(Bl.getD (0) ([]:List UInt8))]),fun x w' =>CK g.heap.size c.heap.size 38 32 (Lib.byteCells) (Value.ownBlock vo) ((Ol)++ [(Bl.getD (0) ([]:List UInt8))]) x w',Is (vb),fun x _=>RG 32 (Lib.byteCells) g x (Bl.drop (1)),fun x w' =>CK g.heap.size c.heap.size 38 32 (Lib.byteCells) (Value.ownBlock vo) ((Ol)++ [(Bl.getD (0) ([]:List UInt8))]) x w',fun x _=>RG 32 (Lib.byteCells) g x (Bl.drop (1))] (by kernel_rfl) [55,56,57,58,59,60,61,62,7,6] (by kernel_rfl) (by kernel_rfl) (by kernel_rfl) (by kernel_rfl) (by kernel_rfl) rfl ⟨(fun _ _ _ h k=>⟨OG.keep h.1 k,h.2⟩),Stab.is _,(fun _ _ _ h k=>PR.keep h k),Stab.is _,(fun _ _ _ h k=>RG.keep h k),(fun _ _ _ h k=>⟨OG.keep h.1 k,h.2⟩),Stab.is _,(fun _ _ _ h _=>h),(fun _ _ _ h k=>⟨OG.keep h.1 k,h.2⟩),(fun _ _ _ h _=>h),trivial⟩ ⟨⟨.inl rfl, .inr (Stab.is _), .inl rfl, .inr (Stab.is _), .inl rfl, .inl rfl, .inr (Stab.is _), .inr ((fun _ _ _ h _=>h)), .inl rfl, .inr ((fun _ _ _ h _=>h)),trivial⟩,trivial⟩ ?c7 ?hQ4008
   case c7=>
    refine⟨?_,?_,?_,?_,?_,?_,?_,?_,?_,?_,trivial⟩
    ·refine Aa rfl fun σ w1 hC h=> ?_
     have hX:Ext c w1:=hC
     have hC:BX c.heap.size (Value.ownBlock vo) c w1:=BX.ofExt hX (Nat.le_refl _)
     have e7:=(Ab (h 7 (by decide))).trans q
     exact Yk.move e7 ⟨Ext.refl _,OG.keep hfo hX,fun k hk=> .inl hk⟩
    ·refine Aa rfl fun σ w1 hC h=> ?_
     have hC:BX c.heap.size (Value.ownBlock vo) c w1:=hC
     have e6:=(Ab (h 6 (by decide))).trans j
     exact Yk.move e6 ⟨Ext.refl _,rfl⟩
    ·refine Aa rfl fun σ w1 hC h=> ?_
     have hC:BX c.heap.size (Value.ownBlock vo) c w1:=hC
     have c8:=Ab (h 56 (by decide))
     exact Yk.atRG JD Mn (by decide) ([]:List UInt8) (RG.of (hfb.keep (CB f hC (by omega) (fun k hk=>by have:=c6 k hk;omega))) c8) (vr (NI 0) rfl) (by omega) fun v h=>⟨Ext.refl _,h⟩
    ·refine Aa rfl fun σ w1 hC h=> ?_
     have hC:BX c.heap.size (Value.ownBlock vo) c w1:=hC
     have c9:(fun x w' =>PR (Lib.byteCells (Bl.getD (0) ([]:List UInt8))) x w') (σ 57) w1:=h 57 (by decide)
     exact Yk.loadPR c9 Ow rfl (by rw[RG.elem hfb ([]:List UInt8) (by omega)];exact L9) ⟨Ext.refl _,rfl⟩
    ·refine Aa rfl fun σ w1 hC h=> ?_
     have hC:BX c.heap.size (Value.ownBlock vo) c w1:=hC
     have da:=Ab (h 58 (by decide))
     exact Yk.lit1G (a:=(Bl.getD (0) ([]:List UInt8))) (enc:=Lib.byteCells) da (by rw[Lib.byteCells_length];exact(A5 (RG.elem hfb ([]:List UInt8) (by omega)))) JF fun v t h hx=>⟨hx,h⟩
    ·refine Aa rfl fun σ w1 hC h=> ?_
     have hC:BX c.heap.size (Value.ownBlock vo) c w1:=hC
     have ax:(fun x w' =>CK g.heap.size c.heap.size 38 32 (Lib.byteCells) (Value.ownBlock vo) (Ol) x w') (σ 55) w1:=h 55 (by decide)
     have db:(fun x w' =>RG 32 (Lib.byteCells) w' x ([(Bl.getD (0) ([]:List UInt8))])) (σ 59) w1:=h 59 (by decide)
     exact Yk.appendRG _ _ g.heap.size _ 32 JD pk6_ig38.choose_spec.1 pk6_ig38.choose_spec.2 JD (Ol) ([(Bl.getD (0) ([]:List UInt8))]) ax.1 db (fun _ _=>AF _) (by simp only[List.length_cons,List.length_nil];omega) (by simp only[List.length_cons,List.length_nil];omega) (Nat.le_trans hsz_ hC.size) fun v t ho hg=>⟨BX.ofGrown hg.by_ hC.size ax.2,ho,fun k hk=>(hg.fresh k hk).elim (ax.2 k) (fun x=> .inr (Nat.le_trans hC.size x))⟩
    ·refine Aa rfl fun σ w1 hC h=> ?_
     have hC:BX c.heap.size (Value.ownBlock vo) c w1:=hC
     have e6:=(Ab (h 6 (by decide))).trans j
     exact Yk.move e6 ⟨Ext.refl _,rfl⟩
    ·refine Aa rfl fun σ w1 hC h=> ?_
     have hC:BX c.heap.size (Value.ownBlock vo) c w1:=hC
     have dc:=Ab (h 61 (by decide))
     exact Yk.sliceLoW JD Mn dc hfb (vr (NI 1) rfl) (by omega) fun v h _=>⟨Ext.refl _,h⟩
    ·refine Aa rfl fun σ w1 hC h=> ?_
     have hC:BX c.heap.size (Value.ownBlock vo) c w1:=hC
     have dd:(fun x w' =>CK g.heap.size c.heap.size 38 32 (Lib.byteCells) (Value.ownBlock vo) ((Ol)++ [(Bl.getD (0) ([]:List UInt8))]) x w') (σ 60) w1:=h 60 (by decide)
     exact Yk.assign rfl ⟨Ext.refl _,dd⟩
    ·refine Aa rfl fun σ w1 hC h=> ?_
     have hC:BX c.heap.size (Value.ownBlock vo) c w1:=hC
     have de:(fun x _=>RG 32 (Lib.byteCells) g x (Bl.drop (1))) (σ 62) w1:=h 62 (by decide)
     exact Yk.assign rfl ⟨Ext.refl _,de⟩
   intro z ay df he hf
   obtain⟨-,-,-,-,-,-,-,-,k7,k6,-⟩:=hf
   obtain⟨o,p,r,i,af,-⟩:=he.hold [(0,_),(1,_),(4,_),(5,_),(37,_)] ⟨o,p,r,i,af,trivial⟩ rfl
   clear he
   have k7:(fun x w' =>CK g.heap.size c.heap.size 38 32 (Lib.byteCells) (Value.ownBlock vo) ((Ol)++ [(Bl.getD (0) ([]:List UInt8))]) x w') (z 7) ay:=k7
   obtain⟨bh,q⟩:∃v,z 7=v:=⟨_,rfl⟩
   rw[q]at k7
   have bi:Grew c ay vo bh:=⟨df.grown,k7.2⟩
   have dg:=k7.1;clear k7
   have hE:=AC hE bi hfo.2 u
   have f:=AC f bi hfo.2 (Nat.le_refl _)
   clear hfo
   have k6:(fun x _=>RG 32 (Lib.byteCells) g x (Bl.drop (1))) (z 6) ay:=k6
   obtain⟨dh,j⟩:∃v,z 6=v:=⟨_,rfl⟩
   rw[j]at k6
   have bj:=k6;clear k6
   refine bN (tN (And.intro ⟨va,dh,Al,Bl.drop (1),(Ol)++ [(Bl.getD (0) ([]:List UInt8))],bh,o,p,r,i,j,q,hE,f,hfa,bj,dg,hMI.right (by omega) (by omega) ap,trivial⟩ ?_))
   show Bz (z 5)+Bz (z 6)<Bz (ae 5)+Bz (ae 6)
   rw[i,j,q5,q6]
   have n5:=hfa.sliceLen
   have n6:=bj.sliceLen
   try rw[n5]
   try rw[n6]
   try rw[qa]
   try rw[qb]
   simp only[List.length_drop]
   omega
  refine sk fun d4 d5=>(sk fun d6 di=>(wt (oM rfl (oS rfl (Yk.lenRG JD (RG.of (hfa.keep f) i) (oS rfl (Yk.eqI (a:=(Al.length:Nat)) (b:=(0:Nat)) rfl rfl (Bm _ _ _ _) (oM rfl (oY (d:=33) rfl rfl (vr (.bool (true)) (congrArg Value.bool (decide_eq_true (hga)))) (Yk.move j (oY (d:=33) rfl rfl (vr (.bool (true)) (congrArg Value.bool (decide_eq_true (hga)))) (Yk.lenRG JD (RG.of (hfb.keep f) (vr vb rfl)) (oY (d:=33) rfl rfl (vr (.bool (true)) (congrArg Value.bool (decide_eq_true (hga)))) (Yk.eqI (a:=(Bl.length:Nat)) (b:=(0:Nat)) rfl rfl (Bm _ _ _ _) (oS rfl (Yk.pickT (vr (.bool (true)) (congrArg Value.bool (decide_eq_true (hga)))) (vr (.bool (false)) (congrArg Value.bool (decide_eq_false (hgb)))) (oZ (tN (di _ _ (Ar (vr (.bool (false)) rfl) (AJ (Ag (Ag (Ap (tN (bc _ _ ?_))))))))))))))))))))))))))
  refine sk fun d7 dj=>(wt (oM rfl (oM rfl (oS rfl (Yk.appendRG _ _ g.heap.size _ 32 JD pk6_ig38.choose_spec.1 pk6_ig38.choose_spec.2 JD (Ol) (Al) (OG.of hfo q) (RG.of (hfa.keep f) i) (fun _ _=>AF _) (by omega) (by omega) f.size fun az bk ag ah=> ?_)))))
  have ah:Grew bd bk vo az:= .eqv q ah
  have hE:=AC hE ah hfo.2 u
  have f:=AC f ah hfo.2 (Nat.le_refl _)
  clear hfo
  refine oM rfl (oS rfl (Yk.appendRG _ _ g.heap.size _ 32 JD pk6_ig38.choose_spec.1 pk6_ig38.choose_spec.2 JD ((Ol)++Al) (Bl) (OG.of ag (vr az rfl)) (RG.of (hfb.keep f) j) (fun _ _=>AF _) (by simp only[List.length_append];omega) (by simp only[List.length_append];omega) f.size fun a0 dk dl ai=> ?_))
  have ai:Grew bk dk az a0:=ai
  have hE:=AC hE ai ag.2 u
  have f:=AC f ai ag.2 (Nat.le_refl _)
  clear ag
  refine oA rfl (oZ (tN (dj _ _ (As (Ao (fn:=Tryd.f56) _ rfl [a0] (a0) rfl ⟨rfl,trivial⟩ ?_)))))
  obtain⟨hpm,hasc⟩:=hMI.done (by omega)
  exact⟨_,_,rfl,OG.base dl (by omega),hpm,hasc,hE⟩
 refine sk fun d8 d9=>(sk fun ea dm=>(wt (oM rfl (oS rfl (Yk.lenRG JD (RG.of (hfa.keep f) i) (oS rfl (Yk.eqI (a:=(Al.length:Nat)) (b:=(0:Nat)) rfl rfl (Bm _ _ _ _) (oM rfl (oN (d:=33) rfl rfl rfl (vr (.bool (false)) (congrArg Value.bool (decide_eq_false (hga)))) rfl (oN (d:=33) rfl rfl rfl (vr (.bool (false)) (congrArg Value.bool (decide_eq_false (hga)))) rfl (oN (d:=33) rfl rfl rfl (vr (.bool (false)) (congrArg Value.bool (decide_eq_false (hga)))) rfl (oS rfl (Yk.pickF (vr (.bool (false)) (congrArg Value.bool (decide_eq_false (hga)))) (vr (.bool (false)) rfl) (oZ (tN (dm _ _ (Ar (vr (.bool (false)) rfl) (AJ (Ag (Ag (Ap (tN (bc _ _ ?_)))))))))))))))))))))))
 refine sk fun ec dn=>(wt (oM rfl (oM rfl (oS rfl (Yk.appendRG _ _ g.heap.size _ 32 JD pk6_ig38.choose_spec.1 pk6_ig38.choose_spec.2 JD (Ol) (Al) (OG.of hfo q) (RG.of (hfa.keep f) i) (fun _ _=>AF _) (by omega) (by omega) f.size fun a1 bm aj ak=> ?_)))))
 have ak:Grew bd bm vo a1:= .eqv q ak
 have hE:=AC hE ak hfo.2 u
 have f:=AC f ak hfo.2 (Nat.le_refl _)
 clear hfo
 refine oM rfl (oS rfl (Yk.appendRG _ _ g.heap.size _ 32 JD pk6_ig38.choose_spec.1 pk6_ig38.choose_spec.2 JD ((Ol)++Al) (Bl) (OG.of aj (vr a1 rfl)) (RG.of (hfb.keep f) j) (fun _ _=>AF _) (by simp only[List.length_append];omega) (by simp only[List.length_append];omega) f.size fun a2 dp dq al=> ?_))
 have al:Grew bm dp a1 a2:=al
 have hE:=AC hE al aj.2 u
 have f:=AC f al aj.2 (Nat.le_refl _)
 clear aj
 refine oA rfl (oZ (tN (dn _ _ (As (Ao (fn:=Tryd.f56) _ rfl [a2] (a2) rfl ⟨rfl,trivial⟩ ?_)))))
 obtain⟨hpm,hasc⟩:=hMI.done (by omega)
 exact⟨_,_,rfl,OG.base dq (by omega),hpm,hasc,hE⟩

theorem Mp:∀(n:Nat) (l:List Bs),l.length=n→l.length≤1048576→∀(w:World) (v:Value),RG 32 Lib.byteCells w v l→Calls Tryd.prog 56 #[v, .func (.func 57) #[] #[]] w fun e w' =>∃v' m,e = .returned v' ∧OG w.heap.size 38 32 Lib.byteCells w' v' m∧m.Perm l∧CI m∧Ext w w' :=by
 intro n
 induction n using Nat.strongRecOn with
 | _ n ih=>exact fun l hn hlim w v hr=>Lz n (fun l' hl w v hr=>ih l'.length hl l' rfl (by omega) w v hr) l hn hlim w v hr

theorem NL(w:World)(v:Value)(l:List Bs)(hlim:l.length≤1048576)(hr:RG 32 Lib.byteCells w v l):
  Calls Tryd.prog 28 #[v] w fun e w' =>∃v',e = .returned v' ∧OG w.heap.size 38 32 Lib.byteCells w' v' (Az l)∧Ext w w' :=by
 refine AA (args:= [v]) Tryd.func28 rfl 5 rfl (Nat.le_of_ble_eq_true rfl) ?_
 intro c hb
 have f:c 0=(v:Value):=hb.get 0
 clear hb
 have hE:=Ext.refl w
 refine sk fun k g=>(wt (oA rfl (oZ (tN (g _ _ (sk fun m h=>(wt (oM rfl (oS rfl (Yk.callA2 Hp f rfl ((Mp _ l rfl hlim _ v hr).mono ?_)))))))))))
 rintro e n ⟨a,m4,rfl,i,j,ha7,b⟩
 refine⟨_,rfl,?_⟩
 have hms:=IB ha7 j
 subst hms
 have hr:=hr.keep b
 have hE:=hE.trans b
 refine oA rfl (oZ (tN (h _ _ (As (Ao (fn:=Tryd.f28) _ rfl [a] (a) rfl ⟨rfl,trivial⟩ ?_)))))
 exact⟨_,rfl,i,hE⟩
open Go.RowKit
set_option maxHeartbeats 400000 in
theorem Dc(w:World)(B:Nat)(v:Value)(l:List UInt8)(hown:w.ownsRow B 5 1 v l.length (Lib.byteCells l))(hB:B≤w.heap.size)(n:Nat)(hn:n≤9223372036854775807)(hl:l.length+16≤140737488355328):
    Calls Tryd.prog 52 #[v, .int .i64 n] w fun e w' =>∃v',e = .returned v' ∧w'.ownsRow B 5 1 v' (l++Lib.uvarint n).length (Lib.byteCells (l++Lib.uvarint n))∧Grew w w' v v' :=by
  obtain⟨i0,hi,a,b,c⟩:=info_parts FW
  have h9:=A1 n (by omega)
  go_enter Tryd.func52,Tryd.ntmps52
  go_wp2_with fail
  refine(KZ w (.slice none 0 0) [] (RB.nil w) (by simp) n hn).mono ?_
  rintro e w1 ⟨f,rfl,h1⟩
  have g:w1.ownsRow B 5 1 v l.length (Lib.byteCells l):=Stab.own _ _ _ _ _ _ _ _ hown h1.ext
  have hs:=h1.rb.src DT
  have hE:=h1.ext
  rw[List.nil_append]at hs
  have hz:=h1.ext.size
  go_wp2_with (at_builtin;refine BM _ rfl _ _ 24 24 rfl B 5 i0 (.int .u8 0) 1 1 DT hi a b c rfl _ _ _ rfl g f _ _ rfl hs ?c1 ?c2 ?c3 ?_)
  case c1=>unfold maxLen;omega
  case c2=>omega
  case c3=>omega
  intro v' h hown' hgrow
  go_wp2
  go_ret
  exact⟨v',rfl,by rw[List.length_append,Lib.byteCells_append];exact hown',Grew.after hE hgrow⟩
def B3:List UInt8→List UInt8→Nat
  | a :: u,b :: z=>if a=b then B3 u z+1 else 0
  | _,_=>0
theorem JG{a b:List UInt8}{i:Nat}(h1:i<a.length)(h2:i<b.length)(h:a.getD i 0=b.getD i 0):B3 (a.drop i) (b.drop i)=B3 (a.drop (i+1)) (b.drop (i+1))+1:=by
  rw[List.drop_eq_getElem_cons h1,List.drop_eq_getElem_cons h2]
  rw[B3,if_pos (by simpa [List.getD,h1,h2] using h)]
theorem Mq{a b:List UInt8}{i:Nat}(h1:i<a.length)(h2:i<b.length)(h:a.getD i 0≠b.getD i 0):B3 (a.drop i) (b.drop i)=0:=by
  rw[List.drop_eq_getElem_cons h1,List.drop_eq_getElem_cons h2]
  unfold B3
  rw[if_neg (by simpa [List.getD,h1,h2] using h)]
theorem JH{a b:List UInt8}{i:Nat}(h:a.length≤i):B3 (a.drop i) (b.drop i)=0:=by
  rw[List.drop_of_length_le h]
  unfold B3
  rfl
theorem JI{a b:List UInt8}{i:Nat}(h:b.length≤i):B3 (a.drop i) (b.drop i)=0:=by
  rw[List.drop_of_length_le h]
  cases a.drop i <;> rfl
theorem HJ:∀a b:List UInt8,B3 a b≤a.length∧B3 a b≤b.length
  | [],b=>by simp[B3]
  | a :: u,[]=>by simp[B3]
  | a :: u,b :: z=>by
    unfold B3
    have:=HJ u z
    split <;> simp <;> omega
theorem Jk(w:World)(v:Value)(l:List UInt8)(hr:RB w v l)(a:Nat)(ha:a≤l.length)(h:Bk 0 (l.drop a)=none):
    Calls Tryd.prog 63 #[v, .int .i64 a] w fun e w' =>e = .returned (.tuple #[.int .i64 0, .int .i64 0, .int .i64 6])∧Ext w w' :=
  (DZ w v l hr a ha).mono fun e w' ⟨h1,h2⟩=>by
    rw[h]at h1
    exact⟨h1,h2▸Ext.refl w⟩
theorem Gx(w:World)(v:Value)(l:List UInt8)(hr:RB w v l)(a:Nat)(ha:a≤l.length)(x k:Nat)(h:Bk 0 (l.drop a)=some (x,k)):
    Calls Tryd.prog 63 #[v, .int .i64 a] w fun e w' =>e = .returned (.tuple #[.int .i64 (x:Nat), .int .i64 ((a+k:Nat):Int), .int .i64 0])∧Ext w w' :=
  (DZ w v l hr a ha).mono fun e w' ⟨h1,h2⟩=>by
    rw[h]at h1
    exact⟨h1,h2▸Ext.refl w⟩
theorem CC{l:List UInt8}{a x k:Nat}(ha:a≤l.length)(h:Bk 0 (l.drop a)=some (x,k)):x<9223372036854775808∧a+k≤l.length∧1≤k:=by
  have h1:=FX _ _ _ h
  have h2:=Gs _ _ _ h
  have h3:k≤9:=by have:=h1.2.2;simp at this;omega
  have h4:128^k≤128^9:=Nat.pow_le_pow_right (by decide) h3
  have h5:=h1.2.1
  rw[List.length_drop]at h5
  exact⟨Nat.lt_of_lt_of_le h2 h4,by omega,h1.1⟩
open Go.RowKit
set_option maxRecDepth 100000
theorem LA(w:World)(va vb:Value)(a b:List UInt8)(hra:RB w va a)(hrb:RB w vb b)(hal:a.length≤4611686018427387904):
  Calls Tryd.prog 55 #[va,vb] w fun e w' =>e = .returned (NI (B3 a b))∧Ext w w' :=by
 refine AA (args:= [va,vb]) Tryd.func55 rfl 30 rfl (Nat.le_of_ble_eq_true rfl) ?_
 intro am hb
 have f:am 0=(va:Value):=hb.get 0
 have j:am 1=(vb:Value):=hb.get 1
 clear hb
 have hE:=Ext.refl w
 refine sk fun K1 an=>(wt (oA rfl (oZ (tN (an _ _ (sk fun K2 ao=>(wt (oA rfl (AH [(0,va),(1,vb),(4,NI 0),(5,NI 0)] ⟨f,j,rfl,rfl,trivial⟩ fun bf ⟨f,j,k,c,_⟩=>(tN (ao _ _ (sk fun K4 ac=>(Aj (AX (fun(ρ:Aq) (wz:World)=>∃i:Nat,ρ 0=(va:Value)∧ρ 1=(vb:Value)∧ρ 4=(NI 0:Value)∧ρ 5=(NI i:Value)∧Ext w wz∧(i≤a.length)∧(i≤b.length)∧(B3 a b=i+B3 (a.drop i) (b.drop i))∧True) (fun ρ _=>a.length-(intOf (ρ 5)).toNat) ⟨0,f,j,k,c,hE,Nat.zero_le _,Nat.zero_le _,by simp,trivial⟩ ?_))))))))))))))
 clear hE
 rintro ap w6 ⟨i,f,j,k,c,hE,hia,hib,hlc,-⟩
 have q5:=c
 by_cases h1:i<a.length
 ·by_cases h2:i<b.length
  ·by_cases h3:a.getD i 0=b.getD i 0
   ·refine sk fun K7 aq=>(sk fun K8 ar=> ?_)
    refine Be [Is (NI i),Is (va),Is (NI a.length),Is (.bool (true)),Is (.bool (true)),Is (NI i),Is (vb),Is (NI b.length),Is (.bool (true)),Is (.bool (true)),Is (.bool (true)),Is (va),Is (NI i),PCell (B8 (a.getD (i) 0)),Is (B8 (a.getD (i) 0)),Is (vb),Is (NI i),PCell (B8 (b.getD (i) 0)),Is (B8 (b.getD (i) 0)),Is (.bool (true)),Is (.bool (true))] (by kernel_rfl) [6,7,8,9,10,11,12,13,14,15,16,17,18,19,20,21,22,23,24,25,26] (by kernel_rfl) (by kernel_rfl) ⟨Stab.is _,(Ct ⟨Stab.pcell _,(DV ⟨Stab.pcell _,(DV trivial)⟩)⟩)⟩ ?au ?hQ1002
    case au=>
     refine⟨?_,?_,?_,?_,?_,?_,?_,?_,?_,?_,?_,?_,?_,?_,?_,?_,?_,?_,?_,?_,?_,trivial⟩
     ·refine Aa rfl fun σ w1 hC h=> ?_
      have g:=(Ab (h 5 (by decide))).trans c
      exact Yk.move g ⟨Ext.refl _,rfl⟩
     ·refine Aa rfl fun σ w1 hC h=> ?_
      have m:=(Ab (h 0 (by decide))).trans f
      exact Yk.move m ⟨Ext.refl _,rfl⟩
     ·refine Aa rfl fun σ w1 hC h=> ?_
      have p:=Ab (h 7 (by decide))
      exact Yk.lenRB DT (RB.of (hra.keep (hE.trans hC)) p) ⟨Ext.refl _,rfl⟩
     ·refine Aa rfl fun σ w1 hC h=> ?_
      have q:=Ab (h 6 (by decide))
      have e8:=Ab (h 8 (by decide))
      exact Yk.eqI (a:=(i:Nat)) (b:=(a.length:Nat)) q e8 (AN _ _ _ _) ⟨Ext.refl _,(congrArg Value.bool (decide_eq_true (h1)))⟩
     ·refine Aa rfl fun σ w1 hC h=> ?_
      have r:=Ab (h 9 (by decide))
      exact Yk.move r ⟨Ext.refl _,rfl⟩
     ·refine Ay 4 true 10 rfl rfl (fun _ _ h=>h) fun σ w1 hC h=> ?_
      have g:=(Ab (h 5 (by decide))).trans c
      exact Yk.move g ⟨Ext.refl _,rfl⟩
     ·refine Ay 4 true 10 rfl rfl (fun _ _ h=>h) fun σ w1 hC h=> ?_
      have n:=(Ab (h 1 (by decide))).trans j
      exact Yk.move n ⟨Ext.refl _,rfl⟩
     ·refine Ay 4 true 10 rfl rfl (fun _ _ h=>h) fun σ w1 hC h=> ?_
      have v:=Ab (h 12 (by decide))
      exact Yk.lenRB DT (RB.of (hrb.keep (hE.trans hC)) v) ⟨Ext.refl _,rfl⟩
     ·refine Ay 4 true 10 rfl rfl (fun _ _ h=>h) fun σ w1 hC h=> ?_
      have y:=Ab (h 11 (by decide))
      have z:=Ab (h 13 (by decide))
      exact Yk.eqI (a:=(i:Nat)) (b:=(b.length:Nat)) y z (AN _ _ _ _) ⟨Ext.refl _,(congrArg Value.bool (decide_eq_true (h2)))⟩
     ·refine Aa rfl fun σ w1 hC h=> ?_
      have s:=Ab (h 10 (by decide))
      have aa:=Ab (h 14 (by decide))
      exact Yk.pickT s aa ⟨Ext.refl _,rfl⟩
     ·refine Aa rfl fun σ w1 hC h=> ?_
      have t:=Ab (h 15 (by decide))
      exact Yk.move t ⟨Ext.refl _,rfl⟩
     ·refine Ay 10 true 16 rfl rfl (fun _ _ h=>h) fun σ w1 hC h=> ?_
      have m:=(Ab (h 0 (by decide))).trans f
      exact Yk.move m ⟨Ext.refl _,rfl⟩
     ·refine Ay 10 true 16 rfl rfl (fun _ _ h=>h) fun σ w1 hC h=> ?_
      have g:=(Ab (h 5 (by decide))).trans c
      exact Yk.move g ⟨Ext.refl _,rfl⟩
     ·refine Ay 10 true 16 rfl rfl (fun _ _ h=>h) fun σ w1 hC h=> ?_
      have ad:=Ab (h 17 (by decide))
      have ae:=Ab (h 18 (by decide))
      exact Yk.atRB (l:=a) (i:=i) DT Ls (RB.of (hra.keep (hE.trans hC)) ad) ae (h1) fun _ h=>⟨Ext.refl _,h⟩
     ·refine Ay 10 true 16 rfl rfl (fun _ _ h=>h) fun σ w1 hC h=> ?_
      have af:(PCell (B8 (a.getD (i) 0))) (σ 19) w1:=h 19 (by decide)
      exact Yk.loadC u5 rfl af ⟨Ext.refl _,rfl⟩
     ·refine Ay 10 true 16 rfl rfl (fun _ _ h=>h) fun σ w1 hC h=> ?_
      have n:=(Ab (h 1 (by decide))).trans j
      exact Yk.move n ⟨Ext.refl _,rfl⟩
     ·refine Ay 10 true 16 rfl rfl (fun _ _ h=>h) fun σ w1 hC h=> ?_
      have g:=(Ab (h 5 (by decide))).trans c
      exact Yk.move g ⟨Ext.refl _,rfl⟩
     ·refine Ay 10 true 16 rfl rfl (fun _ _ h=>h) fun σ w1 hC h=> ?_
      have ag:=Ab (h 21 (by decide))
      have ah:=Ab (h 22 (by decide))
      exact Yk.atRB (l:=b) (i:=i) DT Ls (RB.of (hrb.keep (hE.trans hC)) ag) ah (h2) fun _ h=>⟨Ext.refl _,h⟩
     ·refine Ay 10 true 16 rfl rfl (fun _ _ h=>h) fun σ w1 hC h=> ?_
      have ai:(PCell (B8 (b.getD (i) 0))) (σ 23) w1:=h 23 (by decide)
      exact Yk.loadC u5 rfl ai ⟨Ext.refl _,rfl⟩
     ·refine Ay 10 true 16 rfl rfl (fun _ _ h=>h) fun σ w1 hC h=> ?_
      have aj:=Ab (h 20 (by decide))
      have ak:=Ab (h 24 (by decide))
      exact Yk.eqI (a:=((a.getD (i) 0).toNat:Nat)) (b:=((b.getD (i) 0).toNat:Nat)) aj ak (Br _ _ _ _) ⟨Ext.refl _,(congrArg Value.bool (decide_eq_true (congrArg UInt8.toNat h3)))⟩
     ·refine Aa rfl fun σ w1 hC h=> ?_
      have u:=Ab (h 16 (by decide))
      have al:=Ab (h 25 (by decide))
      exact Yk.pickT u al ⟨Ext.refl _,rfl⟩
    intro av bk aw he hf
    obtain⟨-,-,-,-,-,-,-,-,-,-,-,-,-,-,-,-,-,-,-,-,k26,-⟩:=hf
    obtain⟨f,j,k,c,-⟩:=he.hold [(0,_),(1,_),(4,_),(5,_)] ⟨f,j,k,c,trivial⟩ rfl
    clear he
    have hE:=hE.trans aw
    have o:av 26 = .bool (true):=k26
    clear k26
    refine tN (ar _ _ (AE o (Ah (tN (aq _ _ (Aj (wt (oM rfl (oS rfl (Yk.bin (xv:=NI i) (yv:=NI 1) c rfl rfl (Ak _ _ _ (by omega)) (oA rfl (AH [(0,va),(1,vb),(4,NI 0),(5,NI ((i)+(1))),(26, .bool (true))] ⟨f,j,k,rfl,o,trivial⟩ fun ax ⟨f,j,k,c,o,_⟩=>(bN (tN (And.intro ⟨i+1,f,j,k,c,hE,by omega,by omega,by rw[hlc,JG h1 h2 h3];omega,trivial⟩ ?_)))))))))))))))
    show a.length-(intOf (ax 5)).toNat<a.length-(intOf (ap 5)).toNat
    rw[c,q5]
    simp only[intOf,Int.toNat_natCast];omega
   have ab:=Mq h1 h2 h3
   refine sk fun bm bn=>(sk fun bo ay=> ?_)
   refine Be [Is (NI i),Is (va),Is (NI a.length),Is (.bool (true)),Is (.bool (true)),Is (NI i),Is (vb),Is (NI b.length),Is (.bool (true)),Is (.bool (true)),Is (.bool (true)),Is (va),Is (NI i),PCell (B8 (a.getD (i) 0)),Is (B8 (a.getD (i) 0)),Is (vb),Is (NI i),PCell (B8 (b.getD (i) 0)),Is (B8 (b.getD (i) 0)),Is (.bool (false)),Is (.bool (false))] (by kernel_rfl) [6,7,8,9,10,11,12,13,14,15,16,17,18,19,20,21,22,23,24,25,26] (by kernel_rfl) (by kernel_rfl) ⟨Stab.is _,(Ct ⟨Stab.pcell _,(DV ⟨Stab.pcell _,(DV trivial)⟩)⟩)⟩ ?az ?hQ2002
   case az=>
    refine⟨?_,?_,?_,?_,?_,?_,?_,?_,?_,?_,?_,?_,?_,?_,?_,?_,?_,?_,?_,?_,?_,trivial⟩
    ·refine Aa rfl fun σ w1 hC h=> ?_
     have g:=(Ab (h 5 (by decide))).trans c
     exact Yk.move g ⟨Ext.refl _,rfl⟩
    ·refine Aa rfl fun σ w1 hC h=> ?_
     have m:=(Ab (h 0 (by decide))).trans f
     exact Yk.move m ⟨Ext.refl _,rfl⟩
    ·refine Aa rfl fun σ w1 hC h=> ?_
     have p:=Ab (h 7 (by decide))
     exact Yk.lenRB DT (RB.of (hra.keep (hE.trans hC)) p) ⟨Ext.refl _,rfl⟩
    ·refine Aa rfl fun σ w1 hC h=> ?_
     have q:=Ab (h 6 (by decide))
     have e8:=Ab (h 8 (by decide))
     exact Yk.eqI (a:=(i:Nat)) (b:=(a.length:Nat)) q e8 (AN _ _ _ _) ⟨Ext.refl _,(congrArg Value.bool (decide_eq_true (h1)))⟩
    ·refine Aa rfl fun σ w1 hC h=> ?_
     have r:=Ab (h 9 (by decide))
     exact Yk.move r ⟨Ext.refl _,rfl⟩
    ·refine Ay 4 true 10 rfl rfl (fun _ _ h=>h) fun σ w1 hC h=> ?_
     have g:=(Ab (h 5 (by decide))).trans c
     exact Yk.move g ⟨Ext.refl _,rfl⟩
    ·refine Ay 4 true 10 rfl rfl (fun _ _ h=>h) fun σ w1 hC h=> ?_
     have n:=(Ab (h 1 (by decide))).trans j
     exact Yk.move n ⟨Ext.refl _,rfl⟩
    ·refine Ay 4 true 10 rfl rfl (fun _ _ h=>h) fun σ w1 hC h=> ?_
     have v:=Ab (h 12 (by decide))
     exact Yk.lenRB DT (RB.of (hrb.keep (hE.trans hC)) v) ⟨Ext.refl _,rfl⟩
    ·refine Ay 4 true 10 rfl rfl (fun _ _ h=>h) fun σ w1 hC h=> ?_
     have y:=Ab (h 11 (by decide))
     have z:=Ab (h 13 (by decide))
     exact Yk.eqI (a:=(i:Nat)) (b:=(b.length:Nat)) y z (AN _ _ _ _) ⟨Ext.refl _,(congrArg Value.bool (decide_eq_true (h2)))⟩
    ·refine Aa rfl fun σ w1 hC h=> ?_
     have s:=Ab (h 10 (by decide))
     have aa:=Ab (h 14 (by decide))
     exact Yk.pickT s aa ⟨Ext.refl _,rfl⟩
    ·refine Aa rfl fun σ w1 hC h=> ?_
     have t:=Ab (h 15 (by decide))
     exact Yk.move t ⟨Ext.refl _,rfl⟩
    ·refine Ay 10 true 16 rfl rfl (fun _ _ h=>h) fun σ w1 hC h=> ?_
     have m:=(Ab (h 0 (by decide))).trans f
     exact Yk.move m ⟨Ext.refl _,rfl⟩
    ·refine Ay 10 true 16 rfl rfl (fun _ _ h=>h) fun σ w1 hC h=> ?_
     have g:=(Ab (h 5 (by decide))).trans c
     exact Yk.move g ⟨Ext.refl _,rfl⟩
    ·refine Ay 10 true 16 rfl rfl (fun _ _ h=>h) fun σ w1 hC h=> ?_
     have ad:=Ab (h 17 (by decide))
     have ae:=Ab (h 18 (by decide))
     exact Yk.atRB (l:=a) (i:=i) DT Ls (RB.of (hra.keep (hE.trans hC)) ad) ae (h1) fun _ h=>⟨Ext.refl _,h⟩
    ·refine Ay 10 true 16 rfl rfl (fun _ _ h=>h) fun σ w1 hC h=> ?_
     have af:(PCell (B8 (a.getD (i) 0))) (σ 19) w1:=h 19 (by decide)
     exact Yk.loadC u5 rfl af ⟨Ext.refl _,rfl⟩
    ·refine Ay 10 true 16 rfl rfl (fun _ _ h=>h) fun σ w1 hC h=> ?_
     have n:=(Ab (h 1 (by decide))).trans j
     exact Yk.move n ⟨Ext.refl _,rfl⟩
    ·refine Ay 10 true 16 rfl rfl (fun _ _ h=>h) fun σ w1 hC h=> ?_
     have g:=(Ab (h 5 (by decide))).trans c
     exact Yk.move g ⟨Ext.refl _,rfl⟩
    ·refine Ay 10 true 16 rfl rfl (fun _ _ h=>h) fun σ w1 hC h=> ?_
     have ag:=Ab (h 21 (by decide))
     have ah:=Ab (h 22 (by decide))
     exact Yk.atRB (l:=b) (i:=i) DT Ls (RB.of (hrb.keep (hE.trans hC)) ag) ah (h2) fun _ h=>⟨Ext.refl _,h⟩
    ·refine Ay 10 true 16 rfl rfl (fun _ _ h=>h) fun σ w1 hC h=> ?_
     have ai:(PCell (B8 (b.getD (i) 0))) (σ 23) w1:=h 23 (by decide)
     exact Yk.loadC u5 rfl ai ⟨Ext.refl _,rfl⟩
    ·refine Ay 10 true 16 rfl rfl (fun _ _ h=>h) fun σ w1 hC h=> ?_
     have aj:=Ab (h 20 (by decide))
     have ak:=Ab (h 24 (by decide))
     exact Yk.eqI (a:=((a.getD (i) 0).toNat:Nat)) (b:=((b.getD (i) 0).toNat:Nat)) aj ak (Br _ _ _ _) ⟨Ext.refl _,(congrArg Value.bool (decide_eq_false (fun h=>h3 (UInt8.toNat_inj.1 h))))⟩
    ·refine Aa rfl fun σ w1 hC h=> ?_
     have u:=Ab (h 16 (by decide))
     have al:=Ab (h 25 (by decide))
     exact Yk.pickT u al ⟨Ext.refl _,rfl⟩
   intro a0 bp a1 he hf
   obtain⟨-,-,-,-,-,-,-,-,-,-,-,-,-,-,-,-,-,-,-,-,k26,-⟩:=hf
   obtain⟨f,j,k,c,-⟩:=he.hold [(0,_),(1,_),(4,_),(5,_)] ⟨f,j,k,c,trivial⟩ rfl
   clear he
   have hE:=hE.trans a1
   have o:a0 26 = .bool (false):=k26
   clear k26
   refine tN (ay _ _ (Ar o (AJ (Ag (Ag (Ap (tN (ac _ _ (sk fun bq a2=>(wt (oM rfl (oA rfl (oZ (tN (a2 _ _ (As (Ao (fn:=Tryd.f55) _ rfl [NI i] (NI i) rfl ⟨c,trivial⟩ ?_)))))))))))))))))
   rw[hlc,ab]
   exact⟨rfl,hE⟩
  have ab:=JI (a:=a) (i:=i) (b:=b) (by omega)
  refine sk fun br bs=>(sk fun bt a3=> ?_)
  refine Be [Is (NI i),Is (va),Is (NI a.length),Is (.bool (true)),Is (.bool (true)),Is (NI i),Is (vb),Is (NI b.length),Is (.bool (false)),Is (.bool (false)),Is (.bool (false)),Is undef,Is undef,Is undef,Is undef,Is undef,Is undef,Is undef,Is undef,Is undef,Is (.bool (false))] (by kernel_rfl) [6,7,8,9,10,11,12,13,14,15,16,17,18,19,20,21,22,23,24,25,26] (by kernel_rfl) (by kernel_rfl) (FF (Ct trivial)) ?a4 ?hQ3002
  case a4=>
   refine⟨?_,?_,?_,?_,?_,?_,?_,?_,?_,?_,?_,?_,?_,?_,?_,?_,?_,?_,?_,?_,?_,trivial⟩
   ·refine Aa rfl fun σ w1 hC h=> ?_
    have g:=(Ab (h 5 (by decide))).trans c
    exact Yk.move g ⟨Ext.refl _,rfl⟩
   ·refine Aa rfl fun σ w1 hC h=> ?_
    have m:=(Ab (h 0 (by decide))).trans f
    exact Yk.move m ⟨Ext.refl _,rfl⟩
   ·refine Aa rfl fun σ w1 hC h=> ?_
    have p:=Ab (h 7 (by decide))
    exact Yk.lenRB DT (RB.of (hra.keep (hE.trans hC)) p) ⟨Ext.refl _,rfl⟩
   ·refine Aa rfl fun σ w1 hC h=> ?_
    have q:=Ab (h 6 (by decide))
    have e8:=Ab (h 8 (by decide))
    exact Yk.eqI (a:=(i:Nat)) (b:=(a.length:Nat)) q e8 (AN _ _ _ _) ⟨Ext.refl _,(congrArg Value.bool (decide_eq_true (h1)))⟩
   ·refine Aa rfl fun σ w1 hC h=> ?_
    have r:=Ab (h 9 (by decide))
    exact Yk.move r ⟨Ext.refl _,rfl⟩
   ·refine Ay 4 true 10 rfl rfl (fun _ _ h=>h) fun σ w1 hC h=> ?_
    have g:=(Ab (h 5 (by decide))).trans c
    exact Yk.move g ⟨Ext.refl _,rfl⟩
   ·refine Ay 4 true 10 rfl rfl (fun _ _ h=>h) fun σ w1 hC h=> ?_
    have n:=(Ab (h 1 (by decide))).trans j
    exact Yk.move n ⟨Ext.refl _,rfl⟩
   ·refine Ay 4 true 10 rfl rfl (fun _ _ h=>h) fun σ w1 hC h=> ?_
    have v:=Ab (h 12 (by decide))
    exact Yk.lenRB DT (RB.of (hrb.keep (hE.trans hC)) v) ⟨Ext.refl _,rfl⟩
   ·refine Ay 4 true 10 rfl rfl (fun _ _ h=>h) fun σ w1 hC h=> ?_
    have y:=Ab (h 11 (by decide))
    have z:=Ab (h 13 (by decide))
    exact Yk.eqI (a:=(i:Nat)) (b:=(b.length:Nat)) y z (AN _ _ _ _) ⟨Ext.refl _,(congrArg Value.bool (decide_eq_false (by omega)))⟩
   ·refine Aa rfl fun σ w1 hC h=> ?_
    have s:=Ab (h 10 (by decide))
    have aa:=Ab (h 14 (by decide))
    exact Yk.pickT s aa ⟨Ext.refl _,rfl⟩
   ·refine Aa rfl fun σ w1 hC h=> ?_
    have t:=Ab (h 15 (by decide))
    exact Yk.move t ⟨Ext.refl _,rfl⟩
   ·refine AS 10 true 16 rfl rfl (fun x _ (h:x = .bool false)=>by rw[h];intro h;cases h) fun _=>rfl
   ·refine AS 10 true 16 rfl rfl (fun x _ (h:x = .bool false)=>by rw[h];intro h;cases h) fun _=>rfl
   ·refine AS 10 true 16 rfl rfl (fun x _ (h:x = .bool false)=>by rw[h];intro h;cases h) fun _=>rfl
   ·refine AS 10 true 16 rfl rfl (fun x _ (h:x = .bool false)=>by rw[h];intro h;cases h) fun _=>rfl
   ·refine AS 10 true 16 rfl rfl (fun x _ (h:x = .bool false)=>by rw[h];intro h;cases h) fun _=>rfl
   ·refine AS 10 true 16 rfl rfl (fun x _ (h:x = .bool false)=>by rw[h];intro h;cases h) fun _=>rfl
   ·refine AS 10 true 16 rfl rfl (fun x _ (h:x = .bool false)=>by rw[h];intro h;cases h) fun _=>rfl
   ·refine AS 10 true 16 rfl rfl (fun x _ (h:x = .bool false)=>by rw[h];intro h;cases h) fun _=>rfl
   ·refine AS 10 true 16 rfl rfl (fun x _ (h:x = .bool false)=>by rw[h];intro h;cases h) fun _=>rfl
   ·refine Aa rfl fun σ w1 hC h=> ?_
    have u:=Ab (h 16 (by decide))
    exact Yk.pickF u (vr (.bool (false)) rfl) ⟨Ext.refl _,rfl⟩
  intro a5 bu a6 he hf
  obtain⟨-,-,-,-,-,-,-,-,-,-,-,-,-,-,-,-,-,-,-,-,k26,-⟩:=hf
  obtain⟨f,j,k,c,-⟩:=he.hold [(0,_),(1,_),(4,_),(5,_)] ⟨f,j,k,c,trivial⟩ rfl
  clear he
  have hE:=hE.trans a6
  have o:a5 26 = .bool (false):=k26
  clear k26
  refine tN (a3 _ _ (Ar o (AJ (Ag (Ag (Ap (tN (ac _ _ (sk fun bv a7=>(wt (oM rfl (oA rfl (oZ (tN (a7 _ _ (As (Ao (fn:=Tryd.f55) _ rfl [NI i] (NI i) rfl ⟨c,trivial⟩ ?_)))))))))))))))))
  rw[hlc,ab]
  exact⟨rfl,hE⟩
 have ab:=JH (a:=a) (i:=i) (b:=b) (by omega)
 refine sk fun bw bx=>(sk fun bz a8=> ?_)
 refine Be [Is (NI i),Is (va),Is (NI a.length),Is (.bool (false)),Is (.bool (false)),Is undef,Is undef,Is undef,Is undef,Is (.bool (false)),Is (.bool (false)),Is undef,Is undef,Is undef,Is undef,Is undef,Is undef,Is undef,Is undef,Is undef,Is (.bool (false))] (by kernel_rfl) [6,7,8,9,10,11,12,13,14,15,16,17,18,19,20,21,22,23,24,25,26] (by kernel_rfl) (by kernel_rfl) (FF (Ct trivial)) ?a9 ?hQ4002
 case a9=>
  refine⟨?_,?_,?_,?_,?_,?_,?_,?_,?_,?_,?_,?_,?_,?_,?_,?_,?_,?_,?_,?_,?_,trivial⟩
  ·refine Aa rfl fun σ w1 hC h=> ?_
   have g:=(Ab (h 5 (by decide))).trans c
   exact Yk.move g ⟨Ext.refl _,rfl⟩
  ·refine Aa rfl fun σ w1 hC h=> ?_
   have m:=(Ab (h 0 (by decide))).trans f
   exact Yk.move m ⟨Ext.refl _,rfl⟩
  ·refine Aa rfl fun σ w1 hC h=> ?_
   have p:=Ab (h 7 (by decide))
   exact Yk.lenRB DT (RB.of (hra.keep (hE.trans hC)) p) ⟨Ext.refl _,rfl⟩
  ·refine Aa rfl fun σ w1 hC h=> ?_
   have q:=Ab (h 6 (by decide))
   have e8:=Ab (h 8 (by decide))
   exact Yk.eqI (a:=(i:Nat)) (b:=(a.length:Nat)) q e8 (AN _ _ _ _) ⟨Ext.refl _,(congrArg Value.bool (decide_eq_false (by omega)))⟩
  ·refine Aa rfl fun σ w1 hC h=> ?_
   have r:=Ab (h 9 (by decide))
   exact Yk.move r ⟨Ext.refl _,rfl⟩
  ·refine AS 4 true 10 rfl rfl (fun x _ (h:x = .bool false)=>by rw[h];intro h;cases h) fun _=>rfl
  ·refine AS 4 true 10 rfl rfl (fun x _ (h:x = .bool false)=>by rw[h];intro h;cases h) fun _=>rfl
  ·refine AS 4 true 10 rfl rfl (fun x _ (h:x = .bool false)=>by rw[h];intro h;cases h) fun _=>rfl
  ·refine AS 4 true 10 rfl rfl (fun x _ (h:x = .bool false)=>by rw[h];intro h;cases h) fun _=>rfl
  ·refine Aa rfl fun σ w1 hC h=> ?_
   have s:=Ab (h 10 (by decide))
   exact Yk.pickF s (vr (.bool (false)) rfl) ⟨Ext.refl _,rfl⟩
  ·refine Aa rfl fun σ w1 hC h=> ?_
   have t:=Ab (h 15 (by decide))
   exact Yk.move t ⟨Ext.refl _,rfl⟩
  ·refine AS 10 true 16 rfl rfl (fun x _ (h:x = .bool false)=>by rw[h];intro h;cases h) fun _=>rfl
  ·refine AS 10 true 16 rfl rfl (fun x _ (h:x = .bool false)=>by rw[h];intro h;cases h) fun _=>rfl
  ·refine AS 10 true 16 rfl rfl (fun x _ (h:x = .bool false)=>by rw[h];intro h;cases h) fun _=>rfl
  ·refine AS 10 true 16 rfl rfl (fun x _ (h:x = .bool false)=>by rw[h];intro h;cases h) fun _=>rfl
  ·refine AS 10 true 16 rfl rfl (fun x _ (h:x = .bool false)=>by rw[h];intro h;cases h) fun _=>rfl
  ·refine AS 10 true 16 rfl rfl (fun x _ (h:x = .bool false)=>by rw[h];intro h;cases h) fun _=>rfl
  ·refine AS 10 true 16 rfl rfl (fun x _ (h:x = .bool false)=>by rw[h];intro h;cases h) fun _=>rfl
  ·refine AS 10 true 16 rfl rfl (fun x _ (h:x = .bool false)=>by rw[h];intro h;cases h) fun _=>rfl
  ·refine AS 10 true 16 rfl rfl (fun x _ (h:x = .bool false)=>by rw[h];intro h;cases h) fun _=>rfl
  ·refine Aa rfl fun σ w1 hC h=> ?_
   have u:=Ab (h 16 (by decide))
   exact Yk.pickF u (vr (.bool (false)) rfl) ⟨Ext.refl _,rfl⟩
 intro ba b0 bb he hf
 obtain⟨-,-,-,-,-,-,-,-,-,-,-,-,-,-,-,-,-,-,-,-,k26,-⟩:=hf
 obtain⟨f,j,k,c,-⟩:=he.hold [(0,_),(1,_),(4,_),(5,_)] ⟨f,j,k,c,trivial⟩ rfl
 clear he
 have hE:=hE.trans bb
 have o:ba 26 = .bool (false):=k26
 clear k26
 refine tN (a8 _ _ (Ar o (AJ (Ag (Ag (Ap (tN (ac _ _ (sk fun b1 bc=>(wt (oM rfl (oA rfl (oZ (tN (bc _ _ (As (Ao (fn:=Tryd.f55) _ rfl [NI i] (NI i) rfl ⟨c,trivial⟩ ?_)))))))))))))))))
 rw[hlc,ab]
 exact⟨rfl,hE⟩
end Go.Proofs.YtcegdjpdnlaleaaDoor
