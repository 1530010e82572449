/- Part 1 of what stands behind these statements: laws and walks of the functions that are reached. Conditions: those that each theorem names. -/
import Derived.WalkKit
import Derived.WalkLawsBesides
import Derived.WalkSpells
import Derived.Deep.AppendSrc
import Derived.Lib.Hide
import Derived.Lib.VarintMem
import Derived.ProofKit
import Derived.OpenShut
import Derived.ShutString
import Derived.JoinedCond
import Derived.Orders
import Derived.Below
import Derived.Laws.IdiomStrings
import Derived.Deep.MidRow
import Derived.Scope
import Derived.Laws.Rows
import Derived.Laws.StructEq
import Derived.Lib.EndianBits
import Derived.DeepKeys4
import Derived.MapKept
import Derived.WideKeyEntry
import Derived.Recover
import Derived.Lib.Walk
import Derived.Lib.Varint
import Derived.Lib.Bytealg
import Derived.Laws.Externs
import Derived.Lib.ConvBytes
import Derived.Lib.AtoiErrMem
import Derived.Defers
import Derived.Deep.DeepHandedRow
import Derived.Lib.LaidTab
import Derived.Stop.LaidErr
import Derived.Deep.SlicePairs
import Derived.Test.YtcegdjpdnlaleaaDoorRows
set_option linter.unusedVariables false
namespace Go.Proofs.YtcegdjpdnlaleaaDoor
open Go.RowKit
/-! Short names for what stands in the walks again and again. -/
abbrev PQ(b o:Nat):Value:= .pointer (some ⟨b,o,none⟩)
abbrev St(l:List UInt8):Value:= .string ⟨l.toArray⟩
abbrev AB(l:List UInt8):Value:= .agg (Lib.byteCells l).toArray
abbrev OB(v:Value)(g:Nat):Prop:=v.ownBlock≠some g
theorem Ab{x v:Value}(h:x=v):x=v:=h
theorem AT{a b n:Nat}(h:a<b)(e:b=n):a<n:=e▸h
theorem vr{x:Value}(y:Value)(h:x=y):x=y:=h
theorem bl{α:Type}{xs:Array α}{i:Nat}{o:α}(h:xs[i]? =some o):i<xs.size:=(Array.getElem?_eq_some_iff.1 h).1
theorem kb{w w' :World}{g n:Nat}{o:Obj}(hg:w.grownBy w' (some g))(hb:w.heap[n]? =some o)(h:n≠g):w'.heap[n]? =some o:=(hg.block n (bl hb) (fun e=>h (Option.some.inj e))).trans hb

structure Grew (w w' : World) (v v' : Value) : Prop where
  by_:w.grownBy w' v.ownBlock
  fresh:∀k,v'.ownBlock=some k→v.ownBlock=some k∨w.heap.size≤k

theorem Bu{w w1 a:World}{r r1:Option Nat}(h:w.grownBy w1 r)(k:w1.grownBy a r1)(hr:∀b,r1=some b→r=some b∨w.heap.size≤b):w.grownBy a r:=by
  refine⟨k.os.trans h.os,k.tape.trans h.tape,k.output.trans h.output,Nat.le_trans h.size k.size,fun i hi hne=> ?_⟩
  have h1:=h.size
  rw[k.block i (by omega) (fun e=>(hr i e.symm).elim (fun h2=>hne h2.symm) (fun h2=>by omega)),h.block i hi hne]

theorem Grew.eqv{w w' :World}{x v v' :Value}(e:x=v)(h:Grew w w' x v'):Grew w w' v v' :=e▸h
theorem Grew.refl(w:World)(v:Value):Grew w w v v:=⟨World.grownBy.refl _ _,fun _ h=> .inl h⟩
theorem Grew.trans{w w1 a:World}{v c e:Value}(h:Grew w w1 v c)(k:Grew w1 a c e):Grew w a v e:=
  ⟨Bu h.by_ k.by_ h.fresh,fun b hb=>by
    have h1:=h.by_.size
    rcases k.fresh b hb with h2 | h2
    · exact h.fresh b h2
    · exact .inr (by omega)⟩
theorem Grew.alloc{w w1:World}{v a:Value}(h:Grew w w1 v a)(o:Obj):Grew w (w1.alloc o) v a:=
  ⟨Bu h.by_ (World.grownBy_alloc _ o none) (fun _ e=>by cases e),h.fresh⟩
theorem Grew.below{B:Nat}{w w1:World}{v a:Value}(h:Grew w w1 v a)(hB:B≤w.heap.size)(hv:∀k,v.ownBlock=some k→B≤k):Below B w w1:=
  (Below.refl B w).grown h.by_ hB hv

section
variable {P : Program} (w : World)
theorem FD(base:Nat)(t tx ty e:TypeId)(i:TypeInfo)(z:Value)(size bytes:Nat)(ht:P.underlying t=some (.slice e))(hi:P.info? e=some i)(hz:i.zero=some z) 
    (hsize:i.size=size) (hby:i.bytes=bytes) (hzs:z.cells.size=size)
    (v:Value) (n:Nat) (xs:List Value) (hown:w.ownsRow base e size v n xs)
    (x:Value) (m:Nat) (news:List Value) (hs:Src P size tx x m news w)
    (h63:n+m≤maxLen) (hbytes:(n+m)*bytes≤140737488355328) (hbase:base≤w.heap.size):
    ∃v' w',(Builtin.append_ #[t,tx] ty #[v,x]).run P w = .ok v' w' ∧w'.ownsRow base e size v' (n+m) (xs++news)∧Grew w w' v v' :=by
  subst hsize
  subst hby
  have hsmall:n+m≤9223372036854775807:=by simp only[maxLen]at h63;omega
  have hl:=hs.newsLen
  have hlen:(xs++news).length=(n+m)*i.size:=by rw[List.length_append,hown.1,hl,Nat.add_mul]
  have grown:∀(old:Nat),old<n+m →
      (w.drew.alloc (.cells ((xs++news).toArray++Builtin.zeroCells z.cells (grownCap w (n+m) old e-(n+m))) e)).ownsRow base e i.size
        (.slice (some ⟨w.heap.size,0,none⟩) (n+m) (grownCap w (n+m) old e)) (n+m) (xs++news) ∧
      Grew w (w.drew.alloc (.cells ((xs++news).toArray++Builtin.zeroCells z.cells (grownCap w (n+m) old e-(n+m))) e)) v (.slice (some ⟨w.heap.size,0,none⟩) (n+m) (grownCap w (n+m) old e)):=by
    intro old ho
    have hge:=grownCap_ge w (n+m) old e
    have hcm:grownCap w (n+m) old e≤maxLen:=grownCap_le_maxLen w (n+m) old e h63
    refine⟨⟨hlen, .inr ⟨w.heap.size,_,_,rfl,hbase,heap_alloc_new w.drew _,hge,hcm,?_,?_⟩⟩,⟨⟨rfl,rfl,rfl,by simp,fun _ hk _=>heap_alloc_old w.drew _ hk⟩,?_⟩⟩
    · simp only[Array.size_append,List.size_toArray,size_zeroCells,hzs,hlen,←Nat.add_mul]
      congr 1
      omega
    · simp only[Array.toList_append]
      rw[←hlen]
      exact List.take_left
    · intro k hk
      simp[Value.ownBlock]at hk
      exact .inr (by omega)
  rcases hown.2 with ⟨rfl,rfl⟩ | ⟨g,cap,cur,rfl,hbg,hg,hnc,hcm,hcs,htake⟩
  · have hx:xs= []:=List.eq_nil_of_length_eq_zero (by simpa using hown.1)
    subst hx
    by_cases hm:m=0
    · subst hm
      have hn:news= []:=List.eq_nil_of_length_eq_zero (by simpa using hl)
      subst hn
      refine⟨.slice none 0 0,w,?_,World.ownsRow_nil w base e i.size,Grew.refl _ _⟩
      have hc:=hs.cells
      have hle:=hs.len
      rcases hs.kind with ⟨e',hk⟩ | hk <;> simp[Builtin.append_,run_underlying ht,run_underlying hk,sizeOf,typeInfo,hi,hle,hc]
    · have hgr:=grown 0 (by omega)
      have hr:=run_append_grow_src (P:=P) w t tx ty e i z ht hi hz none 0 0 [] (run_firstCells_none w.drew i.size 0 0 0) x m news hs (by omega) (by omega)
        (growslice_fits (by omega) hbytes)
      exact⟨_,_,hr,hgr.1,hgr.2⟩
  · by_cases hroom:n+m≤cap
    · have hfit:n*i.size+news.length≤cur.size:=by rw[hl,hcs,←Nat.add_mul];exact Nat.mul_le_mul_right _ hroom
      have hst:=run_storeCells_at P g (n*i.size) e news 0 cur w hg (by simpa using hfit) hs.one
      simp only[Nat.add_zero]at hst
      have hr:(Builtin.append_ #[t,tx] ty #[.slice (some ⟨g,0,none⟩) n cap,x]).run P w = .ok (.slice (some ⟨g,0,none⟩) (n+m) cap) (w.setRow g (cur.toList.take (n*i.size)++news++cur.toList.drop (n*i.size+news.length)).toArray):=by
        rcases hs.kind with ⟨e',hk⟩ | hk <;> simp[Builtin.append_,run_underlying ht,run_underlying hk,sizeOf,typeInfo,hi,hs.len,hroom,hs.cells,Addr.add_lit,hst]
      refine⟨_,_,hr,⟨hlen, .inr ⟨g,cap,_,rfl,hbg,setRow_heap w g cur _ e _ hg,hroom,hcm,?_,?_⟩⟩,⟨⟨rfl,rfl,rfl,by simp,fun k _ hk=>setRow_other w g k _ (fun e=>hk (by simp[Value.ownBlock,e]))⟩,fun k hk=> .inl hk⟩⟩
      · simp only[List.size_toArray,List.length_append,List.length_take,List.length_drop,Array.length_toList]
        omega
      · rw[htake,←hlen]
        exact List.take_left
    · have holds:∀j u,xs[j]? =some u→w.cell? ((⟨g,0,none⟩:Addr).add j)=some u:=hown.cells (g:=g) rfl
      have hgr:=grown cap (by omega)
      have hr:=run_append_grow_src (P:=P) w t tx ty e i z ht hi hz (some ⟨g,0,none⟩) n cap xs (run_firstCells_some w.drew i.size n ⟨g,0,none⟩ n cap xs hown.1 (by simpa using holds)) x m news hs (by omega) (by omega)
        (growslice_fits (by omega) hbytes)
      exact⟨_,_,hr,hgr.1,hgr.2⟩

theorem BM{ops:Array Oper}{rest:List Oper}{o:Oper}{a:Act}{Q:Exit→Act→World→Prop}(hgd:o.guard=none)(s xo:Operand)(t tx:TypeId) 
    (ho:o.op = .call { callee:= .builtin .append,args:= #[s,xo],argTypes:= #[t,tx] })
    (base:Nat) (e:TypeId) (i:TypeInfo) (z:Value) (size bytes:Nat) (ht:P.underlying t=some (.slice e)) (hi:P.info? e=some i) (hz:i.zero=some z)
    (hsize:i.size=size) (hby:i.bytes=bytes) (hzs:z.cells.size=size)
    (v:Value) (n:Nat) (xs:List Value) (hs:a.eval s=v) (hown:w.ownsRow base e size v n xs)
    (x:Value) (m:Nat) (news:List Value) (hx:a.eval xo=x) (hsrc:Src P size tx x m news w)
    (h63:n+m≤maxLen) (hbytes:(n+m)*bytes≤140737488355328) (hbase:base≤w.heap.size)
    (h:∀v' w',w'.ownsRow base e size v' (n+m) (xs++news)→Grew w w' v v' →wpList P ops Q rest (a.put o.dst v') w'):wpList P ops Q (o :: rest) a w:=
  wpList_plain hgd fun K hK=>by
    obtain⟨v',w',hr,h2,h3⟩:=FD (P:=P) w base t tx o.type e i z size bytes ht hi hz hsize hby hzs v n xs hown x m news hsrc h63 hbytes hbase
    unfold Oper.wp execOp
    simp only[ho,resolve,invoke,builtin,Sem.run_bind,Sem.run_pure,Result.andThen_ok,List.map_toArray,List.map_cons,List.map_nil,hs,hx,hr]
    exact hK _ _ (h v' w' h2 h3)
end
theorem CU{w:World}{b b' :Nat}{e:TypeId}{size:Nat}{v:Value}{n:Nat}{xs:List Value}(h:w.ownsRow b e size v n xs)(hb:b' ≤b):w.ownsRow b' e size v n xs:=
  ⟨h.1,h.2.imp (fun x=>x) (fun⟨g,cap,cur,a,c,r⟩=>⟨g,cap,cur,a,Nat.le_trans hb c,r⟩)⟩

def Reads(w:World)(size:Nat)(v:Value)(n:Nat)(xs:List Value):Prop:=
  xs.length=n*size∧∃ao cap,v = .slice ao n cap∧n≤cap∧cap≤maxLen∧(ao=none→n=0∧cap=0)∧∀a,ao=some a→∀j u,xs[j]? =some u→w.cell? (a.add j)=some u

def RB(w:World)(v:Value)(l:List UInt8):Prop:=Reads w 1 v l.length (Lib.byteCells l)

theorem AF(l:List UInt8):∀u∈Lib.byteCells l,u.oneCell' =true:=by
  intro u hu
  obtain⟨_,_,rfl⟩:=List.mem_map.1 hu
  rfl

theorem RB.src{P:Program}{tx e' :TypeId}(hk:P.underlying tx=some (.slice e')){w:World}{v:Value}{l:List UInt8}(h:RB w v l):Src P 1 tx v l.length (Lib.byteCells l) w:=by
  obtain⟨h1,ao,cap,rfl,h2,h3,h4,h5⟩:=h
  cases ao with
  | none=>
    obtain⟨h6,rfl⟩:=h4 rfl
    have:l= []:=List.eq_nil_of_length_eq_zero h6
    subst this
    exact Src.ofNil w hk 0
  | some a=>exact Src.ofSlice w hk a _ cap _ h1 (h5 a rfl) (AF l)
theorem RB.below{B:Nat}{w w' :World}{v:Value}{l:List UInt8}(h:RB w v l)(hb:Below B w w')(hB:B=w.heap.size):RB w' v l:=by
  obtain⟨h1,ao,cap,rfl,h2,h3,h4,h5⟩:=h
  refine⟨h1,ao,cap,rfl,h2,h3,h4,fun a ha j u hu=> ?_⟩
  have:=h5 a ha j u hu
  exact(hb.cell (by have:=World.block_lt_of_cell? w _ this;omega)).trans this
theorem Nx(s:ByteArray):byteCells s=Lib.byteCells s.data.toList:=rfl
theorem Iv{P:Program}{tx:TypeId}(hk:P.underlying tx=some .string)(w:World)(s:ByteArray):Src P 1 tx (.string s) s.data.toList.length (Lib.byteCells s.data.toList) w:=by
  have h:=Src.ofString (P:=P) w hk s
  rw[Nx]at h
  exact h
theorem RB.ofOwn{w:World}{base:Nat}{e:TypeId}{v:Value}{l:List UInt8}(h:w.ownsRow base e 1 v l.length (Lib.byteCells l)):RB w v l:=by
  refine⟨h.1,?_⟩
  have h' :=h
  rcases h.2 with ⟨rfl,h0⟩ | ⟨g,cap,cur,rfl,hbg,hg,hnc,hcm,hcs,htake⟩
  · exact⟨none,0,by rw[h0],by omega,by simp[maxLen],fun _=>⟨h0,rfl⟩,fun a ha=>by cases ha⟩
  · exact⟨some ⟨g,0,none⟩,cap,rfl,hnc,hcm,(fun h=>by cases h),(fun a ha j u hu=>by cases ha;exact h'.cells rfl j u hu)⟩

theorem HA{P:Program}{tx e' :TypeId}(hk:P.underlying tx=some (.slice e'))(w:World)(c:Value)(t:TypeId)(hc:c.oneCell' =true):Src P 1 tx (.slice (some ⟨w.heap.size,0,none⟩) 1 1) 1 [c] (w.alloc (.cells #[c] t)):=
  Src.ofSlice _ hk ⟨w.heap.size,0,none⟩ 1 1 [c] rfl (fun j u hj=>by
    match j,hj with
    | 0,hj=>simp at hj;subst hj;simp[Addr.add]) (fun u hu=>by simp at hu;subst hu;exact hc)

structure NewB (e : TypeId) (w w' : World) (v : Value) (l : List UInt8) : Prop where
  own:w'.ownsRow w.heap.size e 1 v l.length (Lib.byteCells l)
  by_:w.grownBy w' none
theorem NewB.rb{e:TypeId}{w w' :World}{v:Value}{l:List UInt8}(h:NewB e w w' v l):RB w' v l:=RB.ofOwn h.own
theorem NewB.below{e:TypeId}{w w' :World}{v:Value}{l:List UInt8}(h:NewB e w w' v l):Below w.heap.size w w' :=
  (Below.refl _ _).grown h.by_ (Nat.le_refl _) (fun k hk=>by cases hk)
theorem NewB.more{e:TypeId}{w w1 a:World}{v v' :Value}{l l' :List UInt8}(h:NewB e w w1 v l)(g:Grew w1 a v v')(ho:a.ownsRow w.heap.size e 1 v' (l.length+l'.length) (Lib.byteCells l++Lib.byteCells l')):NewB e w a v' (l++l'):=
  ⟨by rw[Lib.byteCells_append,List.length_append];exact ho,Bu h.by_ g.by_ (fun b hb=> .inr (h.own.lt b hb).1)⟩
theorem RB.keep{w w' :World}{v:Value}{l:List UInt8}(h:RB w v l)(hb:Below w.heap.size w w'):RB w' v l:=h.below hb rfl
theorem RB.len{w:World}{v:Value}{l:List UInt8}(h:RB w v l):∃ao cap,v = .slice ao l.length cap∧l.length≤cap∧cap≤9223372036854775807:=by
  obtain⟨h1,ao,cap,rfl,h2,h3,h4,h5⟩:=h
  unfold maxLen at h3
  exact⟨ao,cap,rfl,h2,h3⟩
open Go.ChangeShapes Go.WideShapes Go.ChangeAt Go.RowKit
open Go.ChangeMaps (open_string shut_string)
theorem Jn{H:Type}(d:DataW H):1≤Rows.uptoBulk d:=by
  cases d with
  | lit l=>cases l <;> simp[Rows.uptoBulk]
  | nil=>simp[Rows.uptoBulk]
  | ptr d=>simp[Rows.uptoBulk]
  | slice elems spare=>simp[Rows.uptoBulk]
  | agg parts=>simp[Rows.uptoBulk]
  | iface t d=>simp[Rows.uptoBulk]
  | map entries=>simp[Rows.uptoBulk]
  | held h=>simp[Rows.uptoBulk]
theorem G8{H:Type}(l:List (DataW H)):l.length≤Rows.uptoBulkAll l:=by
  induction l with
  | nil=>simp[Rows.uptoBulkAll]
  | cons x r ih=>have:=Jn x;simp only[Rows.uptoBulkAll,List.length_cons];omega
theorem Lm{H:Type}(elems spare:List (DataW H)):elems.length+spare.length+1≤Rows.uptoBulk (.slice elems spare):=by
  have h1:=G8 elems
  have h2:=G8 spare
  simp only[Rows.uptoBulk]
  omega
theorem Ln{w:World}{a:Addr}{len cap:Nat}{zs:List Int}(hl:len≤cap)(hm:cap≤maxLen)(hz:len≤zs.length)(hc:∀i,i<zs.length→w.cell? (a.add i)=some (.int .u8 (zs.getD i 0)))(hw:∀n∈zs,(Lit.int .u8 n).wf=true):
    RB w (.slice (some a) len cap) ((zs.take len).map fun n=>UInt8.ofNat n.toNat):=by
  have hlen:((zs.take len).map fun n=>UInt8.ofNat n.toNat).length=len:=by simp;omega
  refine⟨by rw[Lib.byteCells_length,hlen,Nat.mul_one],some a,cap,by rw[hlen],by omega,hm,(fun h=>by cases h),fun a' ha j u hu=> ?_⟩
  cases ha
  have hj:j<len:=by
    have:=(List.getElem?_eq_some_iff.1 hu).1
    rw[Lib.byteCells_length,hlen]at this
    exact this
  have hjz:j<zs.length:=by omega
  have hwf:=hw zs[j] (List.getElem_mem hjz)
  have hb:0≤zs[j]∧zs[j]≤255:=by simpa [Lit.wf,IntKind.min,IntKind.max,IntKind.signed,IntKind.bits] using hwf
  rw[hc j hjz]
  simp[Lib.byteCells,hj,hjz]at hu
  rw[←hu]
  congr 1
  simp[List.getD,hjz]
  omega

section
variable {H : Type} {enc : TypeId × Value → H} {P : Program} {W : World}
theorem Kn{t e:TypeId}{fuel:Nat}{cs:List Value}{x:DataW H × List MemPlace}(ht:P.underlying t=some (.slice e))(he:P.underlying e=some (.int .u8))(hc:P.cellsOf e=1) 
    (hf:DataW.trod enc P W 0 (fun _=>true) true fuel t cs=some x):∃c l,cs= [c]∧RB W c l∧l.length+1≤Rows.uptoBulk x.1:=by
  rcases open_ints ht he hc hf with ⟨hcs,hx⟩ | ⟨a,l,c,zs,hcs,_,hl,hm,hz,hx,hcell,hwz⟩
  · exact⟨_,[],hcs,⟨rfl,none,0,rfl,Nat.le_refl _,by simp[maxLen],fun _=>⟨rfl,rfl⟩,fun a h=>by cases h⟩,by have:=Jn x.1;simpa using this⟩
  · simp at hz
    refine⟨_,_,hcs,Ln hl hm (by omega) hcell hwz,?_⟩
    rw[hx]
    have:=Lm (H:=H) (lits .u8 (zs.take l)) (lits .u8 (zs.drop l))
    simp[lits]at this ⊢
    omega
end
theorem own:ownKnob Tryd.prog.godebug=none:=by kernel_rfl
theorem Oy:laidOutB Tryd.prog=true:=by kernel_rfl
open Go.RowKit
abbrev Bn:=Value→World→Prop
def Is(v:Value):Bn:=fun x _=>x=v
def Ad(ρ:Tmp→Value):Operand→Value
  | .tmp t=>ρ t
  | .const v=>v
  | .global g=> .pointer (some ⟨g,0,none⟩)
  | .func f=> .func (.func f) #[] #[]
theorem evalR_eq(a:Act):Ad (fun t=>a.tmps.getD t undef)=a.eval:=by
  funext x
  cases x <;> rfl
def Yk(P:Program)(K:Value→World→Prop):Result Next→Prop
  | .ok (.value v) w=>K v w
  | .ok .skip w=>K undef w
  | .ok (.enter f args) w=>Calls P f args w fun e w' =>∃v,e = .returned v∧K v w'
  | _=>False
def CH(l:List Oper)(t:Tmp):Nat→Option Nat
  | 0=>none
  | n+1=>if(l[n]?.bind (·.dst))=some t then some n else CH l t n
def EV(l:List Oper)(Φ:Nat→Bn)(T:Array Value)(n:Nat)(t:Tmp)(x:Value)(w:World):Prop:=
  match CH l t n with
  | none=>x=T.getD t undef
  | some k=>Φ k x w
def C0(l:List Oper)(o:Oper)(ρ:Tmp→Value):Bool:=
  match o.guard with
  | none=>true
  | some (g,want)=>match (l[g]?).bind (·.dst)with
    | some t=>(match ρ t with | .bool b=>b==want | _=>false)
    | none=>false
def Ez(P:Program)(l:List Oper)(C:Nat→World→Prop)(R:Nat→World→World→Prop)(Φ:Nat→Bn)(T:Array Value)(n:Nat)(o:Oper):Prop:=
  ∀(ρ:Tmp→Value) (w:World),C n w→(∀t∈o.looksAt l.toArray,EV l Φ T n t (ρ t) w) →
    if C0 l o ρ=true then Yk P (fun v w' =>R n w w' ∧Φ n v w') ((execOp (Ad ρ) o).run P w)else Φ n undef w
def StepsOk(P:Program)(l:List Oper)(C:Nat→World→Prop)(R:Nat→World→World→Prop)(Φ:Nat→Bn)(T:Array Value):Nat→List Oper→Prop
  | _,[]=>True
  | n,o :: r=>Ez P l C R Φ T n o∧StepsOk P l C R Φ T (n+1) r
theorem StepsOk.get{P:Program}{l:List Oper}{C:Nat→World→Prop}{R:Nat→World→World→Prop}{Φ:Nat→Bn}{T:Array Value}:
    ∀(r:List Oper) (n:Nat),StepsOk P l C R Φ T n r→∀k o,r[k]? =some o→Ez P l C R Φ T (n+k) o
  | [],_,_,k,o,h=>by simp at h
  | x :: r,n,h,0,o,hk=>by simp at hk;subst hk;exact h.1
  | x :: r,n,h,k+1,o,hk=>by
    have:=StepsOk.get r (n+1) h.2 k o (by simpa using hk)
    rwa [show n+(k+1)=n+1+k by omega]

/-! ### The edges' closure, as bits -/
def FE(acc:List Nat)(o:Oper):Nat:=
  o.after.toList.foldl (fun s e=>if Region.binds .any e then s|||2^e.on|||acc.getD e.on 0 else s) 0
def Ba:List Oper→List Nat→List Nat
  | [],acc=>acc
  | o :: r,acc=>Ba r (acc++ [FE acc o])
theorem Jo(acc:List Nat)(k:Nat):∀(es:List Edge) (s:Nat),(es.foldl (fun s e=>if Region.binds .any e then s|||2^e.on|||acc.getD e.on 0 else s) s).testBit k=true →
    s.testBit k=true∨∃e∈es,Region.binds .any e=true∧(e.on=k∨(acc.getD e.on 0).testBit k=true)
  | [],s,h=> .inl h
  | e :: es,s,h=>by
    rw[List.foldl_cons]at h
    rcases Jo acc k es _ h with h1 | ⟨e',he',hb,hx⟩
    · by_cases hb:Region.binds .any e=true
      · rw[if_pos hb]at h1
        simp only[Nat.testBit_or,Bool.or_eq_true]at h1
        rcases h1 with (h1 | h1) | h1
        · exact .inl h1
        · rw[Nat.testBit_two_pow]at h1
          exact .inr ⟨e,by simp,hb, .inl (by simpa using h1)⟩
        · exact .inr ⟨e,by simp,hb, .inr h1⟩
      · rw[if_neg hb]at h1
        exact .inl h1
    · exact .inr ⟨e',by simp[he'],hb,hx⟩
theorem Ko{acc:List Nat}{o:Oper}{k:Nat}(h:(FE acc o).testBit k=true):
    ∃e∈o.after,Region.binds .any e=true∧(e.on=k∨(acc.getD e.on 0).testBit k=true):=by
  rcases Jo acc k _ _ h with h1 | ⟨e,he,hb,hx⟩
  · simp at h1
  · exact⟨e,by simpa using he,hb,hx⟩
theorem Hh(l:List Oper):∀(r:List Oper) (acc:List Nat),acc.length+r.length=l.length→(∀j,r[j]? =l[acc.length+j]?) →
    (∀i o k,i<acc.length→l[i]? =some o→(acc.getD i 0).testBit k=true→∃e∈o.after,Region.binds .any e=true∧(e.on=k∨(e.on<i∧(acc.getD e.on 0).testBit k=true))) →
    ∀i o k,l[i]? =some o→((Ba r acc).getD i 0).testBit k=true→∃e∈o.after,Region.binds .any e=true∧(e.on=k∨(e.on<i∧((Ba r acc).getD e.on 0).testBit k=true))
  | [],acc,hl,_,hacc,i,o,k,hi,h=>by
    have:i<l.length:=(List.getElem?_eq_some_iff.1 hi).1
    exact hacc i o k (by simp at hl;omega) hi h
  | x :: r,acc,hl,hr,hacc,i,o,k,hi,h=>by
    rw[Ba]at h ⊢
    refine Hh l r (acc++ [FE acc x]) (by simp at hl ⊢;omega) (fun j=>by have:=hr (j+1);simp at this ⊢;rw[this];congr 1;omega) ?_ i o k hi h
    intro i o k hlt ho ht
    have keep:∀j,j<acc.length→(acc++ [FE acc x]).getD j 0=acc.getD j 0:=fun j hj=>by
      simp[List.getD,List.getElem?_append_left hj]
    simp at hlt
    by_cases hia:i<acc.length
    · rw[keep i hia]at ht
      obtain⟨e,he,hb,hx⟩:=hacc i o k hia ho ht
      exact⟨e,he,hb,hx.imp id (fun h2=>⟨h2.1,by rw[keep _ (by omega)];exact h2.2⟩)⟩
    · have hie:i=acc.length:=by omega
      subst hie
      have a:x=o:=by
        have:=hr 0
        simp[ho]at this
        exact this
      subst a
      have b:(acc++ [FE acc x]).getD acc.length 0=FE acc x:=by simp[List.getD]
      rw[b]at ht
      obtain⟨e,he,hb,hx⟩:=Ko ht
      refine⟨e,he,hb,hx.imp id (fun h2=> ?_)⟩
      by_cases hl:e.on<acc.length
      · exact⟨hl,by rw[keep _ hl];exact h2⟩
      · simp[List.getD,List.getElem?_eq_none (show acc.length≤e.on by omega)]at h2

def GV(l:List Oper)(o:Oper):List Tmp:=o.dst.toList++o.looksAt l.toArray
def B7(l:List Oper)(size:Nat):Bool:=
  let m:=Ba l []
  l.zipIdx.all fun(o,j)=>
    (o.after.all fun e=> !Region.binds .any e||e.on<j) &&
    (match o.dst with | some d=>decide (d<size) | none=>true) &&
    l.zipIdx.all fun(p,i)=>decide (j≤i)||((match p.dst with | some d=> !(GV l o).contains d | none=>true)&&(match o.dst with | some d=> !(GV l p).contains d | none=>true))||(m.getD j 0).testBit i
structure Fv (l : List Oper) (size : Nat) : Prop where
  back:∀(j:Nat) (o:Oper),l[j]? =some o→∀e∈o.after,Region.binds .any e=true→e.on<j
  room:∀(j:Nat) (o:Oper) (d:Tmp),l[j]? =some o→o.dst=some d→d<size
  tied:∀(j:Nat) (o:Oper) (i:Nat) (p:Oper) (d:Tmp),l[j]? =some o→l[i]? =some p→i<j→(p.dst=some d∧d∈GV l o∨o.dst=some d∧d∈GV l p)→((Ba l []).getD j 0).testBit i=true
theorem ET{l:List Oper}{size:Nat}(h:B7 l size=true):Fv l size:=by
  unfold B7 at h
  simp only[List.all_eq_true]at h
  have hz:∀j o,l[j]? =some o→(o,j)∈l.zipIdx:=fun j o ho=>by
    rw[List.mem_zipIdx_iff_getElem?]
    exact ho
  refine⟨fun j o ho e he hb=> ?_,fun j o d ho hd=> ?_,fun j o i p d ho hp hij hx=> ?_⟩
  · have:=h _ (hz j o ho)
    simp only[Bool.and_eq_true]at this
    have h2:=Array.all_eq_true_iff_forall_mem.1 this.1.1 e he
    simpa [hb] using h2
  · have:=h _ (hz j o ho)
    simp only[Bool.and_eq_true,hd]at this
    simpa using this.1.2
  · have:=h _ (hz j o ho)
    simp only[Bool.and_eq_true,List.all_eq_true]at this
    have h2:=this.2 _ (hz i p hp)
    simp only[Bool.or_eq_true,decide_eq_true_eq,Bool.and_eq_true]at h2
    rcases h2 with (h2 | h2) | h2
    · omega
    · exfalso
      rcases hx with ⟨h3,h4⟩ | ⟨h3,h4⟩
      · have h5:=h2.1
        rw[h3]at h5
        simp at h5
        exact h5 h4
      · have h5:=h2.2
        rw[h3]at h5
        simp at h5
        exact h5 h4
    · exact h2

def BW(l:List Oper)(kill:Nat→List Nat):Bool:=
  let m:=Ba l []
  l.zipIdx.all fun(o,j)=>(List.range l.length).all fun n=>decide (n=j)||(kill n).all fun k=>(m.getD n 0).testBit j||(o.looksAt l.toArray).all fun t=>CH l t j != some k
theorem Oz{l:List Oper}{kill:Nat→List Nat}(h:BW l kill=true)(j n k:Nat)(o:Oper)(t:Tmp)(ho:l[j]? =some o)(hn:n<l.length)(hne:n≠j)(hk:k∈kill n)(ht:t∈o.looksAt l.toArray)(hw:CH l t j=some k):((Ba l []).getD n 0).testBit j=true:=by
  unfold BW at h
  simp only[List.all_eq_true]at h
  have h1:=h (o,j) (by rw[List.mem_zipIdx_iff_getElem?];exact ho) n (by simpa using hn)
  simp only[Bool.or_eq_true,decide_eq_true_eq,hne,false_or,List.all_eq_true]at h1
  rcases h1 k hk with h2 | h2
  · exact h2
  · have:=h2 t ht
    simp[hw]at this

section
variable {P : Program} {l : List Oper} {kill : Nat → List Nat} {C : Nat → World → Prop} {E : Array Bool → World → Prop} {R : Nat → World → World → Prop} {Φ : Nat → Bn} {a0 : Act}
def On(listed:Array Bool)(i:Nat):Prop:=listed.getD i false=true
theorem On.lt{listed:Array Bool}{i:Nat}(h:On listed i):i<listed.size:=by
  unfold On at h
  rcases Nat.lt_or_ge i listed.size with h' | h'
  · exact h'
  · simp[Array.getElem?_eq_none h']at h
theorem on_set{listed:Array Bool}{i j:Nat}(hi:i<listed.size):On (listed.setIfInBounds i true) j↔j=i∨On listed j:=by
  unfold On
  by_cases h:i=j
  · subst h;simp[hi]
  · simp[Array.getElem?_setIfInBounds_ne h,Ne.symm h]
structure Inv (l : List Oper) (kill : Nat → List Nat) (C : Nat → World → Prop) (E : Array Bool → World → Prop) (Φ : Nat → Bn) (a0 : Act) (listed : Array Bool) (a : Act) (w : World) : Prop where
  size:listed.size=l.length
  closed:∀i o,l[i]? =some o→On listed i→∀e∈o.after,Region.binds .any e=true→On listed e.on
  defers:a.defers=a0.defers
  tmps:a.tmps.size=a0.tmps.size
  cls:∀n,n<l.length→¬On listed n→C n w
  ecl:E listed w
  old:∀t,(∀k o,l[k]? =some o→o.dst=some t→¬On listed k)→a.tmps.getD t undef=a0.tmps.getD t undef
  new:∀t k o,l[k]? =some o→o.dst=some t→On listed k→(∀k' o',k<k' →l[k']? =some o' →o'.dst=some t→¬On listed k')→(∀n,On listed n→k∉kill n)→Φ k (a.tmps.getD t undef) w
theorem Inv.mask{listed:Array Bool}{a:Act}{w:World}(h:Inv l kill C E Φ a0 listed a w):
    ∀(i k:Nat),On listed i→((Ba l []).getD i 0).testBit k=true→On listed k:=by
  intro i
  induction i using Nat.strongRecOn with
  | _ i ih=>
    intro k hi hk
    have hlt:i<l.length:=by have:=hi.lt;rw[h.size]at this;exact this
    have ho:l[i]? =some l[i]:=List.getElem?_eq_getElem hlt
    obtain⟨e,he,hb,hx⟩:=Hh l l [] (by simp) (by simp) (fun i o k hi=>by simp at hi) i l[i] k ho hk
    have hon:=h.closed i _ ho hi e he hb
    rcases hx with rfl | ⟨b,ht⟩
    · exact hon
    · exact ih e.on b k hon ht
theorem Inv.maskReady{listed:Array Bool}{a:Act}{w:World}(h:Inv l kill C E Φ a0 listed a w){i:Nat}{o:Oper}(ho:l[i]? =some o) 
    (hall:∀e∈o.after,Region.binds .any e=true→On listed e.on) {k:Nat} (hk:((Ba l []).getD i 0).testBit k=true):On listed k:=by
  obtain⟨e,he,hb,hx⟩:=Hh l l [] (by simp) (by simp) (fun i o k hi=>by simp at hi) i o k ho hk
  have hon:=hall e he hb
  rcases hx with rfl | ⟨_,ht⟩
  · exact hon
  · exact h.mask _ _ hon ht
theorem G9{t:Tmp}:∀(n:Nat),CH l t n=none→∀(k:Nat) (o:Oper),k<n→l[k]? =some o→o.dst≠some t
  | 0,_,k,o,hk,_=>by omega
  | n+1,h,k,o,hk,ho=>by
    unfold CH at h
    split at h
    · cases h
    · rename_i hne
      by_cases hkn:k=n
      · subst hkn;intro hd;simp[ho,hd]at hne
      · exact G9 n h k o (by omega) ho
theorem Da{t:Tmp}{k:Nat}:∀(n:Nat),CH l t n=some k→k<n∧(∃o,l[k]? =some o∧o.dst=some t)∧∀(k' :Nat) (o' :Oper),k<k' →k' <n→l[k']? =some o' →o'.dst≠some t
  | 0,h=>by cases h
  | n+1,h=>by
    unfold CH at h
    split at h
    · rename_i he
      have hkn:n=k:=Option.some.inj h
      subst hkn
      refine⟨by omega,?_,fun k' o' h1 h2=>by omega⟩
      cases ho:l[n]? with
      | none=>simp[ho]at he
      | some o=>exact⟨o,rfl,by simpa [ho] using he⟩
    · rename_i hne
      obtain⟨h1,h2,h3⟩:=Da n h
      refine⟨by omega,h2,fun k' o' hk hk' ho' hd=> ?_⟩
      by_cases he:k' =n
      · subst he;simp[ho',hd]at hne
      · exact h3 k' o' hk (by omega) ho' hd
theorem Inv.look(g:Fv l a0.tmps.size)(hkl:BW l kill=true){listed:Array Bool}{a:Act}{w:World}(h:Inv l kill C E Φ a0 listed a w){i:Nat}{o:Oper}(ho:l[i]? =some o)(hi:¬On listed i) 
    (hall:∀e∈o.after,Region.binds .any e=true→On listed e.on) (t:Tmp) (ht:t∈o.looksAt l.toArray):EV l Φ a0.tmps i t (a.tmps.getD t undef) w:=by
  have hlate:∀k o',i≤k→l[k]? =some o' →o'.dst=some t→¬On listed k:=fun k o' hk ho' hd hon=>by
    by_cases he:k=i
    · subst he;exact hi hon
    · exact hi (h.mask k i hon (g.tied k o' i o t ho' ho (by omega) (.inr ⟨hd,List.mem_append_right _ ht⟩)))
  unfold EV
  split
  · rename_i hw
    refine h.old t fun k o' ho' hd hon=> ?_
    by_cases hk:k<i
    · exact G9 _ hw k o' hk ho' hd
    · exact hlate k o' (by omega) ho' hd hon
  · rename_i k hw
    obtain⟨hk,⟨ok,hok,hdk⟩,hno⟩:=Da _ hw
    refine h.new t k ok hok hdk (h.maskReady ho hall (g.tied i o k ok t ho hok hk (.inl ⟨hdk,List.mem_append_right _ ht⟩))) (fun k' o' hkk ho' hd=> ?_) (fun n hon hkn=> ?_)
    · by_cases hki:k' <i
      · exact absurd hd (hno k' o' hkk hki ho')
      · exact hlate k' o' (by omega) ho' hd
    · have hne:n≠i:=fun e=>hi (e▸hon)
      exact hi (h.mask n i hon (Oz hkl i n k o t ho (by have:=hon.lt;rw[h.size]at this;exact this) hne hkn ht hw))
theorem Inv.put(g:Fv l a0.tmps.size)(hC:∀n m,n<l.length→m<l.length→n≠m→((Ba l []).getD n 0).testBit m=false→∀w w',C m w→R n w w' →C m w')(hE:∀n listed w w',n<l.length→listed.size=l.length→¬On listed n→(∀i k,On listed i∨i=n→((Ba l []).getD i 0).testBit k=true→On listed k)→E listed w→R n w w' →E (listed.setIfInBounds n true) w')(hΦ:∀n i,n<l.length→i<l.length→i∉kill n→i≠n→((Ba l []).getD i 0).testBit n=false→∀v w w',Φ i v w→R n w w' →Φ i v w'){listed:Array Bool}{a:Act}{w:World}(h:Inv l kill C E Φ a0 listed a w){i:Nat}{o:Oper}(ho:l[i]? =some o)(hi:¬On listed i) 
    (hall:∀e∈o.after,Region.binds .any e=true→On listed e.on) {v:Value} {w' :World} (hR:R i w w') (hv:Φ i v w'):Inv l kill C E Φ a0 (listed.setIfInBounds i true) (a.put o.dst v) w' :=by
  have hil:i<listed.size:=by rw[h.size];exact(List.getElem?_eq_some_iff.1 ho).1
  have hget:∀t,o.dst≠some t→(a.put o.dst v).tmps.getD t undef=a.tmps.getD t undef:=fun t ht=>by
    cases hd:o.dst with
    | none=>rfl
    | some d=>
      have hne:d≠t:=fun e=>ht (by rw[hd,e])
      simp[Act.put,Array.getElem?_setIfInBounds_ne hne]
  have hilen:i<l.length:=(List.getElem?_eq_some_iff.1 ho).1
  refine⟨by simpa using h.size,fun j oj hj hon e he hb=> ?_,?_,?_,fun m hm hno=> ?_,hE i listed w w' hilen h.size hi (fun j k hj hk=>hj.elim (fun hj=>h.mask j k hj hk) (fun hj=>by subst hj;exact h.maskReady ho hall hk)) h.ecl hR,fun t ht=> ?_,fun t k ok hk hd hon hlast hkl=> ?_⟩
  · rcases(on_set hil).1 hon with rfl | hon
    · obtain rfl:o=oj:=by rw[ho]at hj;exact Option.some.inj hj
      exact(on_set hil).2 (.inr (hall e he hb))
    · exact(on_set hil).2 (.inr (h.closed j oj hj hon e he hb))
  · cases hd:o.dst <;> exact h.defers
  · cases hd:o.dst with
    | none=>exact h.tmps
    | some d=>simpa [Act.put] using h.tmps
  · have hnm:i≠m:=fun e=>hno ((on_set hil).2 (.inl e.symm))
    have hoff:¬On listed m:=fun h' =>hno ((on_set hil).2 (.inr h'))
    refine hC i m hilen hm hnm ?_ _ _ (h.cls m hm hoff) hR
    cases hb:((Ba l []).getD i 0).testBit m with
    | false=>rfl
    | true=>exact absurd (h.maskReady ho hall hb) hoff
  · have hne:o.dst≠some t:=fun hd=>ht i o ho hd ((on_set hil).2 (.inl rfl))
    rw[hget t hne]
    exact h.old t fun k ok hk hd hon=>ht k ok hk hd ((on_set hil).2 (.inr hon))
  · by_cases hdt:o.dst=some t
    · by_cases hki:k=i
      · subst hki
        have hroom:=g.room k o t ho hdt
        have:(a.put o.dst v).tmps.getD t undef=v:=by
          rw[hdt]
          simp[Act.put,h.tmps,hroom]
        rw[this]
        exact hv
      · exfalso
        rcases(on_set hil).1 hon with he | hon
        · exact hki he
        · rcases Nat.lt_or_gt_of_ne hki with hlt | hgt
          · exact hlast i o hlt ho hdt ((on_set hil).2 (.inl rfl))
          · exact hi (h.mask k i hon (g.tied k ok i o t hk ho hgt (.inl ⟨hdt,List.mem_append_left _ (by simp[hd])⟩)))
    · have hki:k≠i:=fun e=>by subst e;rw[ho]at hk;cases hk;exact hdt hd
      rw[hget t hdt]
      have hkon:On listed k:=((on_set hil).1 hon).resolve_left hki
      have hmf:((Ba l []).getD k 0).testBit i=false:=by
        cases hb:((Ba l []).getD k 0).testBit i with
        | false=>rfl
        | true=>exact absurd (h.mask k i hkon hb) hi
      refine hΦ i k (List.getElem?_eq_some_iff.1 ho).1 (List.getElem?_eq_some_iff.1 hk).1 (hkl i ((on_set hil).2 (.inl rfl))) hki hmf _ _ _ (h.new t k ok hk hd (((on_set hil).1 hon).resolve_left hki) (fun k' o' hkk ho' hd' hon' => ?_) (fun n hn=>hkl n ((on_set hil).2 (.inr hn)))) hR
      exact hlast k' o' hkk ho' hd' ((on_set hil).2 (.inr hon'))

theorem L6(a:Act)(o:Oper):C0 l o (fun t=>a.tmps.getD t undef)=Region.wanted o (yielded l.toArray a.tmps):=by
  unfold C0 Region.wanted yielded
  cases hg:o.guard with
  | none=>rfl
  | some gw=>
    obtain⟨g,want⟩:=gw
    simp only[List.getElem?_toArray]
    cases hd:(l[g]?).bind (·.dst)with
    | none=>simp
    | some t=>
      simp only[Option.bind_some]
      cases hx:a.tmps[t]? with
      | none=>simp[Array.getD_eq_getD_getElem?,hx,undef]
      | some x=>cases x <;> simp[Array.getD_eq_getD_getElem?,hx]

theorem Inv.step(g:Fv l a0.tmps.size)(hkl:BW l kill=true)(hC:∀n m,n<l.length→m<l.length→n≠m→((Ba l []).getD n 0).testBit m=false→∀w w',C m w→R n w w' →C m w')(hE:∀n listed w w',n<l.length→listed.size=l.length→¬On listed n→(∀i k,On listed i∨i=n→((Ba l []).getD i 0).testBit k=true→On listed k)→E listed w→R n w w' →E (listed.setIfInBounds n true) w')(hΦ:∀n i,n<l.length→i<l.length→i∉kill n→i≠n→((Ba l []).getD i 0).testBit n=false→∀v w w',Φ i v w→R n w w' →Φ i v w')(hRr:∀n o w,l[n]? =some o→o.guard.isSome=true→R n w w){listed:Array Bool}{a:Act}{w:World}(h:Inv l kill C E Φ a0 listed a w){i:Nat}{o:Oper}(ho:l[i]? =some o)(hi:¬On listed i) 
    (hall:∀e∈o.after,Region.binds .any e=true→On listed e.on) (hs:Ez P l C R Φ a0.tmps i o) {K:Act→World→Prop} {Q:Exit→Act→World→Prop}
    (hK:∀a' w',Inv l kill C E Φ a0 (listed.setIfInBounds i true) a' w' →K a' w'):wpOp P l.toArray Q i K a w:=by
  have hst:=hs (fun t=>a.tmps.getD t undef) w (h.cls i (List.getElem?_eq_some_iff.1 ho).1 hi) (fun t ht=>h.look g hkl ho hi hall t ht)
  rw[L6,evalR_eq]at hst
  unfold wpOp
  simp only[List.getElem?_toArray,ho]
  by_cases hw:Region.wanted o (yielded l.toArray a.tmps)=true
  · rw[if_pos hw]at hst ⊢
    refine .inl ?_
    unfold Oper.wp
    generalize (execOp a.eval o).run P w=r at hst ⊢
    cases r with
    | halt x w' =>exact hst.elim
    | ok n w' =>
      cases n <;> simp only[Yk]at hst <;> simp only[Oper.upon]
      case value v=>exact hK _ _ (h.put g hC hE hΦ ho hi hall hst.1 hst.2)
      case skip=>exact hK _ _ (h.put g hC hE hΦ ho hi hall hst.1 hst.2)
      case enter f args=>
        refine hst.mono fun e w'' hx=> ?_
        obtain⟨v,rfl,h1,h2⟩:=hx
        exact hK _ _ (h.put g hC hE hΦ ho hi hall h1 h2)
  · rw[if_neg hw]at hst ⊢
    have hgs:o.guard.isSome=true:=by
      cases hgo:o.guard with
      | none=>exact absurd (by unfold Region.wanted;rw[hgo]) hw
      | some x=>rfl
    exact hK _ _ (h.put g hC hE hΦ ho hi hall (hRr i o w ho hgs) hst)

theorem Ee:∀(L:List Bool) (i:Nat),L[i]? =some false→((L.set i true).filter (!·)).length+1=(L.filter (!·)).length
  | [],i,h=>by simp at h
  | x :: L,0,h=>by simp at h;subst h;simp
  | x :: L,i+1,h=>by
    have ih:=Ee L i (by simpa using h)
    cases x <;> simp <;> omega
theorem DP:∀(L:List Bool),(L.filter (!·)).length=0→∀i:Nat,i<L.length→L[i]? =some true
  | [],_,i,h=>by simp at h
  | x :: L,h0,i,h=>by
    cases x
    · simp at h0
    · cases i with
      | zero=>rfl
      | succ i=>
        rw[List.getElem?_cons_succ]
        exact DP L (by simpa using h0) i (by simpa using h)

theorem O1(g:Fv l a0.tmps.size)(hkl:BW l kill=true)(hC:∀n m,n<l.length→m<l.length→n≠m→((Ba l []).getD n 0).testBit m=false→∀w w',C m w→R n w w' →C m w')(hE:∀n listed w w',n<l.length→listed.size=l.length→¬On listed n→(∀i k,On listed i∨i=n→((Ba l []).getD i 0).testBit k=true→On listed k)→E listed w→R n w w' →E (listed.setIfInBounds n true) w')(hΦ:∀n i,n<l.length→i<l.length→i∉kill n→i≠n→((Ba l []).getD i 0).testBit n=false→∀v w w',Φ i v w→R n w w' →Φ i v w')(hRr:∀n o w,l[n]? =some o→o.guard.isSome=true→R n w w)(hs:StepsOk P l C R Φ a0.tmps 0 l){Q:Exit→Act→World→Prop} 
    (hQ:∀listed a' w',(∀i,i<l.length→On listed i)→Inv l kill C E Φ a0 listed a' w' →Q .normal a' w'):
    ∀(fuel:Nat) (listed:Array Bool) (a:Act) (w:World),(listed.toList.filter (!·)).length=fuel→Inv l kill C E Φ a0 listed a w→wpAny P .any l.toArray Q fuel listed a w:=by
  have full:∀(listed:Array Bool) (a:Act) (w:World),Inv l kill C E Φ a0 listed a w→Region.ready .any l.toArray listed= []→∀i,i<l.length→On listed i:=by
    intro listed a w h hr i
    induction i using Nat.strongRecOn with
    | _ i ih=>
      intro hi
      refine Classical.byContradiction fun hno=> ?_
      have ho:l[i]? =some l[i]:=List.getElem?_eq_getElem hi
      have:i∈Region.ready .any l.toArray listed:=by
        refine mem_ready.2 ⟨?_,l[i],by rw[List.getElem?_toArray];exact ho,fun e he hb=> ?_⟩
        · have hi' :i<listed.size:=by rw[h.size];exact hi
          unfold On at hno
          simp[hi']at hno ⊢
          exact hno
        · have hlt:=g.back i _ ho e he hb
          exact ih e.on hlt (by omega)
      rw[hr]at this
      cases this
  intro fuel
  induction fuel with
  | zero=>
    intro listed a w hf h
    have hon:∀i,i<l.length→On listed i:=fun i hi=>by
      have:=DP _ hf i (by rw[Array.length_toList,h.size];exact hi)
      unfold On
      simp at this
      simp[this]
    have hr:Region.ready .any l.toArray listed= []:=by
      cases hr:Region.ready .any l.toArray listed with
      | nil=>rfl
      | cons x xs=>
        exfalso
        have hm:x∈Region.ready .any l.toArray listed:=by rw[hr];simp
        obtain⟨h1,o,ho,_⟩:=mem_ready.1 hm
        have hx:x<l.length:=by simpa using (Array.getElem?_eq_some_iff.1 ho).1
        have h2:=hon x hx
        have hx' :x<listed.size:=h2.lt
        unfold On at h2
        simp[hx']at h1 h2
        rw[h1]at h2
        cases h2
    exact⟨hr,hQ _ _ _ hon h⟩
  | succ fuel ih=>
    intro listed a w hf h
    refine⟨fun hr=>hQ _ _ _ (full listed a w h hr) h,fun i hi=> ?_⟩
    obtain⟨h1,o,ho,hall⟩:=mem_ready.1 hi
    have ho' :l[i]? =some o:=by simpa using ho
    have hil:i<listed.size:=by rw[h.size];exact(List.getElem?_eq_some_iff.1 ho').1
    have hno:¬On listed i:=by
      unfold On
      simp[hil]at h1 ⊢
      exact h1
    have hst:=hs.get l 0 i o ho'
    rw[Nat.zero_add]at hst
    refine h.step g hkl hC hE hΦ hRr ho' hno (fun e he hb=>hall e he hb) hst fun a' w' h' =>ih _ _ _ ?_ h'
    rw[Array.toList_setIfInBounds]
    have:=Ee listed.toList i (by
      simp[hil]at h1
      simp[hil,h1])
    omega

def slotsW(l:List Oper):List Tmp:=(l.filterMap (·.dst)).eraseDups
def C2(T:Array Value)(ds:List Tmp)(u:Tmp→Value):Array Value:=ds.foldl (fun T d=>T.setIfInBounds d (u d)) T
theorem CJ(u:Tmp→Value):∀(ds:List Tmp) (T:Array Value),(C2 T ds u).size=T.size
  | [],T=>rfl
  | d :: ds,T=>by unfold C2;rw[List.foldl_cons];exact(CJ u ds _).trans (by simp)
theorem Gj(u:Tmp→Value)(t:Tmp):∀(ds:List Tmp) (T:Array Value),t<T.size→(C2 T ds u).getD t undef=if t∈ds then u t else T.getD t undef
  | [],T,_=>by simp[C2]
  | d :: ds,T,ht=>by
    have ih:=Gj u t ds (T.setIfInBounds d (u d)) (by simpa using ht)
    unfold C2 at ih ⊢
    rw[List.foldl_cons,ih]
    by_cases h1:t∈ds
    · simp[h1]
    · by_cases h2:t=d
      · subst h2;simp[h1,ht]
      · simp[h1,h2,Array.getElem?_setIfInBounds_ne (Ne.symm h2)]
def Bb(l:List Oper)(kill:Nat→List Nat)(Φ:Nat→Bn)(u:Tmp→Value)(w:World):List Tmp→Prop
  | []=>True
  | d :: ds=>(match CH l d l.length with | some k=>if(List.range l.length).all (fun n=> !(kill n).contains k)=true then Φ k (u d) w else True | none=>True)∧Bb l kill Φ u w ds
theorem Dx{u:Tmp→Value}{w:World}(h:∀d k,CH l d l.length=some k→(List.range l.length).all (fun n=> !(kill n).contains k)=true→Φ k (u d) w):∀ds,Bb l kill Φ u w ds
  | []=>trivial
  | d :: ds=>⟨by split;(split;(exact h d _ ‹_› ‹_›);trivial);trivial,Dx h ds⟩

theorem O2(T:Array Value)(df:List Deferred){Q:Exit→Act→World→Prop}(ds:List Tmp)(hds:slotsW l=ds) 
    (hQ:∀(u:Tmp→Value) listed w',(∀i,i<l.length→On listed i)→E listed w' →Bb l kill Φ u w' ds→Q .normal { tmps:=C2 T ds u,defers:=df } w'):
    ∀listed a' w',(∀i,i<l.length→On listed i)→Inv l kill C E Φ { tmps:=T,defers:=df } listed a' w' →Q .normal a' w' :=by
  intro listed a' w' hon h
  have hw:∀d k,CH l d l.length=some k→(List.range l.length).all (fun n=> !(kill n).contains k)=true→Φ k (a'.tmps.getD d undef) w' :=fun d k hk hall=>by
    obtain⟨h1,⟨o,ho,hd⟩,h3⟩:=Da _ hk
    refine h.new d k o ho hd (hon k h1) (fun k' o' hkk ho' hd' _=>h3 k' o' hkk (List.getElem?_eq_some_iff.1 ho').1 ho' hd') (fun n hn hkn=> ?_)
    have hnl:n<l.length:=by have:=hn.lt;rw[h.size]at this;exact this
    have:=List.all_eq_true.1 hall n (by simpa using hnl)
    simp at this
    exact this hkn
  have hq:=hQ (fun t=>a'.tmps.getD t undef) listed w' hon h.ecl (Dx hw ds)
  have he:a' = { tmps:=C2 T ds (fun t=>a'.tmps.getD t undef),defers:=df } :=by
    have h1:a'.tmps=C2 T ds (fun t=>a'.tmps.getD t undef):=by
      apply Array.ext (by rw[CJ];exact h.tmps)
      intro t ht1 ht2
      have ht3:t<T.size:=by rw[CJ]at ht2;exact ht2
      have hx:=Gj (fun t=>a'.tmps.getD t undef) t ds T ht3
      have a:∀(A:Array Value) (ht:t<A.size),A.getD t undef=A[t]:=fun A ht=>by
        rw[Array.getD_eq_getD_getElem?,Array.getElem?_eq_getElem ht,Option.getD_some]
      rw[a _ ht2]at hx
      by_cases hn:t∈ds
      · rw[if_pos hn,a _ ht1]at hx
        exact hx.symm
      · rw[if_neg hn,a _ ht3]at hx
        have ho:a'.tmps.getD t undef=T.getD t undef:=h.old t fun k o ho hd _=>hn (by
          rw[←hds]
          unfold slotsW
          rw[List.mem_eraseDups,List.mem_filterMap]
          exact⟨o,List.mem_of_getElem? ho,hd⟩)
        rw[a _ ht1,a _ ht3]at ho
        exact ho.trans hx.symm
    have h2:=h.defers
    cases a'
    simp only at h1 h2
    subst h2
    rw[←h1]
  rw[he]
  exact hq
theorem Df(kill:Nat→List Nat)(C:Nat→World→Prop)(E:Array Bool→World→Prop)(R:Nat→World→World→Prop)(Φ:Nat→Bn){id:Nat}{Q:Exit→Act→World→Prop}{w:World}(hm:P.follows .mixedOrders=true)(T:Array Value)(df:List Deferred) 
    (hg:B7 l T.size=true) (hkl:BW l kill=true) (ds:List Tmp) (hds:slotsW l=ds) (hC:∀n m,n<l.length→m<l.length→n≠m→((Ba l []).getD n 0).testBit m=false→∀w w',C m w→R n w w' →C m w') (hE:∀n listed w w',n<l.length→listed.size=l.length→¬On listed n→(∀i k,On listed i∨i=n→((Ba l []).getD i 0).testBit k=true→On listed k)→E listed w→R n w w' →E (listed.setIfInBounds n true) w') (hΦ:∀n i,n<l.length→i<l.length→i∉kill n→i≠n→((Ba l []).getD i 0).testBit n=false→∀v w w',Φ i v w→R n w w' →Φ i v w') (hRr:∀n o w,l[n]? =some o→o.guard.isSome=true→R n w w)
    (h0:∀n,n<l.length→C n { w with drawn:=w.drawn+1 }) (h1:E (Array.replicate l.toArray.size false) { w with drawn:=w.drawn+1 })
    (hs:StepsOk P l C R Φ T 0 l)
    (hQ:∀(u:Tmp→Value) listed w',(∀i,i<l.length→On listed i)→E listed w' →Bb l kill Φ u w' ds→Q .normal { tmps:=C2 T ds u,defers:=df } w'):(Code.region id l.toArray true).wp P Q { tmps:=T,defers:=df } w:=by
  have g:=ET hg
  refine wp_region_any hm (O1 (a0:= { tmps:=T,defers:=df }) g hkl hC hE hΦ hRr hs (fun listed a' w' hon h=> ?_) _ _ _ _ (by simp) ?_)
  · exact O2 T df ds hds hQ listed a' w' hon h
  · have hno:∀i,¬On (Array.replicate l.toArray.size false) i:=fun i h=>by
      unfold On at h
      rw[Array.getD_eq_getD_getElem?,Array.getElem?_replicate]at h
      split at h <;> simp at h
    exact⟨Array.size_replicate,fun i o _ h=>absurd h (hno i),rfl,rfl,fun n hn _=>h0 n hn,h1,fun t _=>rfl,fun t k o _ _ h=>absurd h (hno k)⟩
theorem Fc(kill:Nat→List Nat)(C:World→Prop)(R:Nat→World→World→Prop)(Φ:Nat→Bn){id:Nat}{Q:Exit→Act→World→Prop}{w:World}(hm:P.follows .mixedOrders=true)(T:Array Value)(df:List Deferred) 
    (hg:B7 l T.size=true) (hkl:BW l kill=true) (ds:List Tmp) (hds:slotsW l=ds) (hC:∀n w w',C w→R n w w' →C w') (hΦ:∀n i,n<l.length→i<l.length→i∉kill n→i≠n→((Ba l []).getD i 0).testBit n=false→∀v w w',Φ i v w→R n w w' →Φ i v w') (hRr:∀n o w,l[n]? =some o→o.guard.isSome=true→R n w w) (h0:C { w with drawn:=w.drawn+1 })
    (hs:StepsOk P l (fun _=>C) R Φ T 0 l)
    (hQ:∀(u:Tmp→Value) w',C w' →Bb l kill Φ u w' ds→Q .normal { tmps:=C2 T ds u,defers:=df } w'):(Code.region id l.toArray true).wp P Q { tmps:=T,defers:=df } w:=
  Df kill (fun _=>C) (fun _=>C) R Φ hm T df hg hkl ds hds (fun n _ _ _ _ _=>hC n) (fun n _ w w' _ _ _ _=>hC n w w') hΦ hRr (fun _ _=>h0) h0 hs (fun u _ w' _=>hQ u w')
theorem EW{C:Nat→World→Prop}{R:Nat→World→World→Prop}{T:Array Value}{n:Nat}{o:Oper}(hg:o.guard=none) 
    (h:∀ρ w,C n w→(∀t∈o.looksAt l.toArray,EV l Φ T n t (ρ t) w)→Yk P (fun v w' =>R n w w' ∧Φ n v w') ((execOp (Ad ρ) o).run P w)):Ez P l C R Φ T n o:=by
  intro ρ w hC hl
  have:C0 l o ρ=true:=by unfold C0;rw[hg]
  rw[if_pos this]
  exact h ρ w hC hl
theorem Yk.value{K:Value→World→Prop}{r:Result Next}{v:Value}{w' :World}(hr:r = .ok (.value v) w')(h:K v w'):Yk P K r:=by rw[hr];exact h
theorem Yk.enter{K:Value→World→Prop}{r:Result Next}{f:FuncId}{args:Array Value}{w' :World}(hr:r = .ok (.enter f args) w')(h:Calls P f args w' fun e w'' =>∃v,e = .returned v∧K v w''):Yk P K r:=by rw[hr];exact h
end
def A2(P:Program)(f:FuncId):Prop:=∀xs w,(callFunc f xs).run P w = .ok (.enter f xs) w
theorem Gk{P:Program}{f:FuncId}(hp:A2 P f)(ρ:Operand→Value)(args:List Operand)(at_:Array TypeId)(dst:Option Tmp)(ty:TypeId)(pos:String)(af:Array Edge)(gd:Option (Nat × Bool))(w:World) 
    (hρ:ρ (.func f) = .func (.func f) #[] #[]):(execOp ρ ⟨dst, .call ⟨.value (.func f),args.toArray,at_⟩,ty,pos,af,gd⟩).run P w = .ok (.enter f (args.map ρ).toArray) w:=by
  simp[execOp,resolve,invoke,Deferred.ofValue,hρ,hp _ w]
theorem Yk.call{P:Program}{K:Value→World→Prop}{f:FuncId}(hp:A2 P f){ρ:Tmp→Value}{args:List Operand}{at_:Array TypeId}{dst:Option Tmp}{ty:TypeId}{pos:String}{af:Array Edge}{gd:Option (Nat × Bool)}{w:World} 
    (h:Calls P f (args.map (Ad ρ)).toArray w fun e w'' =>∃v,e = .returned v∧K v w''):Yk P K ((execOp (Ad ρ) ⟨dst, .call ⟨.value (.func f),args.toArray,at_⟩,ty,pos,af,gd⟩).run P w):=
  Yk.enter (Gk hp (Ad ρ) args at_ dst ty pos af gd w rfl) h

def Stab(R:World→World→Prop)(φ:Bn):Prop:=∀v w w',φ v w→R w w' →φ v w'
theorem Stab.is{R:World→World→Prop}(v:Value):Stab R (Is v):=fun _ _ _ h _=>h
theorem Stab.any{R:World→World→Prop}:Stab R (fun _ _=>True):=fun _ _ _ _ _=>trivial
def AllStab(R:World→World→Prop):List Bn→Prop
  | []=>True
  | φ :: r=>Stab R φ∧AllStab R r
theorem Ef{R:World→World→Prop}{a b:Value}{Φs:List Bn}(h:AllStab R Φs):AllStab R (Is a :: Is b :: Φs):=⟨Stab.is _,Stab.is _,h⟩
theorem DV{R:World→World→Prop}{a b c:Value}{Φs:List Bn}(h:AllStab R Φs):AllStab R (Is a :: Is b :: Is c :: Φs):=⟨Stab.is _,Stab.is _,Stab.is _,h⟩
theorem Gl{R:World→World→Prop}{a b c e:Value}{Φs:List Bn}(h:AllStab R Φs):AllStab R (Is a :: Is b :: Is c :: Is e :: Φs):=⟨Stab.is _,Stab.is _,Stab.is _,Stab.is _,h⟩
theorem Iw{R:World→World→Prop}{a b c e f:Value}{Φs:List Bn}(h:AllStab R Φs):AllStab R (Is a :: Is b :: Is c :: Is e :: Is f :: Φs):=⟨Stab.is _,Stab.is _,Stab.is _,Stab.is _,Stab.is _,h⟩
theorem Gd{R:World→World→Prop}{a b c e f g:Value}{Φs:List Bn}(h:AllStab R Φs):AllStab R (Is a :: Is b :: Is c :: Is e :: Is f :: Is g :: Φs):=⟨Stab.is _,Stab.is _,Stab.is _,Stab.is _,Stab.is _,Stab.is _,h⟩
theorem HC{R:World→World→Prop}{a b c e f g i:Value}{Φs:List Bn}(h:AllStab R Φs):AllStab R (Is a :: Is b :: Is c :: Is e :: Is f :: Is g :: Is i :: Φs):=⟨Stab.is _,Stab.is _,Stab.is _,Stab.is _,Stab.is _,Stab.is _,Stab.is _,h⟩
theorem KS{R:World→World→Prop}{a b c e f g i j:Value}{Φs:List Bn}(h:AllStab R Φs):AllStab R (Is a :: Is b :: Is c :: Is e :: Is f :: Is g :: Is i :: Is j :: Φs):=⟨Stab.is _,Stab.is _,Stab.is _,Stab.is _,Stab.is _,Stab.is _,Stab.is _,Stab.is _,h⟩
theorem FF{R:World→World→Prop}{a b c e f g i j k:Value}{Φs:List Bn}(h:AllStab R Φs):AllStab R (Is a :: Is b :: Is c :: Is e :: Is f :: Is g :: Is i :: Is j :: Is k :: Φs):=⟨Stab.is _,Stab.is _,Stab.is _,Stab.is _,Stab.is _,Stab.is _,Stab.is _,Stab.is _,Stab.is _,h⟩
theorem Lo{R:World→World→Prop}{a b c e f g i j k l:Value}{Φs:List Bn}(h:AllStab R Φs):AllStab R (Is a :: Is b :: Is c :: Is e :: Is f :: Is g :: Is i :: Is j :: Is k :: Is l :: Φs):=⟨Stab.is _,Stab.is _,Stab.is _,Stab.is _,Stab.is _,Stab.is _,Stab.is _,Stab.is _,Stab.is _,Stab.is _,h⟩
theorem Ct{R:World→World→Prop}{a b c e f g i j k l m n:Value}{Φs:List Bn}(h:AllStab R Φs):AllStab R (Is a :: Is b :: Is c :: Is e :: Is f :: Is g :: Is i :: Is j :: Is k :: Is l :: Is m :: Is n :: Φs):=⟨Stab.is _,Stab.is _,Stab.is _,Stab.is _,Stab.is _,Stab.is _,Stab.is _,Stab.is _,Stab.is _,Stab.is _,Stab.is _,Stab.is _,h⟩
theorem AllStab.get{R:World→World→Prop}:∀(Φs:List Bn),AllStab R Φs→∀i,Stab R (Φs.getD i (fun _ _=>True))
  | [],_,i=>by simpa using Stab.any
  | φ :: r,h,0=>h.1
  | φ :: r,h,i+1=>by simpa using AllStab.get r h.2 i
def AQ(Φs:List Bn)(i:Nat):Bn:=Φs.getD i (fun _ _=>True)
def Ext(w w' :World):Prop:=Below w.heap.size w w'
theorem Ext.refl(w:World):Ext w w:=Below.refl _ _
theorem Ext.trans{a b c:World}(h:Ext a b)(k:Ext b c):Ext a c:=Below.trans h (k.mono h.size)

theorem I9{P:Program}{l:List Oper}(Φs:List Bn){id:Nat}{Q:Exit→Act→World→Prop}{w:World}(hm:P.follows .mixedOrders=true)(T:Array Value)(df:List Deferred) 
    (hg:B7 l T.size=true) (ds:List Tmp) (hds:slotsW l=ds) (hst:AllStab Ext Φs) (hs:StepsOk P l (fun _=>Ext w) (fun _=>Ext) (AQ Φs) T 0 l)
    (hQ:∀(u:Tmp→Value) w',Ext w w' →Bb l (fun _=> []) (AQ Φs) u w' ds→Q .normal { tmps:=C2 T ds u,defers:=df } w'):(Code.region id l.toArray true).wp P Q { tmps:=T,defers:=df } w:=
  Fc (fun _=> []) (Ext w) (fun _=>Ext) (AQ Φs) hm T df hg
    (by unfold BW;simp) ds hds (fun _ _ _ h k=>h.trans k) (fun _ i _ _ _ _ _=>hst.get Φs i) (fun _ _ w _ _=>Ext.refl w) (Below.refl _ _).drew hs hQ
def C3(l:List Oper)(n:Nat):Bool:=l.length==n+1&&(List.range n).all fun m=>((Ba l []).getD n 0).testBit m
theorem CO{l:List Oper}{n:Nat}(h:C3 l n=true):l.length=n+1∧∀m,m<n→((Ba l []).getD n 0).testBit m=true:=by
  unfold C3 at h
  simp only[Bool.and_eq_true,beq_iff_eq,List.all_eq_true,List.mem_range]at h
  exact h
theorem On.not_replicate{n i:Nat}:¬On (Array.replicate n false) i:=fun h=>by
  unfold On at h
  rw[Array.getD_eq_getD_getElem?,Array.getElem?_replicate]at h
  split at h <;> simp at h
open Classical in
theorem Or{l:List Oper}{n:Nat}(hn:C3 l n=true){S:World→World→Prop}{w:World}(k:Nat)(listed:Array Bool)(w1 w' :World)(hk:k<l.length)(hsz:listed.size=l.length)(hoff:¬On listed k) 
    (hm:∀i j,On listed i∨i=k→((Ba l []).getD i 0).testBit j=true→On listed j) (hE:if On listed n then ∃a,Ext w a∧S a w1 else Ext w w1) (hR:(if k=n then S else Ext) w1 w'):
    if On (listed.setIfInBounds k true) n then ∃a,Ext w a∧S a w' else Ext w w' :=by
  obtain⟨hl,hb⟩:=CO hn
  by_cases hkn:k=n
  · subst hkn
    rw[if_neg hoff]at hE
    rw[if_pos rfl]at hR
    by_cases h:On (listed.setIfInBounds k true) k
    · rw[if_pos h];exact⟨_,hE,hR⟩
    · exact absurd ((on_set (by omega)).2 (.inl rfl)) h
  · have hno:¬On listed n:=fun h=>hoff (hm n k (.inl h) (hb k (by omega)))
    rw[if_neg hno]at hE
    rw[if_neg hkn]at hR
    rw[if_neg]
    · exact hE.trans hR
    · intro h
      exact((on_set (by omega)).1 h).elim (fun e=>hkn e.symm) hno
open Classical in
theorem HE{P:Program}{l:List Oper}(n:Nat)(S:World→World→Prop)(Φs:List Bn){id:Nat}{Q:Exit→Act→World→Prop}{w:World}(hm:P.follows .mixedOrders=true)(T:Array Value)(df:List Deferred) 
    (hg:B7 l T.size=true) (hn:C3 l n=true) (ds:List Tmp) (hds:slotsW l=ds) (hSr:(l[n]?.bind (·.guard))=none) (hst:AllStab Ext Φs) (hsS:AllStab S Φs) (hs:StepsOk P l (fun _=>Ext w) (fun k=>if k=n then S else Ext) (AQ Φs) T 0 l)
    (hQ:∀(u:Tmp→Value) w1 w',Ext w w1→S w1 w' →Bb l (fun _=> []) (AQ Φs) u w' ds→Q .normal { tmps:=C2 T ds u,defers:=df } w'):(Code.region id l.toArray true).wp P Q { tmps:=T,defers:=df } w:=by
  obtain⟨hl,hb⟩:=CO hn
  refine Df (fun _=> []) (fun _=>Ext w) (fun listed w' =>if On listed n then ∃a,Ext w a∧S a w' else Ext w w') (fun k=>if k=n then S else Ext) (AQ Φs) hm T df hg (by unfold BW;simp) ds hds
    (fun k m hk hm hne hbit w1 w' hc hr=> ?_) (fun k listed w1 w' hk hsz hoff hm hE hR=>Or hn k listed w1 w' hk hsz hoff hm hE hR) (fun k i _ _ _ _ _ v w1 w' => ?_) (fun k o w1 ho hgo=> ?_) (fun _ _=>(Below.refl _ _).drew) (by rw[if_neg On.not_replicate];exact(Below.refl _ _).drew) hs (fun u listed w' hall hE=> ?_)
  · by_cases hkn:k=n
    · subst hkn
      rw[hb m (by omega)]at hbit
      cases hbit
    · rw[if_neg hkn]at hr
      exact hc.trans hr
  · by_cases hkn:k=n
    · rw[if_pos hkn];exact hsS.get Φs i v w1 w'
    · rw[if_neg hkn];exact hst.get Φs i v w1 w'
  · by_cases hkn:k=n
    · subst hkn;rw[ho]at hSr;simp only[Option.bind_some]at hSr;rw[hSr]at hgo;cases hgo
    · rw[if_neg hkn];exact Ext.refl w1
  · rw[if_pos (hall n (by omega))]at hE
    obtain⟨w1,h1,h2⟩:=hE
    exact hQ u w1 w' h1 h2
open Classical in
def Jp(l:List Oper)(k:Nat):Bool:=((List.range k).all fun m=>((Ba l []).getD k 0).testBit m)&&((List.range l.length).all fun i=>decide (i≤k)||((Ba l []).getD i 0).testBit k)
theorem Jq{l:List Oper}{k:Nat}(h:Jp l k=true):(∀m,m<k→((Ba l []).getD k 0).testBit m=true)∧∀i,k<i→i<l.length→((Ba l []).getD i 0).testBit k=true:=by
  unfold Jp at h
  simp only[Bool.and_eq_true,List.all_eq_true,List.mem_range,Bool.or_eq_true,decide_eq_true_eq]at h
  exact⟨h.1,fun i hi hl=>(h.2 i hl).resolve_left (by omega)⟩
theorem Ja{P:Program}{l:List Oper}(k:Nat)(Φs:List Bn){id:Nat}{Q:Exit→Act→World→Prop}{w:World}(hm:P.follows .mixedOrders=true)(T:Array Value)(df:List Deferred) 
    (hg:B7 l T.size=true) (hk:Jp l k=true) (ds:List Tmp) (hds:slotsW l=ds) (hst:AllStab Ext Φs) (hsT:AllStab (fun _ _=>True) (Φs.take k)) (hgk:(l[k]?.bind (·.guard))=none)
    (hs:StepsOk P l (fun m=>if m≤k then Ext w else fun _=>True) (fun n=>if n=k then fun _ _=>True else Ext) (AQ Φs) T 0 l)
    (hQ:∀(u:Tmp→Value) w',Bb l (fun _=> []) (AQ Φs) u w' ds→Q .normal { tmps:=C2 T ds u,defers:=df } w'):(Code.region id l.toArray true).wp P Q { tmps:=T,defers:=df } w:=by
  have hm1:=Jq hk
  refine Df (fun _=> []) (fun m=>if m≤k then Ext w else fun _=>True) (fun _ _=>True) (fun n=>if n=k then fun _ _=>True else Ext) (AQ Φs) hm T df hg (by unfold BW;simp) ds hds
    (fun n m hn hm hne hbit w1 w' hc hr=> ?_) (fun _ _ _ _ _ _ _ _ _ _=>trivial) (fun n i hn hi _ hine hbit v w1 w' => ?_) (fun n o w1 ho hgo=> ?_) (fun n _=> ?_) trivial hs (fun u listed w' _ _=>hQ u w')
  · by_cases hmk:m≤k
    · rw[if_pos hmk]at hc ⊢
      by_cases hnk:n=k
      · subst hnk
        rw[hm1.1 m (by omega)]at hbit
        cases hbit
      · rw[if_neg hnk]at hr
        exact hc.trans hr
    · rw[if_neg hmk]
      trivial
  · by_cases hnk:n=k
    · rw[if_pos hnk]
      subst hnk
      by_cases hik:i<n
      · have:=hsT.get _ i v w1 w'
        rw[show AQ Φs i=(Φs.take n).getD i (fun _ _=>True) by simp[AQ,List.getD_eq_getElem?_getD,hik]]
        exact this
      · rw[hm1.2 i (by omega) hi]at hbit
        cases hbit
    · rw[if_neg hnk];exact hst.get Φs i v w1 w'
  · by_cases hnk:n=k
    · subst hnk;rw[ho]at hgk;simp only[Option.bind_some]at hgk;rw[hgk]at hgo;cases hgo
    · rw[if_neg hnk];exact Ext.refl w1
  · by_cases hnk:n≤k
    · rw[if_pos hnk];exact(Below.refl _ _).drew
    · rw[if_neg hnk];trivial
theorem Ie{P:Program}{l:List Oper}(ks:List Nat)(kill:Nat→List Nat)(C:World→Prop)(Rk:World→World→Prop)(Φs:List Bn){id:Nat}{Q:Exit→Act→World→Prop}{w:World}(hm:P.follows .mixedOrders=true)(T:Array Value)(df:List Deferred) 
    (hg:B7 l T.size=true) (hkl:BW l kill=true) (ds:List Tmp) (hds:slotsW l=ds) (hC:∀w w',C w→Ext w w' →C w') (hCk:∀w w',C w→Rk w w' →C w') (hRk:∀w,Rk w w) (h0:C w.drew) (hst:AllStab Ext Φs)
    (hsk:∀n i,n∈ks→i<l.length→i∉kill n→i≠n→((Ba l []).getD i 0).testBit n=false→Stab Rk (AQ Φs i))
    (hs:StepsOk P l (fun _=>C) (fun n=>if n∈ks then Rk else Ext) (AQ Φs) T 0 l)
    (hQ:∀(u:Tmp→Value) w',C w' →Bb l kill (AQ Φs) u w' ds→Q .normal { tmps:=C2 T ds u,defers:=df } w'):(Code.region id l.toArray true).wp P Q { tmps:=T,defers:=df } w:=by
  refine Fc kill C (fun n=>if n∈ks then Rk else Ext) (AQ Φs) hm T df hg hkl ds hds (fun n w w' h k=> ?_) (fun n i _ hi hk hne hb=> ?_) (fun n _ w _ _=> ?_) h0 hs hQ
  · by_cases hn:n∈ks
    · rw[if_pos hn]at k;exact hCk _ _ h k
    · rw[if_neg hn]at k;exact hC _ _ h k
  · by_cases hn:n∈ks
    · rw[if_pos hn];exact hsk n i hn hi hk hne hb
    · rw[if_neg hn];exact hst.get Φs i
  · by_cases hn:n∈ks
    · rw[if_pos hn];exact hRk w
    · rw[if_neg hn];exact Ext.refl w
open Go.RowKit
variable {P : Program}
theorem Jr{w:World}{src dst e:TypeId}(hs:P.underlying src=some (.slice e))(he:P.underlying e=some (.int .u8))(hd:P.underlying dst=some .string){v:Value}{l:List UInt8}(h:RB w v l):
    (convert src dst v).run P w = .ok (.string ⟨l.toArray⟩) w:=by
  obtain⟨h1,ao,cap,rfl,h2,h3,h4,h5⟩:=h
  cases ao with
  | none=>
    obtain⟨h6,rfl⟩:=h4 rfl
    have:l= []:=List.eq_nil_of_length_eq_zero h6
    subst this
    rw[run_convert_bytes_string w src dst e _ _ _ hs he hd]
    simp[Conv.bytesToString,Sem.run_pure]
    rfl
  | some a=>exact run_convert_bytes_back w src dst e a cap l hs he hd (fun j hj=>h5 a rfl j _ (by simp[Lib.byteCells,hj]))
theorem Kp{ops:Array Oper}{rest:List Oper}{o:Oper}{a:Act}{w:World}{Q:Exit→Act→World→Prop}(hgd:o.guard=none)(src dst:TypeId)(x:Operand)(ho:o.op = .convert src dst x) 
    {e:TypeId} (hs:P.underlying src=some (.slice e)) (he:P.underlying e=some (.int .u8)) (hd:P.underlying dst=some .string) (v:Value) (l:List UInt8) (hx:a.eval x=v) (h:RB w v l)
    (hK:wpList P ops Q rest (a.put o.dst (.string ⟨l.toArray⟩)) w):wpList P ops Q (o :: rest) a w:=
  wpList_plain hgd fun K hK' =>by
    have hr:=Jr (P:=P) hs he hd h
    unfold Oper.wp execOp
    simp only[ho,hx,hr,Sem.run_bind,Sem.run_pure,Result.andThen_ok]
    exact hK' _ _ hK

theorem Yk.append{K:Value→World→Prop}{ρ:Tmp→Value}(s x:Operand){t tx:TypeId}{d:Option Tmp}{ty:TypeId}{pos:String}{af:Array Edge}{gd:Option (Nat × Bool)}{w:World} 
    (base:Nat) (e:TypeId) (z:Value) (size bytes:Nat) (ht:P.underlying t=some (.slice e)) (hi:(P.info? e).map (fun i=>(i.zero,i.size,i.bytes))=some (some z,size,bytes)) (hzs:z.cells.size=size)
    (n:Nat) (xs:List Value) (hown:w.ownsRow base e size (Ad ρ s) n xs) (m:Nat) (news:List Value) (hsrc:Src P size tx (Ad ρ x) m news w)
    (h63:n+m≤maxLen) (hbytes:(n+m)*bytes≤140737488355328) (hbase:base≤w.heap.size)
    (h:∀v' w',w'.ownsRow base e size v' (n+m) (xs++news)→Grew w w' (Ad ρ s) v' →K v' w'):
    Yk P K ((execOp (Ad ρ) ⟨d, .call ⟨.builtin .append,[s,x].toArray,[t,tx].toArray⟩,ty,pos,af,gd⟩).run P w):=by
  obtain⟨i,hi,hz,hsize,hby⟩:=info_parts hi
  obtain⟨v',w',hr,h2,h3⟩:=FD (P:=P) w base t tx ty e i z size bytes ht hi hz hsize hby hzs (Ad ρ s) n xs hown (Ad ρ x) m news hsrc h63 hbytes hbase
  refine Yk.value (v:=v') (w' :=w') ?_ (h v' w' h2 h3)
  unfold execOp
  simp only[resolve,invoke,builtin,Sem.run_bind,Sem.run_pure,Result.andThen_ok,List.map_toArray,List.map_cons,List.map_nil,hr]

theorem Stab.rb(l:List UInt8):Stab Ext (fun x w=>RB w x l):=fun _ _ _ h k=>h.keep k
theorem Ext.grown{w w' :World}(h:Ext w w'):w.grownBy w' none:=⟨h.os,h.tape,h.output,h.size,fun k hk _=>h.block k hk⟩
theorem Ext.of{w w' :World}(h:w.grownBy w' none):Ext w w' :=(Below.refl _ _).grown h (Nat.le_refl _) (fun k hk=>by cases hk)
theorem Stab.own(base:Nat)(e:TypeId)(size:Nat)(n:Nat)(xs:List Value):Stab Ext (fun x w=>w.ownsRow base e size x n xs):=fun v _ _ h k=>h.kept k.grown (by cases v.ownBlock <;> simp)
theorem NewB.ext{e:TypeId}{w w' :World}{v:Value}{l:List UInt8}(h:NewB e w w' v l):Ext w w' :=h.below

theorem Ext.blk'{w w' :World}(h:Ext w w'){b:Nat}{o:Obj}(hb:w.heap[b]? =some o):w'.heap[b]? =some o:=
  (h.block b (Array.getElem?_eq_some_iff.1 hb).1).trans hb
theorem eb{w w' :World}(h:Ext w w'){b:Nat}{o:Obj}(hb:w.heap[b]? =some o):w'.heap[b]? =some o:=Ext.blk' h hb
theorem Yk.copyB{K:Value→World→Prop}{ρ:Tmp→Value}(s x:Operand){dT sT elem:TypeId}{d:Option Tmp}{ty:TypeId}{pos:String}{af:Array Edge}{gd:Option (Nat × Bool)}{w:World} 
    (hu:P.underlying dT=some (.slice elem)) (hsz:(P.info? elem).map (·.size)=some 1) {g o dLen dCap:Nat} (hs:Ad ρ s = .slice (some ⟨g,o,none⟩) dLen dCap) {l:List UInt8} (hx:RB w (Ad ρ x) l)
    {cur:Array Value} {t:TypeId} (hg:w.heap[g]? =some (.cells cur t (0,0))) (hfit:o+Nat.min l.length dLen≤cur.size)
    (h:K (goInt (Nat.min l.length dLen)) (w.setRow g (cur.toList.take o++Lib.byteCells (l.take dLen)++cur.toList.drop (o+Nat.min l.length dLen)).toArray)):
    Yk P K ((execOp (Ad ρ) ⟨d, .call ⟨.builtin .copy,[s,x].toArray,[dT,sT].toArray⟩,ty,pos,af,gd⟩).run P w):=by
  obtain⟨h1,ao,cap,hv,h2,h3,h4,h5⟩:=hx
  have hlen:(Lib.byteCells (l.take dLen)).length=Nat.min l.length dLen:=by rw[Lib.byteCells_length,List.length_take];exact Nat.min_comm _ _
  refine Yk.value (v:=goInt (Nat.min l.length dLen)) (w' :=w.setRow g (cur.toList.take o++Lib.byteCells (l.take dLen)++cur.toList.drop (o+Nat.min l.length dLen)).toArray) ?_ h
  have hrun:(Builtin.copy_ #[dT,sT] ty #[.slice (some ⟨g,o,none⟩) dLen dCap, .slice ao l.length cap]).run P w = .ok (goInt (Nat.min l.length dLen)) (w.setRow g (cur.toList.take o++Lib.byteCells (l.take dLen)++cur.toList.drop (o+Nat.min l.length dLen)).toArray):=by
    cases ao with
    | none=>
      obtain⟨h6,rfl⟩:=h4 rfl
      have:l= []:=List.eq_nil_of_length_eq_zero h6
      subst this
      have hr:=run_copy_nil (P:=P) w dT sT ty elem ⟨g,o,none⟩ dLen dCap hu (by rw[hsz];rfl)
      have e:(cur.toList.take o++Lib.byteCells ([].take dLen)++cur.toList.drop (o+Nat.min ([]:List UInt8).length dLen)).toArray=cur:=by
        simp[Lib.byteCells]
      rw[e,setRow_self w g cur t (0,0) hg]
      simpa using hr
    | some a=>
      have hr:=run_copy_row (P:=P) w dT sT ty elem g o dLen dCap a l.length cap cur t (Lib.byteCells (l.take dLen)) hu hsz hg hlen (fun j v hj=>h5 a rfl j v (by
        have hj' :=hj
        simp only[Lib.byteCells,List.map_take,List.getElem?_take]at hj'
        split at hj'
        · exact hj'
        · cases hj')) (by rw[hlen];exact hfit) (AF _)
      rw[hlen]at hr
      exact hr
  unfold execOp
  simp only[resolve,invoke,builtin,Sem.run_bind,Sem.run_pure,Result.andThen_ok,List.map_toArray,List.map_cons,List.map_nil,hs,hv,hrun]

theorem Gm{ops:Array Oper}{rest:List Oper}{o:Oper}{a:Act}{w:World}{Q:Exit→Act→World→Prop}(hgd:o.guard=none)(v:Value)(w' :World)(hr:(execOp a.eval o).run P w = .ok (.value v) w') 
    (h:wpList P ops Q rest (a.put o.dst v) w'):wpList P ops Q (o :: rest) a w:=
  wpList_plain hgd fun K hK=>by
    unfold Oper.wp
    rw[hr]
    exact hK _ _ h
/-! ### Whole arrays and structs in blocks of their own -/
theorem Fd(w:World)(g:Nat)(ty:TypeId)(cells cur:Array Value)(t:TypeId)(hg:w.heap[g]? =some (.cells cur t (0,0)))(hs:cells.size=cur.size)(hi:(P.info? ty).map (·.size)=some cells.size)(h1:∀v∈cells.toList,v.oneCell' =true):
    (Instr.storeAt ty (.pointer (some ⟨g,0,none⟩)) (.agg cells)).run P w = .ok () (w.setRow g cells):=by
  have hst:=run_storeCells_at P g 0 t cells.toList 0 cur w hg (by simp[hs]) h1
  have e:(cur.toList.take (0+0)++cells.toList++cur.toList.drop (0+0+cells.toList.length)).toArray=cells:=by
    simp
    rw[List.drop_of_length_le (by simp[hs])]
    simp
  rw[e]at hst
  cases hq:P.info? ty with
  | none=>simp[hq]at hi
  | some i=>
    have hs:cells.size=i.size:=by simp[hq]at hi;omega
    simp[Instr.storeAt,Instr.sureAddr,storeVar,sizeOf,typeInfo,hq,Value.cells,hs,hst]
theorem Hi{ops:Array Oper}{rest:List Oper}{o:Oper}{a:Act}{w:World}{Q:Exit→Act→World→Prop}(hgd:o.guard=none)(ty:TypeId)(x y:Operand)(ho:o.op = .store ty x y) 
    (g:Nat) (hx:a.eval x = .pointer (some ⟨g,0,none⟩)) (cells cur:Array Value) (t:TypeId) (hy:a.eval y = .agg cells) (hg:w.heap[g]? =some (.cells cur t (0,0))) (hs:cells.size=cur.size) (hi:(P.info? ty).map (·.size)=some cells.size) (h1:∀v∈cells.toList,v.oneCell' =true)
    (h:wpList P ops Q rest (a.put o.dst undef) (w.setRow g cells)):wpList P ops Q (o :: rest) a w:=
  wpList_plain hgd fun K hK=>by
    have hr:=Fd (P:=P) w g ty cells cur t hg hs hi h1
    unfold Oper.wp execOp
    simp only[ho,hx,hy,hr,Sem.run_bind,Sem.run_pure,Result.andThen_ok]
    exact hK _ _ h
theorem EJ{ops:Array Oper}{rest:List Oper}{o:Oper}{a:Act}{w:World}{Q:Exit→Act→World→Prop}(hgd:o.guard=none)(ty:TypeId)(x y:Operand)(ho:o.op = .store ty x y) 
    (g:Nat) (hx:a.eval x = .pointer (some ⟨g,0,none⟩)) (cells:Array Value) (t:TypeId) (hy:a.eval y = .agg cells) (hg:w.heap[g]? =some (.cells cells t (0,0))) (hi:(P.info? ty).map (·.size)=some cells.size) (h1:∀v∈cells.toList,v.oneCell' =true)
    (h:wpList P ops Q rest (a.put o.dst undef) w):wpList P ops Q (o :: rest) a w:=
  Hi hgd ty x y ho g hx cells cells t hy hg rfl hi h1 (by rw[setRow_self w g cells t (0,0) hg];exact h)
theorem Ge{fn:Func}{p q r:Tmp}{ty:TypeId}(h:fn.results = #[.cell p ty, .tmp q, .tmp r])(tmps:Array Value)(w:World)(g:Nat)(t:TypeId)(cs:Array Value)(fr:Nat × Nat)(d:TypeDesc) 
    (hp:tmps.getD p undef = .pointer (some ⟨g,0,none⟩)) (hg:w.heap[g]? =some (.cells cs t fr))
    (hu:P.underlying ty=some d) (hd:(match d with | .struct _ | .array _ _=>true | _=>false)=true) (hi:(P.info? ty).map (·.size)=some cs.size):
    (results fn tmps).run P w = .ok (.tuple #[.agg cs,tmps.getD q undef,tmps.getD r undef]) w:=by
  have hp' :tmps[p]?.getD undef = .pointer (some ⟨g,0,none⟩):=by simpa using hp
  simp[results,h,hp',asAddr,run_loadVar_row w g t ty cs fr d hg hu hd hi]
/-! ### Slices of slices -/
theorem EX(a:Addr)(m n:Nat):(a.add m).add n=a.add (m+n):=by
  cases a with
  | mk b o sp=>
    unfold Addr.add
    split <;> split <;> simp_all
    all_goals (try omega)
theorem C4{t e:TypeId}{size:Nat}(ht:P.underlying t=some (.slice e))(he:∀w' :World,(sizeOf e).run P w' = .ok size w'){w:World}{v:Value}{n:Nat}{xs:List Value}(hr:Reads w size v n xs)(lo hi:Option Value)(l h:Nat)(hlh:l≤h)(hn:h≤n) 
    (hlo:lo=none∧l=0∨∃k,lo=some (.int k l)) (hhi:hi=none∧h=n∨∃k,hi=some (.int k h)):
    ∃ao c,((Instr.sliceAt t v lo hi none).run P w = .ok (.slice ao (h-l) c) w∧(Value.slice ao (h-l) c).ownBlock=v.ownBlock)∧Reads w size (.slice ao (h-l) c) (h-l) ((xs.drop (l*size)).take ((h-l)*size)):=by
  obtain⟨h1,ao,cap,rfl,h2,h3,h4,h5⟩:=hr
  have hE:P.elem t=e:=by simp[Program.elem,ht]
  have ht' :P.underlying t=some (.slice (P.elem t)):=by rw[hE];exact ht
  refine⟨if cap=l then ao else ao.map (·.add (l*size)),cap-l,⟨?_,?_⟩,?_,_,_,rfl,by omega,by omega,?_,?_⟩
  · rw[run_sliceAt_slice (P:=P) w t _ _ _ _ ht']
    have hl' :(l:Int)≤(h:Int):=by omega
    have hh' :(h:Int)≤(cap:Int):=by omega
    have hn' :(l:Int)≤(n:Int):=by omega
    rcases hlo with ⟨rfl,rfl⟩ | ⟨k,rfl⟩ <;> rcases hhi with ⟨rfl,rfl⟩ | ⟨k',rfl⟩
    · rw[run_slice_all (P:=P) w t ao h cap ht',hE,he]
      simp[Result.andThen,sliced]
    · rw[run_slice_h (P:=P) w t ao n cap ht' k' h (by omega) hh',hE,he]
      simp[Result.andThen,sliced]
    · rw[run_slice_l (P:=P) w t ao h cap ht' k l (by omega) hl',hE,he]
      simp[Result.andThen,sliced]
    · rw[run_slice_lh (P:=P) w t ao n cap ht' k k' l h (by omega) hl' hh',hE,he]
      simp[Result.andThen,sliced]
  · cases ao with
    | none=>simp[Value.ownBlock]
    | some x=>
      split
      · rfl
      · simp only[Option.map_some,Value.ownBlock,Option.some.injEq]
        unfold Addr.add
        split <;> rfl
  · rw[List.length_take,List.length_drop,h1]
    have:(h-l)*size≤n*size-l*size:=by rw[←Nat.sub_mul];exact Nat.mul_le_mul_right _ (by omega)
    omega
  · intro hnone
    have:ao=none:=by
      cases ao with
      | none=>rfl
      | some x=>split at hnone <;> simp at hnone
    obtain⟨h6,h7⟩:=h4 this
    omega
  · intro a ha j u hu
    have hj:j<((xs.drop (l*size)).take ((h-l)*size)).length:=(List.getElem?_eq_some_iff.1 hu).1
    have hj2:j<(h-l)*size:=by rw[List.length_take]at hj;omega
    have hhl:h-l≠0:=fun e=>by rw[e]at hj2;simp at hj2
    rw[if_neg (by omega)]at ha
    cases ao with
    | none=>simp at ha
    | some x=>
      simp at ha
      subst ha
      rw[EX]
      refine h5 x rfl _ _ ?_
      rw[List.getElem?_take,if_pos hj2,List.getElem?_drop]at hu
      exact hu
theorem G7{t e:TypeId}{size:Nat}(ht:P.underlying t=some (.slice e))(he:∀w' :World,(sizeOf e).run P w' = .ok size w'){w:World}{v:Value}{n:Nat}{xs:List Value}(hr:Reads w size v n xs)(lo hi:Option Value)(l h:Nat)(hlh:l≤h)(hn:h≤n) 
    (hlo:lo=none∧l=0∨∃k,lo=some (.int k l)) (hhi:hi=none∧h=n∨∃k,hi=some (.int k h)):
    ∃ao c,(Instr.sliceAt t v lo hi none).run P w = .ok (.slice ao (h-l) c) w∧Reads w size (.slice ao (h-l) c) (h-l) ((xs.drop (l*size)).take ((h-l)*size)):=by
  obtain⟨ao,c,h1,h2⟩:=C4 ht he hr lo hi l h hlh hn hlo hhi
  exact⟨ao,c,h1.1,h2⟩
theorem RB.take_drop{w:World}{v:Value}{xs:List UInt8}{l h:Nat}(hn:h≤xs.length)(hR:Reads w 1 v (h-l) (((Lib.byteCells xs).drop (l*1)).take ((h-l)*1))):RB w v ((xs.drop l).take (h-l)):=by
  have a:((xs.drop l).take (h-l)).length=h-l:=by rw[List.length_take,List.length_drop];omega
  unfold RB
  rw[a]
  have b:Lib.byteCells ((xs.drop l).take (h-l))=((Lib.byteCells xs).drop (l*1)).take ((h-l)*1):=by
    simp[Lib.byteCells,List.map_take,List.map_drop]
  rw[b]
  exact hR
theorem RB.kept{w w' :World}{v:Value}{l:List UInt8}(h:RB w v l){row:Option Nat}(hg:w.grownBy w' row)(hv:v.ownBlock=none∨v.ownBlock≠row):RB w' v l:=by
  obtain⟨h1,ao,cap,rfl,h2,h3,h4,h5⟩:=h
  refine⟨h1,ao,cap,rfl,h2,h3,h4,fun a ha j u hu=> ?_⟩
  have hc:=h5 a ha j u hu
  subst ha
  have hlt:=World.block_lt_of_cell? w _ hc
  have hbl:(a.add j).block=a.block:=by unfold Addr.add;split <;> rfl
  have hne:(some a.block)≠row:=by
    rcases hv with hv | hv
    · cases hv
    · exact hv
  rw[hbl]at hlt
  rw[World.cell?_of_block (w:=w) (by rw[hbl];exact hg.block a.block hlt hne)]
  exact hc
theorem Js{w w' :World}(h:w.grownBy w' none)(row:Option Nat):w.grownBy w' row:=⟨h.os,h.tape,h.output,h.size,fun k hk _=>h.block k hk (by simp)⟩
theorem Ha{t e:TypeId}(ht:P.underlying t=some (.slice e))(he:∀w' :World,(sizeOf e).run P w' = .ok 1 w'){w:World}{v:Value}{xs:List UInt8}(hr:RB w v xs)(lo hi:Option Value)(l h:Nat)(hlh:l≤h)(hn:h≤xs.length) 
    (hlo:lo=none∧l=0∨∃k,lo=some (.int k l)) (hhi:hi=none∧h=xs.length∨∃k,hi=some (.int k h)):
    ∃ao c,(Instr.sliceAt t v lo hi none).run P w = .ok (.slice ao (h-l) c) w∧RB w (.slice ao (h-l) c) ((xs.drop l).take (h-l)):=by
  obtain⟨ao,c,hrun,hR⟩:=G7 ht he hr lo hi l h hlh hn hlo hhi
  refine⟨ao,c,hrun,?_⟩
  have a:((xs.drop l).take (h-l)).length=h-l:=by rw[List.length_take,List.length_drop];omega
  unfold RB
  rw[a]
  have b:Lib.byteCells ((xs.drop l).take (h-l))=((Lib.byteCells xs).drop (l*1)).take ((h-l)*1):=by
    simp[Lib.byteCells,List.map_take,List.map_drop]
  rw[b]
  exact hR
theorem FG{ops:Array Oper}{rest:List Oper}{o:Oper}{a:Act}{w:World}{Q:Exit→Act→World→Prop}(hgd:o.guard=none)(t:TypeId)(x:Operand)(lo hi:Option Operand)(ho:o.op = .slice t x lo hi none) 
    {e:TypeId} (ht:P.underlying t=some (.slice e)) (he:∀w' :World,(sizeOf e).run P w' = .ok 1 w') (v:Value) (xs:List UInt8) (hx:a.eval x=v) (hr:RB w v xs) (l h:Nat) (hlh:l≤h) (hn:h≤xs.length)
    (hlo:lo.map a.eval=none∧l=0∨∃k,lo.map a.eval=some (.int k l)) (hhi:hi.map a.eval=none∧h=xs.length∨∃k,hi.map a.eval=some (.int k h))
    (hK:∀ao c,RB w (.slice ao (h-l) c) ((xs.drop l).take (h-l))→wpList P ops Q rest (a.put o.dst (.slice ao (h-l) c)) w):wpList P ops Q (o :: rest) a w:=
  wpList_plain hgd fun K hK' =>by
    obtain⟨ao,c,hrun,hR⟩:=Ha ht he hr (lo.map a.eval) (hi.map a.eval) l h hlh hn hlo hhi
    unfold Oper.wp execOp
    simp only[ho,hx,Option.map_none,hrun,Sem.run_bind,Sem.run_pure,Result.andThen_ok]
    exact hK' _ _ (hK ao c hR)
theorem RB.open_{w:World}{v:Value}{l:List UInt8}(h:RB w v l)(hl:0<l.length):∃b off cap,v = .slice (some ⟨b,off,none⟩) l.length cap∧l.length≤cap∧cap≤9223372036854775807∧b<w.heap.size∧∀i,i<l.length→w.cell? ⟨b,off+i,none⟩=some (.int .u8 ((l.getD i 0).toNat:Int)):=by
  obtain⟨h1,ao,cap,rfl,h2,h3,h4,h5⟩:=h
  cases ao with
  | none=>have:=(h4 rfl).1;omega
  | some a=>
    obtain⟨b,off,sp⟩:=a
    have hc:∀i,i<l.length→w.cell? ((⟨b,off,sp⟩:Addr).add i)=some (.int .u8 ((l.getD i 0).toNat:Int)):=fun i hi=>h5 _ rfl i _ (by simp[Lib.byteCells,hi])
    have hsp:sp=none:=by
      have:=hc 0 hl
      simpa [Addr.add] using World.cell?_spot this
    subst hsp
    refine⟨b,off,cap,rfl,h2,by simpa [maxLen] using h3,World.block_lt_of_cell? w _ (hc 0 hl),fun i hi=> ?_⟩
    have:=hc i hi
    rwa [Addr.add_lit]at this
theorem Yk.reslice{K:Value→World→Prop}{ρ:Tmp→Value}{t e:TypeId}{x:Operand}{lo hi:Option Operand}{d:Option Tmp}{ty:TypeId}{pos:String}{af:Array Edge}{gd:Option (Nat × Bool)}{w:World} 
    (ht:P.underlying t=some (.slice e)) (he:∀w' :World,(sizeOf e).run P w' = .ok 1 w') {xs:List UInt8} (hr:RB w (Ad ρ x) xs) (l h:Nat) (hlh:l≤h) (hn:h≤xs.length)
    (hlo:lo.map (Ad ρ)=none∧l=0∨∃k,lo.map (Ad ρ)=some (.int k l)) (hhi:hi.map (Ad ρ)=none∧h=xs.length∨∃k,hi.map (Ad ρ)=some (.int k h))
    (hK:∀ao c,RB w (.slice ao (h-l) c) ((xs.drop l).take (h-l))→K (.slice ao (h-l) c) w):Yk P K ((execOp (Ad ρ) ⟨d, .slice t x lo hi none,ty,pos,af,gd⟩).run P w):=by
  obtain⟨ao,c,hrun,hR⟩:=Ha ht he hr (lo.map (Ad ρ)) (hi.map (Ad ρ)) l h hlh hn hlo hhi
  refine Yk.value (v:= .slice ao (h-l) c) (w' :=w) ?_ (hK ao c hR)
  unfold execOp
  simp only[Option.map_none,hrun,Sem.run_bind,Sem.run_pure,Result.andThen_ok]
open Go.RowKit
abbrev Aq:=Tmp→Value
def Pf(ρ:Aq)(d:Tmp)(v:Value):Aq:=fun t=>cond (Nat.beq t d) v (ρ t)
def Cb(ρ:Aq)(d:Option Tmp)(v:Value):Aq:=match d with
  | none=>ρ
  | some d=>Pf ρ d v
structure Fits (n : Nat) (ρ : Aq) (a : Act) : Prop where
  size:a.tmps.size=n
  defers:a.defers= []
  get:∀t,a.tmps.getD t undef=ρ t
theorem Fits.eval{n:Nat}{ρ:Aq}{a:Act}(h:Fits n ρ a):a.eval=Ad ρ:=by
  funext x
  cases x with
  | tmp t=>exact h.get t
  | _=>rfl
theorem Fits.put{n:Nat}{ρ:Aq}{a:Act}(h:Fits n ρ a)(d:Option Tmp)(hd:∀t,d=some t→t<n)(v:Value):Fits n (Cb ρ d v) (a.put d v):=by
  cases d with
  | none=>exact h
  | some d=>
    have hdn:=hd d rfl
    refine⟨by simp[Act.put,h.size],h.defers,fun t=> ?_⟩
    have hg:=h.get t
    simp only[Cb,Pf,Act.put,Array.getD_eq_getD_getElem?,Array.getElem?_setIfInBounds,h.size]at hg ⊢
    by_cases htd:t=d
    · subst htd
      simp[hdn]
    · have hb:Nat.beq t d=false:=by
        cases hb:Nat.beq t d with
        | false=>rfl
        | true=>exact absurd (Nat.eq_of_beq_eq_true hb) htd
      rw[hb,if_neg (fun e=>htd e.symm)]
      exact hg

theorem Ix{T:Array Value}{d:Nat}{b:Bool}(h:T.getD d undef = .bool b):T[d]? =some (.bool b):=by
  rw[Array.getD_eq_getD_getElem?]at h
  cases hx:T[d]? with
  | none=>rw[hx]at h;cases h
  | some x=>rw[hx]at h;simp at h;rw[h]
abbrev B9:=Exit→Aq→World→Prop
def B2(P:Program)(n:Nat)(c:Code)(Q:B9)(ρ:Aq)(w:World):Prop:=
  ∀a,Fits n ρ a→c.wp P (fun e a' w' =>∃ρ',Fits n ρ' a' ∧Q e ρ' w') a w
def Fe(K:Aq→World→Prop)(Q:B9):B9
  | .normal,ρ,w=>K ρ w
  | e,ρ,w=>Q e ρ w
def D9(id:Nat)(Q:B9):B9
  | .exit id',ρ,w=>if id' =id then Q .normal ρ w else Q (.exit id') ρ w
  | e,ρ,w=>Q e ρ w
section
variable {P : Program} {n : Nat} {Q : B9} {ρ : Aq} {w : World}
theorem Ah(h:Q .normal ρ w):B2 P n .skip Q ρ w:=fun _ ha=>wp_skip ⟨ρ,ha,h⟩
theorem AJ{id:Nat}(h:Q (.exit id) ρ w):B2 P n (.exit id) Q ρ w:=fun _ ha=>wp_exit ⟨ρ,ha,h⟩
theorem As(h:Q .ret ρ w):B2 P n .ret Q ρ w:=fun _ ha=>wp_ret ⟨ρ,ha,h⟩
theorem OA{x y:Code}(h:B2 P n x (Fe (B2 P n y Q) Q) ρ w):B2 P n (.seq x y) Q ρ w:=fun a ha=>
  wp_seq (wp_mono (h a ha) fun e a' w' ⟨ρ',hf,hQ⟩=>by
    cases e with
    | normal=>exact hQ a' hf
    | _=>exact⟨ρ',hf,hQ⟩)
theorem sk{x y:Code}(h:∀K:Aq→World→Prop,(∀ρ w,B2 P n y Q ρ w→K ρ w)→B2 P n x (Fe K Q) ρ w):B2 P n (.seq x y) Q ρ w:=OA (h _ fun _ _ h=>h)
theorem AE{c:Operand}{x y:Code}(hc:Ad ρ c = .bool true)(h:B2 P n x Q ρ w):B2 P n (.cond c x y) Q ρ w:=fun a ha=>wp_cond_true (by rw[ha.eval];exact hc) (h a ha)
theorem Ar{c:Operand}{x y:Code}(hc:Ad ρ c = .bool false)(h:B2 P n y Q ρ w):B2 P n (.cond c x y) Q ρ w:=fun a ha=>wp_cond_false (by rw[ha.eval];exact hc) (h a ha)
theorem AO{c:Operand}{x y:Code}(p:Prop)[Decidable p](hc:Ad ρ c = .bool (decide p))(h1:p→B2 P n x Q ρ w)(h2:¬p→B2 P n y Q ρ w):B2 P n (.cond c x y) Q ρ w:=by
  by_cases hp:p
  · exact AE (by rw[hc,decide_eq_true hp]) (h1 hp)
  · exact Ar (by rw[hc,decide_eq_false hp]) (h2 hp)
theorem Iy{c:Operand}{x y:Code}(b:Bool)(hc:Ad ρ c = .bool b)(h1:b=true→B2 P n x Q ρ w)(h2:b=false→B2 P n y Q ρ w):B2 P n (.cond c x y) Q ρ w:=by
  cases b
  · exact Ar hc (h2 rfl)
  · exact AE hc (h1 rfl)
theorem Aj{id:Nat}{c:Code}(h:B2 P n c (D9 id Q) ρ w):B2 P n (.block id c) Q ρ w:=fun a ha=>
  wp_block (wp_mono (h a ha) fun e a' w' ⟨ρ',hf,hQ⟩=>by
    cases e with
    | exit id' =>
      simp only[D9]at hQ
      simp only[Exit.inBlock]
      split at hQ
      · rw[if_pos ‹_›];exact⟨ρ',hf,hQ⟩
      · rw[if_neg ‹_›];exact⟨ρ',hf,hQ⟩
    | _=>exact⟨ρ',hf,hQ⟩)
theorem AX{c:Code}(I:Aq→World→Prop)(μ:Aq→World→Nat)(h0:I ρ w) 
    (round:∀ρ w,I ρ w→B2 P n c (Fe (fun ρ' w' =>I ρ' w' ∧μ ρ' w' <μ ρ w) Q) ρ w):B2 P n (.loop c) Q ρ w:=by
  intro a ha
  refine wp_loop (fun a w=>∃ρ,Fits n ρ a∧I ρ w) (fun a w=>μ (fun t=>a.tmps.getD t undef) w) ⟨ρ,ha,h0⟩ ?_
  rintro a w ⟨ρ,hf,hI⟩
  have he:(fun t=>a.tmps.getD t undef)=ρ:=funext hf.get
  refine wp_mono (round ρ w hI a hf) fun e a' w' ⟨ρ',hf',hQ⟩=> ?_
  cases e with
  | normal=>exact⟨⟨ρ',hf',hQ.1⟩,by rw[he,show(fun t=>a'.tmps.getD t undef)=ρ' from funext hf'.get];exact hQ.2⟩
  | _=>exact⟨ρ',hf',hQ⟩

/-! ### A region in the order of the text, operation by operation -/
def Dm(P:Program)(ops:Array Oper)(n:Nat)(Q:B9)(l:List Oper)(ρ:Aq)(w:World):Prop:=
  ∀a,Fits n ρ a→wpList P ops (fun e a' w' =>∃ρ',Fits n ρ' a' ∧Q e ρ' w') l a w
def Pm(l:List Oper)(n:Nat):Bool:=l.all fun o=>match o.dst with | some d=>Nat.blt d n | none=>true
theorem wt{id:Nat}{l:List Oper}(h:Dm P l.toArray n Q l ρ w):B2 P n (.region id l.toArray false) Q ρ w:=fun a ha=>wp_region_lit (h a ha)
theorem oZ{ops:Array Oper}(h:Q .normal ρ w):Dm P ops n Q [] ρ w:=fun _ ha=>⟨ρ,ha,h⟩
theorem oS{ops:Array Oper}{rest:List Oper}{dst:Option Tmp}{op:Op}{ty:TypeId}{pos:String}{af:Array Edge}(hd:(match dst with | some d=>Nat.blt d n | none=>true)=true) 
    (h:Yk P (fun v w' =>Dm P ops n Q rest (Cb ρ dst v) w') ((execOp (Ad ρ) ⟨dst,op,ty,pos,af,none⟩).run P w)):Dm P ops n Q (⟨dst,op,ty,pos,af,none⟩ :: rest) ρ w:=by
  intro a ha
  have hdn:∀t,dst=some t→t<n:=fun t ht=>by subst ht;exact Nat.le_of_ble_eq_true hd
  refine wpList_plain rfl fun K hK=> ?_
  unfold Oper.wp Oper.upon
  rw[ha.eval]
  have hput:=fun v=>ha.put dst hdn v
  revert h
  generalize (execOp (Ad ρ) ⟨dst,op,ty,pos,af,none⟩).run P w=r
  intro h
  match r,h with
  | .ok (.value v) w',h=>exact hK _ _ (h _ (hput v))
  | .ok .skip w',h=>exact hK _ _ (h _ (hput undef))
  | .ok (.enter f args) w',h=>
    refine Calls.mono h ?_
    rintro e w'' ⟨v,rfl,hk⟩
    exact hK _ _ (hk _ (hput v))
theorem oY{ops:Array Oper}{rest:List Oper}{dst:Option Tmp}{op:Op}{ty:TypeId}{pos:String}{af:Array Edge}{g:Nat}{want:Bool}{d:Tmp}(hd:(match dst with | some d=>Nat.blt d n | none=>true)=true)(hg:(ops[g]?).bind (·.dst)=some d)(hv:ρ d = .bool want) 
    (h:Yk P (fun v w' =>Dm P ops n Q rest (Cb ρ dst v) w') ((execOp (Ad ρ) ⟨dst,op,ty,pos,af,some (g,want)⟩).run P w)):Dm P ops n Q (⟨dst,op,ty,pos,af,some (g,want)⟩ :: rest) ρ w:=by
  intro a ha
  have hdn:∀t,dst=some t→t<n:=fun t ht=>by subst ht;exact Nat.le_of_ble_eq_true hd
  have hw:Region.wanted ⟨dst,op,ty,pos,af,some (g,want)⟩ (yielded ops a.tmps)=true:=by
    have:=Ix ((ha.get d).trans hv)
    simp only[Region.wanted,yielded,hg]
    simp[this]
  refine wpList_step fun K hK=> ?_
  rw[if_pos hw]
  unfold Oper.wp Oper.upon
  rw[ha.eval]
  have hput:=fun v=>ha.put dst hdn v
  revert h
  generalize (execOp (Ad ρ) ⟨dst,op,ty,pos,af,some (g,want)⟩).run P w=r
  intro h
  match r,h with
  | .ok (.value v) w',h=>exact hK _ _ (h _ (hput v))
  | .ok .skip w',h=>exact hK _ _ (h _ (hput undef))
  | .ok (.enter f args) w',h=>
    refine Calls.mono h ?_
    rintro e w'' ⟨v,rfl,hk⟩
    exact hK _ _ (hk _ (hput v))
theorem oN{ops:Array Oper}{rest:List Oper}{o:Oper}{g:Nat}{want b:Bool}{d:Tmp}(hgd:o.guard=some (g,want))(hd:(match o.dst with | some d=>Nat.blt d n | none=>true)=true)(hg:(ops[g]?).bind (·.dst)=some d)(hv:ρ d = .bool b)(hb:(b==want)=false) 
    (h:Dm P ops n Q rest (Cb ρ o.dst undef) w):Dm P ops n Q (o :: rest) ρ w:=by
  intro a ha
  have hdn:∀t,o.dst=some t→t<n:=fun t ht=>by rw[ht]at hd;exact Nat.le_of_ble_eq_true hd
  have hw:Region.wanted o (yielded ops a.tmps)=false:=by
    have:=Ix ((ha.get d).trans hv)
    simp only[Region.wanted,hgd,yielded,hg]
    simpa [this] using hb
  refine wpList_step fun K hK=> ?_
  rw[if_neg (by rw[hw];simp)]
  exact hK _ _ (h _ (ha.put o.dst hdn undef))

/-! ### A region that draws its order, by facts -/
def GW(l:List Oper)(Φ:Nat→Bn)(ρ:Aq)(n:Nat)(t:Tmp)(x:Value)(w:World):Prop:=
  match CH l t n with
  | none=>x=ρ t
  | some k=>Φ k x w
def D4(P:Program)(l:List Oper)(C:Nat→World→Prop)(R:Nat→World→World→Prop)(Φ:Nat→Bn)(ρ:Aq)(n:Nat)(o:Oper):Prop:=
  ∀(σ:Aq) (w:World),C n w→(∀t∈o.looksAt l.toArray,GW l Φ ρ n t (σ t) w) →
    if C0 l o σ=true then Yk P (fun v w' =>R n w w' ∧Φ n v w') ((execOp (Ad σ) o).run P w)else Φ n undef w
def StepsF(P:Program)(l:List Oper)(C:Nat→World→Prop)(R:Nat→World→World→Prop)(Φ:Nat→Bn)(ρ:Aq):Nat→List Oper→Prop
  | _,[]=>True
  | n,o :: r=>D4 P l C R Φ ρ n o∧StepsF P l C R Φ ρ (n+1) r
theorem StepsF.ok{l:List Oper}{C:Nat→World→Prop}{R:Nat→World→World→Prop}{Φ:Nat→Bn}{T:Array Value}(hT:∀t,T.getD t undef=ρ t):∀(r:List Oper) (k:Nat),StepsF P l C R Φ ρ k r→StepsOk P l C R Φ T k r
  | [],_,_=>trivial
  | o :: r,k,h=>⟨fun σ w hC hl=>h.1 σ w hC (fun t ht=>by
      have:=hl t ht
      unfold EV at this
      unfold GW
      split
      · rename_i e;rw[e]at this;rw[←hT];exact this
      · rename_i e;rw[e]at this;exact this),StepsF.ok hT r (k+1) h.2⟩
theorem DW{T:Array Value}(hT:∀t,T.getD t undef=ρ t)(ds:List Tmp)(hds:∀d∈ds,d<T.size)(u:Aq):∀t,(C2 T ds u).getD t undef=if t∈ds then u t else ρ t:=fun t=>by
  by_cases ht:t<T.size
  · rw[Gj u t ds T ht,←hT]
  · have h1:(C2 T ds u).getD t undef=undef:=by
      rw[Array.getD_eq_getD_getElem?,Array.getElem?_eq_none (by rw[CJ];omega),Option.getD_none]
    have h2:T.getD t undef=undef:=by rw[Array.getD_eq_getD_getElem?,Array.getElem?_eq_none (by omega),Option.getD_none]
    rw[h1,if_neg (fun h=>ht (hds t h)),←hT,h2]
theorem EA{l:List Oper}{n:Nat}(hg:B7 l n=true)(ds:List Tmp)(hds:slotsW l=ds):∀d∈ds,d<n:=by
  intro d hd
  rw[←hds]at hd
  unfold slotsW at hd
  rw[List.mem_eraseDups,List.mem_filterMap]at hd
  obtain⟨o,ho,hod⟩:=hd
  obtain⟨j,hj⟩:=List.getElem?_of_mem ho
  exact(ET hg).room j o d hj hod
structure EndF (ds : List Tmp) (ρ ρ' : Aq) : Prop where
  old:∀t,ds.contains t=false→ρ' t=ρ t
theorem EndF.at_{ds:List Tmp}{ρ ρ' :Aq}(h:EndF ds ρ ρ'){t:Tmp}{v:Value}(hv:ρ t=v)(ht:ds.contains t=false):ρ' t=v:=(h.old t ht).trans hv
theorem Be{l:List Oper}(Φs:List Bn){id:Nat}(hm:P.follows .mixedOrders=true)(ds:List Tmp)(hg:B7 l n=true)(hds:slotsW l=ds)(hst:AllStab Ext Φs)(hs:StepsF P l (fun _=>Ext w) (fun _=>Ext) (AQ Φs) ρ 0 l) 
    (hQ:∀(ρ' :Aq) w',Ext w w' →EndF ds ρ ρ' →Bb l (fun _=> []) (AQ Φs) ρ' w' ds→Q .normal ρ' w'):B2 P n (.region id l.toArray true) Q ρ w:=by
  intro a ha
  obtain⟨T,df⟩:=a
  have hz:T.size=n:=ha.size
  subst hz
  refine I9 Φs hm T df hg ds hds hst (StepsF.ok ha.get l 0 hs) fun u w' hE hf=> ?_
  have hw:=DW ha.get ds (EA hg ds hds) u
  refine⟨fun t=>if t∈ds then u t else ρ t,⟨by rw[CJ],ha.defers,hw⟩,hQ _ w' hE ⟨fun t ht=>if_neg (by simpa using ht)⟩ ?_⟩
  have key:∀es:List Tmp,(∀d∈es,d∈ds)→Bb l (fun _=> []) (AQ Φs) u w' es→Bb l (fun _=> []) (AQ Φs) (fun t=>if t∈ds then u t else ρ t) w' es:=by
    intro es
    induction es with
    | nil=>exact fun _ _=>trivial
    | cons d es ih=>
      intro hm h
      refine⟨?_,ih (fun x hx=>hm x (by simp[hx])) h.2⟩
      have:=h.1
      simp only[if_pos (hm d (by simp))]
      exact this
  exact key ds (fun _ h=>h) hf
theorem Dg{l:List Oper}(k:Nat)(S:World→World→Prop)(Φs:List Bn){id:Nat}(hm:P.follows .mixedOrders=true)(ds:List Tmp)(hg:B7 l n=true)(hn:C3 l k=true)(hds:slotsW l=ds)(hSr:(l[k]?.bind (·.guard))=none)(hst:AllStab Ext Φs)(hsS:AllStab S Φs)(hs:StepsF P l (fun _=>Ext w) (fun m=>if m=k then S else Ext) (AQ Φs) ρ 0 l) 
    (hQ:∀(ρ' :Aq) w1 w',Ext w w1→S w1 w' →EndF ds ρ ρ' →Bb l (fun _=> []) (AQ Φs) ρ' w' ds→Q .normal ρ' w'):B2 P n (.region id l.toArray true) Q ρ w:=by
  intro a ha
  obtain⟨T,df⟩:=a
  have hz:T.size=n:=ha.size
  subst hz
  refine HE k S Φs hm T df hg hn ds hds hSr hst hsS (StepsF.ok ha.get l 0 hs) fun u w1 w' hE hS hf=> ?_
  have hw:=DW ha.get ds (EA hg ds hds) u
  refine⟨fun t=>if t∈ds then u t else ρ t,⟨by rw[CJ],ha.defers,hw⟩,hQ _ w1 w' hE hS ⟨fun t ht=>if_neg (by simpa using ht)⟩ ?_⟩
  have key:∀es:List Tmp,(∀d∈es,d∈ds)→Bb l (fun _=> []) (AQ Φs) u w' es→Bb l (fun _=> []) (AQ Φs) (fun t=>if t∈ds then u t else ρ t) w' es:=by
    intro es
    induction es with
    | nil=>exact fun _ _=>trivial
    | cons d es ih=>
      intro hm h
      refine⟨?_,ih (fun x hx=>hm x (by simp[hx])) h.2⟩
      have:=h.1
      simp only[if_pos (hm d (by simp))]
      exact this
  exact key ds (fun _ h=>h) hf
def AllStabX(S:World→World→Prop)(ks:List Nat):Nat→List Bn→Prop
  | _,[]=>True
  | i,φ :: r=>(ks.contains i=true∨Stab S φ)∧AllStabX S ks (i+1) r
theorem AllStabX.get{S:World→World→Prop}{ks:List Nat}:∀(Φs:List Bn) (j:Nat),AllStabX S ks j Φs→∀i,j+i∉ks→Stab S (Φs.getD i (fun _ _=>True))
  | [],_,_,i,_=>by simpa using Stab.any
  | φ :: r,j,h,0,hi=>by
    rcases h.1 with h1 | h1
    · exact absurd (by simpa using h1) hi
    · simpa using h1
  | φ :: r,j,h,i+1,hi=>by
    simpa using AllStabX.get r (j+1) h.2 i (by rwa [show j+1+i=j+(i+1) by omega])
open Classical in
theorem Ff{l:List Oper}(k:Nat)(ks:List Nat)(S:World→World→Prop)(Φs:List Bn){id:Nat}(hm:P.follows .mixedOrders=true)(ds:List Tmp)(hg:B7 l n=true)(hn:C3 l k=true)(hkl:BW l (fun m=>if m=k then ks else [])=true)(hds:slotsW l=ds)(hSr:(l[k]?.bind (·.guard))=none)(hst:AllStab Ext Φs)(hsS:AllStabX S ks 0 Φs)(hs:StepsF P l (fun _=>Ext w) (fun m=>if m=k then S else Ext) (AQ Φs) ρ 0 l) 
    (hQ:∀(ρ' :Aq) w1 w',Ext w w1→S w1 w' →EndF ds ρ ρ' →Bb l (fun m=>if m=k then ks else []) (AQ Φs) ρ' w' ds→Q .normal ρ' w'):B2 P n (.region id l.toArray true) Q ρ w:=by
  intro a ha
  obtain⟨T,df⟩:=a
  have hz:T.size=n:=ha.size
  subst hz
  obtain⟨hl,hb⟩:=CO hn
  refine Df (fun m=>if m=k then ks else []) (fun _=>Ext w) (fun listed w' =>if On listed k then ∃b,Ext w b∧S b w' else Ext w w') (fun m=>if m=k then S else Ext) (AQ Φs) hm T df hg hkl ds hds
    (fun m i hm' hi hne hbit w1 w' hc hr=> ?_) (fun m listed w1 w' hm' hsz hoff hmm hE hR=>Or hn m listed w1 w' hm' hsz hoff hmm hE hR) (fun m i _ _ hi _ _ v w1 w' => ?_) (fun m o w1 ho hgo=> ?_) (fun _ _=>(Below.refl _ _).drew) (by rw[if_neg On.not_replicate];exact(Below.refl _ _).drew) (StepsF.ok ha.get l 0 hs) (fun u listed w' hall hE hf=> ?_)
  · by_cases hkn:m=k
    · subst hkn
      rw[hb i (by omega)]at hbit
      cases hbit
    · rw[if_neg hkn]at hr
      exact hc.trans hr
  · by_cases hkn:m=k
    · rw[if_pos hkn]at hi ⊢
      exact hsS.get Φs 0 i (by rwa [Nat.zero_add]) v w1 w'
    · rw[if_neg hkn];exact hst.get Φs i v w1 w'
  · by_cases hkn:m=k
    · subst hkn;rw[ho]at hSr;simp only[Option.bind_some]at hSr;rw[hSr]at hgo;cases hgo
    · rw[if_neg hkn];exact Ext.refl w1
  · rw[if_pos (hall k (by omega))]at hE
    obtain⟨w1,h1,h2⟩:=hE
    have hw:=DW ha.get ds (EA hg ds hds) u
    refine⟨fun t=>if t∈ds then u t else ρ t,⟨by rw[CJ],ha.defers,hw⟩,hQ _ w1 w' h1 h2 ⟨fun t ht=>if_neg (by simpa using ht)⟩ ?_⟩
    have key:∀es:List Tmp,(∀d∈es,d∈ds)→Bb l (fun m=>if m=k then ks else []) (AQ Φs) u w' es→Bb l (fun m=>if m=k then ks else []) (AQ Φs) (fun t=>if t∈ds then u t else ρ t) w' es:=by
      intro es
      induction es with
      | nil=>exact fun _ _=>trivial
      | cons d es ih=>
        intro hm h
        refine⟨?_,ih (fun x hx=>hm x (by simp[hx])) h.2⟩
        have:=h.1
        simp only[if_pos (hm d (by simp))]
        exact this
    exact key ds (fun _ h=>h) hf
theorem Jt{l:List Oper}(k:Nat)(Φs:List Bn){id:Nat}(hm:P.follows .mixedOrders=true)(ds:List Tmp)(hg:B7 l n=true)(hk:Jp l k=true)(hds:slotsW l=ds)(hgk:(l[k]?.bind (·.guard))=none)(hst:AllStab Ext Φs)(hsT:AllStab (fun _ _=>True) (Φs.take k)) 
    (hs:StepsF P l (fun m=>if m≤k then Ext w else fun _=>True) (fun m=>if m=k then fun _ _=>True else Ext) (AQ Φs) ρ 0 l)
    (hQ:∀(ρ' :Aq) w',EndF ds ρ ρ' →Bb l (fun _=> []) (AQ Φs) ρ' w' ds→Q .normal ρ' w'):B2 P n (.region id l.toArray true) Q ρ w:=by
  intro a ha
  obtain⟨T,df⟩:=a
  have hz:T.size=n:=ha.size
  subst hz
  refine Ja k Φs hm T df hg hk ds hds hst hsT hgk (StepsF.ok ha.get l 0 hs) fun u w' hf=> ?_
  have hw:=DW ha.get ds (EA hg ds hds) u
  refine⟨fun t=>if t∈ds then u t else ρ t,⟨by rw[CJ],ha.defers,hw⟩,hQ _ w' ⟨fun t ht=>if_neg (by simpa using ht)⟩ ?_⟩
  have key:∀es:List Tmp,(∀d∈es,d∈ds)→Bb l (fun _=> []) (AQ Φs) u w' es→Bb l (fun _=> []) (AQ Φs) (fun t=>if t∈ds then u t else ρ t) w' es:=by
    intro es
    induction es with
    | nil=>exact fun _ _=>trivial
    | cons d es ih=>
      intro hm h
      refine⟨?_,ih (fun x hx=>hm x (by simp[hx])) h.2⟩
      have:=h.1
      simp only[if_pos (hm d (by simp))]
      exact this
  exact key ds (fun _ h=>h) hf
variable {l : List Oper} {Φ : Nat → Bn}
theorem Aa{C:Nat→World→Prop}{R:Nat→World→World→Prop}{k:Nat}{o:Oper}(hg:o.guard=none) 
    (h:∀σ w,C k w→(∀t∈o.looksAt l.toArray,GW l Φ ρ k t (σ t) w)→Yk P (fun v w' =>R k w w' ∧Φ k v w') ((execOp (Ad σ) o).run P w)):D4 P l C R Φ ρ k o:=by
  intro σ w hC hl
  have:C0 l o σ=true:=by unfold C0;rw[hg]
  rw[if_pos this]
  exact h σ w hC hl
theorem Ay{C:Nat→World→Prop}{R:Nat→World→World→Prop}{k:Nat}{o:Oper}(g:Nat)(want:Bool)(d:Tmp)(hg:o.guard=some (g,want))(hd:(l[g]?).bind (·.dst)=some d) 
    (hv:∀x w,GW l Φ ρ k d x w→x = .bool want)
    (h:∀σ w,C k w→(∀t∈o.looksAt l.toArray,GW l Φ ρ k t (σ t) w)→Yk P (fun v w' =>R k w w' ∧Φ k v w') ((execOp (Ad σ) o).run P w)):D4 P l C R Φ ρ k o:=by
  intro σ w hC hl
  have hin:d∈o.looksAt l.toArray:=by
    unfold Oper.looksAt
    refine List.mem_append_right _ ?_
    rw[hg]
    simp[hd]
  have:C0 l o σ=true:=by
    unfold C0
    rw[hg]
    simp only[hd,hv _ _ (hl d hin)]
    simp
  rw[if_pos this]
  exact h σ w hC hl
theorem AS{C:Nat→World→Prop}{R:Nat→World→World→Prop}{k:Nat}{o:Oper}(g:Nat)(want:Bool)(d:Tmp)(hg:o.guard=some (g,want))(hd:(l[g]?).bind (·.dst)=some d) 
    (hv:∀x w,GW l Φ ρ k d x w→x ≠ .bool want) (hu:∀w,Φ k undef w):D4 P l C R Φ ρ k o:=by
  intro σ w hC hl
  have hin:d∈o.looksAt l.toArray:=by
    unfold Oper.looksAt
    refine List.mem_append_right _ ?_
    rw[hg]
    simp[hd]
  have:C0 l o σ=false:=by
    unfold C0
    rw[hg]
    simp only[hd]
    have h1:=hv _ _ (hl d hin)
    cases hx:σ d <;> simp
    rename_i b
    intro hb
    exact h1 (by rw[hx,hb])
  rw[if_neg (by rw[this];simp)]
  exact hu w

/-! ### A function is entered; it returns -/
def postF(P:Program)(fn:Func)(R:Ending→World→Prop):B9
  | .normal,ρ,w | .ret,ρ,w=>∀tmps:Array Value,(∀t,tmps.getD t undef=ρ t)→∃v,(results fn tmps).run P w = .ok v w∧R (.returned v) w
  | _,_,_=>False
structure Jj (args : List Value) (ρ : Aq) : Prop where
  get:∀t,ρ t=args.getD t undef
theorem AA{f:FuncId}{fn:Func}{c:Code}{args:List Value}{R:Ending→World→Prop}(hf:P.funcs[f]? =some fn)(hb:fn.body=some c)(m:Nat)(hm:fn.ntmps=m)(hn:args.length≤m) 
    (h:∀ρ,Jj args ρ→B2 P m c (postF P fn R) ρ w):Calls P f args.toArray w R:=by
  subst hm
  refine calls_of_wp hf hb ?_
  have hget:∀t,(args.toArray++Array.replicate (fn.ntmps-args.toArray.size) undef).getD t undef=args.getD t undef:=fun t=>by
    simp only[Array.getD_eq_getD_getElem?,List.getD_eq_getElem?_getD,Array.getElem?_append,List.size_toArray,List.getElem?_toArray]
    by_cases ht:t<args.length
    · rw[if_pos ht]
    · rw[if_neg ht,List.getElem?_eq_none (by omega),Array.getElem?_replicate]
      split <;> rfl
  refine wp_mono (h (fun t=>args.getD t undef) ⟨fun _=>rfl⟩ _ ⟨?_,rfl,hget⟩) ?_
  · simp
    omega
  · rintro e a' w' ⟨ρ',hf',hQ⟩
    have fin:(∀tmps:Array Value,(∀t,tmps.getD t undef=ρ' t)→∃v,(results fn tmps).run P w' = .ok v w' ∧R (.returned v) w')→a'.defers= []∧∃v,(results fn a'.tmps).run P w' = .ok v w' ∧R (.returned v) w' :=
      fun h=>⟨hf'.defers,h a'.tmps hf'.get⟩
    cases e with
    | normal=>exact fin hQ
    | ret=>exact fin hQ
    | exit _=>exact hQ.elim
    | goto _=>exact hQ.elim
    | panic _=>exact hQ.elim
    | outgrown=>exact hQ.elim
def ResF(P:Program)(ρ:Aq)(w:World):ResultVar→Value→Prop
  | .tmp t,v=>ρ t=v
  | .cell p ty,v=>∃a,ρ p = .pointer (some a)∧(loadVar ty a).run P w = .ok v w
def EB(P:Program)(ρ:Aq)(w:World):List ResultVar→List Value→Prop
  | [],[]=>True
  | r :: rs,v :: vs=>ResF P ρ w r v∧EB P ρ w rs vs
  | _,_=>False
def resOf(tmps:Array Value):ResultVar→Sem Value
  | .tmp t=>pure (tmps.getD t undef)
  | .cell a t=>do loadVar t (←asAddr (tmps.getD a undef))
theorem Gn{ρ:Aq}{w:World}{tmps:Array Value}(ht:∀t,tmps.getD t undef=ρ t):∀(rs:List ResultVar) (vs:List Value),EB P ρ w rs vs→(rs.mapM (resOf tmps)).run P w=Result.ok vs w
  | [],[],_=>by simp[Sem.run_pure]
  | [],_ :: _,h=>h.elim
  | _ :: _,[],h=>h.elim
  | r :: rs,v :: vs,h=>by
    have ih:=Gn ht rs vs h.2
    have h1:(resOf tmps r).run P w = .ok v w:=by
      have h1:=h.1
      cases r with
      | tmp t=>
        simp only[ResF]at h1
        simp only[resOf,ht,h1,Sem.run_pure]
      | cell p ty=>
        obtain⟨a,ha,hl⟩:=h1
        simp only[resOf,ht,ha,asAddr,Sem.run_bind,Sem.run_pure,Result.andThen_ok,hl]
    rw[List.mapM_cons,Sem.run_bind,h1]
    simp only[Result.andThen_ok,Sem.run_bind,ih,Sem.run_pure]
def EY:List Value→Value
  | [v]=>v
  | vs=> .tuple vs.toArray
theorem Ei{fn:Func}{rs:List ResultVar}(hrs:fn.results=rs.toArray){tmps:Array Value}(ht:∀t,tmps.getD t undef=ρ t){vs:List Value}(h:EB P ρ w rs vs):
    (results fn tmps).run P w = .ok (EY vs) w:=by
  have h1:=Gn ht rs vs h
  have he:results fn tmps=(do let vs ←fn.results.mapM (resOf tmps);pure (if h:vs.size=1 then vs[0]else .tuple vs)):=by
    unfold results
    congr 1
  rw[he,hrs,List.mapM_toArray,Sem.run_bind]
  have hm:((List.toArray <$> rs.mapM (resOf tmps)):Sem (Array Value)).run P w = .ok vs.toArray w:=by
    show((rs.mapM (resOf tmps)).bind (fun x=>Sem.pure x.toArray)).run P w=_
    rw[show(rs.mapM (resOf tmps)).bind (fun x=>Sem.pure x.toArray)=(do let x ←rs.mapM (resOf tmps);pure x.toArray)from rfl,Sem.run_bind,h1]
    rfl
  rw[hm]
  simp only[Result.andThen_ok,Sem.run_pure]
  match vs with
  | []=>rfl
  | [v]=>rfl
  | _ :: _ :: _=>simp[EY]
theorem Ao{fn:Func}{R:Ending→World→Prop}(rs:List ResultVar)(hrs:fn.results=rs.toArray)(vs:List Value)(v:Value)(hv:EY vs=v)(h:EB P ρ w rs vs)(hR:R (.returned v) w):postF P fn R .ret ρ w:=
  fun _ ht=>⟨_,Ei hrs ht h,by rw[hv];exact hR⟩
theorem Fg{fn:Func}{R:Ending→World→Prop}(rs:List ResultVar)(hrs:fn.results=rs.toArray)(vs:List Value)(v:Value)(hv:EY vs=v)(h:EB P ρ w rs vs)(hR:R (.returned v) w):postF P fn R .normal ρ w:=
  fun _ ht=>⟨_,Ei hrs ht h,by rw[hv];exact hR⟩
theorem ResF.row{p:Tmp}{ty:TypeId}{g:Nat}{t:TypeId}{cs:Array Value}{fr:Nat × Nat}{d:TypeDesc}(hp:ρ p = .pointer (some ⟨g,0,none⟩))(hg:w.heap[g]? =some (.cells cs t fr)) 
    (hu:P.underlying ty=some d) (hd:(match d with | .struct _ | .array _ _=>true | _=>false)=true) (hi:(P.info? ty).map (·.size)=some cs.size):ResF P ρ w (.cell p ty) (.agg cs):=
  ⟨_,hp,run_loadVar_row w g t ty cs fr d hg hu hd hi⟩
end
open Go.RowKit
/-! ### The last operation in the frame as it then is -/
section
variable {P : Program} {l : List Oper} {kill : Nat → List Nat} {C : Nat → World → Prop} {R : Nat → World → World → Prop} {Φ : Nat → Bn} {a0 : Act}
theorem Yk.mono'{K K' :Value→World→Prop}{r:Result Next}(h:Yk P K r)(hm:∀v w,K v w→K' v w):Yk P K' r:=by
  cases r with
  | halt x w' =>exact h.elim
  | ok n w' =>
    cases n <;> simp only[Yk]at h ⊢
    case value v=>exact hm _ _ h
    case skip=>exact hm _ _ h
    case enter f args=>exact h.mono fun e w'' ⟨v,h1,h2⟩=>⟨v,h1,hm _ _ h2⟩
def StepsFL(P:Program)(l:List Oper)(L:Nat)(C:Nat→World→Prop)(R:Nat→World→World→Prop)(Φ:Nat→Bn)(ρ:Aq):Nat→List Oper→Prop
  | _,[]=>True
  | n,o :: r=>(bif Nat.beq n L then True else D4 P l C R Φ ρ n o)∧StepsFL P l L C R Φ ρ (n+1) r
theorem AD{L n:Nat}{ρ:Aq}{o:Oper}(h:D4 P l C R Φ ρ n o):bif Nat.beq n L then True else D4 P l C R Φ ρ n o:=by
  cases Nat.beq n L
  · exact h
  · trivial
theorem StepsFL.get{L:Nat}{ρ:Aq}:∀(r:List Oper) (n:Nat),StepsFL P l L C R Φ ρ n r→∀k o,r[k]? =some o→n+k≠L→D4 P l C R Φ ρ (n+k) o
  | [],_,_,k,o,h,_=>by simp at h
  | o' :: r,n,hs,0,o,h,hne=>by
    simp only[List.getElem?_cons_zero,Option.some.injEq]at h
    subst h
    have h1:=hs.1
    rw[show Nat.beq n L=false by rw[←Bool.not_eq_true,Nat.beq_eq];exact hne]at h1
    exact h1
  | o' :: r,n,hs,k+1,o,h,hne=>by
    rw[List.getElem?_cons_succ]at h
    have:=StepsFL.get r (n+1) hs.2 k o h (by omega)
    rwa [show n+1+k=n+(k+1) by omega]at this
theorem OC(g:Fv l a0.tmps.size)(hkl:BW l kill=true){L:Nat}{oL:Oper}(hn:C3 l L=true)(hoL:l[L]? =some oL)(hgL:oL.guard=none)(hdL:oL.dst=none) 
    (hC:∀n m,n<l.length→m<l.length→n≠m→((Ba l []).getD n 0).testBit m=false→∀w w',C m w→R n w w' →C m w') (hΦ:∀n i,n<l.length→i<l.length→i∉kill n→i≠n→((Ba l []).getD i 0).testBit n=false→∀v w w',Φ i v w→R n w w' →Φ i v w') (hRr:∀n o w,l[n]? =some o→o.guard.isSome=true→R n w w) (hs:∀i o,l[i]? =some o→i≠L→Ez P l C R Φ a0.tmps i o) {Q:Exit→Act→World→Prop}
    (hQ:∀listed a' w',(∀i,i<l.length→i≠L→On listed i)→¬On listed L→Inv l kill C (fun _ _=>True) Φ a0 listed a' w' →Yk P (fun _ w'' =>Q .normal a' w'') ((execOp a'.eval oL).run P w')):
    ∀(fuel:Nat) (listed:Array Bool) (a:Act) (w:World),(listed.toList.filter (!·)).length=fuel→¬On listed L→Inv l kill C (fun _ _=>True) Φ a0 listed a w→wpAny P .any l.toArray Q fuel listed a w:=by
  obtain⟨hlen,hb⟩:=CO hn
  have rdy:∀(listed:Array Bool),listed.size=l.length→(∀i,i<l.length→On listed i)→Region.ready .any l.toArray listed= []:=by
    intro listed hsz hon
    cases hr:Region.ready .any l.toArray listed with
    | nil=>rfl
    | cons x xs=>
      exfalso
      have hm:x∈Region.ready .any l.toArray listed:=by rw[hr];simp
      obtain⟨h1,o,ho,_⟩:=mem_ready.1 hm
      have hx:x<l.length:=by simpa using (Array.getElem?_eq_some_iff.1 ho).1
      have h2:=hon x hx
      have hx' :x<listed.size:=h2.lt
      unfold On at h2
      simp[hx']at h1 h2
      rw[h1]at h2
      cases h2
  intro fuel
  induction fuel with
  | zero=>
    intro listed a w hf hoff h
    exfalso
    have:=DP _ hf L (by rw[Array.length_toList,h.size];omega)
    exact hoff (by unfold On;simp at this;simp[this])
  | succ fuel ih=>
    intro listed a w hf hoff h
    have hstep:∀i∈Region.ready .any l.toArray listed,∃o,l[i]? =some o∧¬On listed i∧(∀e∈o.after,Region.binds .any e=true→On listed e.on)∧((listed.setIfInBounds i true).toList.filter (!·)).length=fuel:=by
      intro i hi
      obtain⟨h1,o,ho,hall⟩:=mem_ready.1 hi
      have ho' :l[i]? =some o:=by simpa using ho
      have hil:i<listed.size:=by rw[h.size];exact(List.getElem?_eq_some_iff.1 ho').1
      refine⟨o,ho',?_,fun e he hb=>hall e he hb,?_⟩
      · unfold On
        simp[hil]at h1 ⊢
        exact h1
      · rw[Array.toList_setIfInBounds]
        have:=Ee listed.toList i (by
          simp[hil]at h1
          simp[hil,h1])
        omega
    refine⟨fun hr=> ?_,fun i hi=> ?_⟩
    · exfalso
      have full:∀i,i<l.length→On listed i:=by
        intro i
        induction i using Nat.strongRecOn with
        | _ i ih=>
          intro hi
          refine Classical.byContradiction fun hno=> ?_
          have ho:l[i]? =some l[i]:=List.getElem?_eq_getElem hi
          have:i∈Region.ready .any l.toArray listed:=by
            refine mem_ready.2 ⟨?_,l[i],by rw[List.getElem?_toArray];exact ho,fun e he hb=> ?_⟩
            · have hi' :i<listed.size:=by rw[h.size];exact hi
              unfold On at hno
              simp[hi']at hno ⊢
              exact hno
            · have hlt:=g.back i _ ho e he hb
              exact ih e.on hlt (by omega)
          rw[hr]at this
          cases this
      exact hoff (full L (by omega))
    · obtain⟨o,ho,hno,hall,hcnt⟩:=hstep i hi
      by_cases hiL:i=L
      · subst hiL
        obtain rfl:oL=o:=by rw[hoL]at ho;exact Option.some.inj ho
        have hon:∀j,j<l.length→j≠i→On listed j:=fun j hj hne=>h.maskReady ho hall (hb j (by omega))
        have hst:=hQ listed a w hon hno h
        have hall' :∀j,j<l.length→On (listed.setIfInBounds i true) j:=fun j hj=>by
          by_cases hji:j=i
          · exact(on_set (by rw[h.size];omega)).2 (.inl hji)
          · exact(on_set (by rw[h.size];omega)).2 (.inr (hon j hj hji))
        have hr:=rdy (listed.setIfInBounds i true) (by simpa using h.size) hall'
        have fin:∀v w',Q .normal a w' →wpAny P .any l.toArray Q fuel (listed.setIfInBounds i true) (a.put oL.dst v) w' :=fun v w' hq=>by
          have b:a.put oL.dst v=a:=by rw[hdL];rfl
          rw[b]
          cases fuel with
          | zero=>exact⟨hr,hq⟩
          | succ m=>exact⟨fun _=>hq,fun j hj=>by rw[hr]at hj;cases hj⟩
        unfold wpOp
        simp only[List.getElem?_toArray,ho]
        have hw:Region.wanted oL (yielded l.toArray a.tmps)=true:=by unfold Region.wanted;rw[hgL]
        rw[if_pos hw]
        refine .inl ?_
        unfold Oper.wp
        generalize (execOp a.eval oL).run P w=r at hst ⊢
        cases r with
        | halt x w' =>exact hst.elim
        | ok n w' =>
          cases n <;> simp only[Yk]at hst <;> simp only[Oper.upon]
          case value v=>exact fin _ _ hst
          case skip=>exact fin _ _ hst
          case enter f args=>
            refine hst.mono fun e w'' hx=> ?_
            obtain⟨v,rfl,h1⟩:=hx
            exact fin _ _ h1
      · refine h.step g hkl hC (fun _ _ _ _ _ _ _ _ _ _=>trivial) hΦ hRr ho hno hall (hs i o ho hiL) fun a' w' h' =>ih _ _ _ hcnt (fun hx=> ?_) h'
        exact((on_set (by rw[h.size];exact(List.getElem?_eq_some_iff.1 ho).1)).1 hx).elim (fun e=>hiL e.symm) hoff
end
section
variable {P : Program} {n : Nat} {ρ : Aq} {w : World} {Q : B9}
theorem Gf{l:List Oper}(L:Nat)(oL:Oper)(ks:Nat→List Nat)(C:Nat→World→Prop)(R:Nat→World→World→Prop)(Φs:List Bn){id:Nat}(hm:P.follows .mixedOrders=true)(ds:List Tmp)(hg:B7 l n=true)(hn:C3 l L=true)(hkl:BW l ks=true)(hds:slotsW l=ds)(hoL:l[L]? =some oL)(hgL:oL.guard=none)(hdL:oL.dst=none) 
    (hC:∀n m,n<l.length→m<l.length→n≠m→((Ba l []).getD n 0).testBit m=false→∀w w',C m w→R n w w' →C m w')
    (hΦ:∀n i,n<l.length→i<l.length→i∉ks n→i≠n→((Ba l []).getD i 0).testBit n=false→∀v w w',AQ Φs i v w→R n w w' →AQ Φs i v w')
    (hRr:∀n o w,l[n]? =some o→o.guard.isSome=true→R n w w) (h0:∀n,n<l.length→C n { w with drawn:=w.drawn+1 })
    (hs:StepsFL P l L C R (AQ Φs) ρ 0 l)
    (hQ:∀(ρ' :Aq) w1,C L w1→EndF ds ρ ρ' →Bb l ks (AQ Φs) ρ' w1 ds→Yk P (fun _ w' =>Q .normal ρ' w') ((execOp (Ad ρ') oL).run P w1)):B2 P n (.region id l.toArray true) Q ρ w:=by
  intro a ha
  obtain⟨T,df⟩:=a
  have hz:T.size=n:=ha.size
  subst hz
  obtain⟨hl,hb⟩:=CO hn
  have g:=ET hg
  refine wp_region_any hm (OC (a0:= { tmps:=T,defers:=df }) (C:=C) (R:=R) (Φ:=AQ Φs) g hkl hn hoL hgL hdL hC hΦ hRr (fun i o ho hi=> ?_) (fun listed a' w' hon hoff h=> ?_) _ _ _ _ (by simp) ?_ ?_)
  · have hst:=StepsFL.get l 0 hs i o ho (by omega)
    rw[Nat.zero_add]at hst
    have h2:=StepsF.ok (P:=P) (l:=l) (C:=C) (R:=R) (Φ:=AQ Φs) (T:=T) ha.get [o] i ⟨hst,trivial⟩
    exact h2.1
  · -- what the slots hold
    have hw:∀d k,CH l d l.length=some k→(List.range l.length).all (fun n=> !(ks n).contains k)=true→AQ Φs k (a'.tmps.getD d undef) w' :=fun d k hk hall=>by
      obtain⟨h1,⟨o,ho,hd⟩,h3⟩:=Da _ hk
      have hkL:k≠L:=fun e=>by subst e;rw[hoL]at ho;cases ho;rw[hdL]at hd;cases hd
      refine h.new d k o ho hd (hon k h1 hkL) (fun k' o' hkk ho' hd' _=>h3 k' o' hkk (List.getElem?_eq_some_iff.1 ho').1 ho' hd') (fun n hn hkn=> ?_)
      have hnl:n<l.length:=by have:=hn.lt;rw[h.size]at this;exact this
      have:=List.all_eq_true.1 hall n (by simpa using hnl)
      simp at this
      exact this hkn
    have hget:∀t,a'.tmps.getD t undef=if t∈ds then a'.tmps.getD t undef else ρ t:=fun t=>by
      by_cases hn:t∈ds
      · rw[if_pos hn]
      · rw[if_neg hn,←ha.get]
        exact h.old t fun k o ho hd _=>hn (by
          rw[←hds]
          unfold slotsW
          rw[List.mem_eraseDups,List.mem_filterMap]
          exact⟨o,List.mem_of_getElem? ho,hd⟩)
    have hcl:=h.cls L (by omega) hoff
    have hend:EndF ds ρ (fun t=>a'.tmps.getD t undef):=⟨fun t ht=>by rw[hget t,if_neg (by simpa using ht)]⟩
    have:=hQ (fun t=>a'.tmps.getD t undef) w' hcl hend (Dx hw ds)
    rw[evalR_eq]at this
    refine Yk.mono' this fun v w'' hq=> ?_
    exact⟨_,⟨h.tmps,h.defers.trans ha.defers,fun t=>rfl⟩,hq⟩
  · intro h
    unfold On at h
    rw[Array.getD_eq_getD_getElem?,Array.getElem?_replicate]at h
    split at h <;> simp at h
  · have hno:∀i,¬On (Array.replicate l.toArray.size false) i:=fun i h=>by
      unfold On at h
      rw[Array.getD_eq_getD_getElem?,Array.getElem?_replicate]at h
      split at h <;> simp at h
    exact⟨Array.size_replicate,fun i o _ h=>absurd h (hno i),rfl,rfl,fun n hn _=>h0 n hn,trivial,fun t _=>rfl,fun t k o _ _ h=>absurd h (hno k)⟩
theorem Jb{l:List Oper}(k:Nat)(oL:Oper)(ks:List Nat)(Φs:List Bn){id:Nat}(hm:P.follows .mixedOrders=true)(ds:List Tmp)(hg:B7 l n=true)(hn:C3 l (k+1)=true)(hk:Jp l k=true)(hkl:BW l (fun m=>if m=k then ks else [])=true)(hds:slotsW l=ds) 
    (hoL:l[k+1]? =some oL) (hgL:oL.guard=none) (hdL:oL.dst=none) (hgk:(l[k]?.bind (·.guard))=none) (hst:AllStab Ext (Φs.take k)) (hsT:AllStabX (fun _ _=>True) ks 0 (Φs.take k))
    (hs:StepsFL P l (k+1) (fun m=>if m≤k then Ext w else fun _=>True) (fun m=>if m=k then fun _ _=>True else if m=k+1 then Eq else Ext) (AQ Φs) ρ 0 l)
    (hQ:∀(ρ' :Aq) w1,EndF ds ρ ρ' →Bb l (fun m=>if m=k then ks else []) (AQ Φs) ρ' w1 ds→Yk P (fun _ w' =>Q .normal ρ' w') ((execOp (Ad ρ') oL).run P w1)):B2 P n (.region id l.toArray true) Q ρ w:=by
  obtain⟨hl,hb⟩:=CO hn
  have hm1:=Jq hk
  have take:∀i,i<k→AQ Φs i=(Φs.take k).getD i (fun _ _=>True):=fun i hi=>by simp[AQ,List.getD_eq_getElem?_getD,hi]
  refine Gf (k+1) oL _ _ _ Φs hm ds hg hn hkl hds hoL hgL hdL (fun m i hm' hi hne hbit w1 w' hc hr=> ?_) (fun m i hm' hi hni hne hbit v w1 w' => ?_) (fun m o w1 ho hgo=> ?_) (fun m hm' => ?_) hs (fun ρ' w1 _=>hQ ρ' w1)
  · by_cases hik:i≤k
    · rw[if_pos hik]at hc ⊢
      by_cases h1:m=k
      · subst h1
        rw[hm1.1 i (by omega)]at hbit
        cases hbit
      · by_cases h2:m=k+1
        · subst h2
          rw[hb i (by omega)]at hbit
          cases hbit
        · rw[if_neg h1,if_neg h2]at hr
          exact hc.trans hr
    · rw[if_neg hik]
      trivial
  · by_cases h2:m=k+1
    · rw[if_neg (by omega),if_pos h2]
      exact fun h e=>e▸h
    · by_cases hik:i<k
      · rw[take i hik]
        by_cases h1:m=k
        · rw[if_pos h1]at hni ⊢
          exact fun h _=>hsT.get _ 0 i (by rwa [Nat.zero_add]) v w1 w' h trivial
        · rw[if_neg h1,if_neg h2]
          exact hst.get _ i v w1 w'
      · exfalso
        by_cases hi2:i=k
        · subst hi2
          rw[hm1.1 m (by omega)]at hbit
          cases hbit
        · have:i=k+1:=by omega
          subst this
          rw[hb m (by omega)]at hbit
          cases hbit
  · by_cases h1:m=k
    · subst h1;rw[ho]at hgk;simp only[Option.bind_some]at hgk;rw[hgk]at hgo;cases hgo
    · by_cases h2:m=k+1
      · rw[if_neg h1,if_pos h2]
      · rw[if_neg h1,if_neg h2];exact Ext.refl w1
  · split
    · exact(Below.refl _ _).drew
    · trivial
theorem Jc{l:List Oper}(j L:Nat)(oL:Oper)(ks:List Nat)(Rj:World→World→Prop)(Φs:List Bn){id:Nat}(hm:P.follows .mixedOrders=true)(ds:List Tmp)(hg:B7 l n=true)(hn:C3 l L=true)(hkl:BW l (fun m=>if m=j then ks else [])=true)(hds:slotsW l=ds) 
    (hoL:l[L]? =some oL) (hgL:oL.guard=none) (hdL:oL.dst=none) (hjL:j<L) (hgk:(l[j]?.bind (·.guard))=none) (hst:AllStab Ext Φs) (hsR:AllStabX Rj (j :: ks) 0 Φs) (hR:∀a b,Ext w a→Rj a b→Ext w b)
    (hs:StepsFL P l L (fun _=>Ext w) (fun m=>if m=j then Rj else if m=L then Eq else Ext) (AQ Φs) ρ 0 l)
    (hQ:∀(ρ' :Aq) w1,Ext w w1→EndF ds ρ ρ' →Bb l (fun m=>if m=j then ks else []) (AQ Φs) ρ' w1 ds→Yk P (fun _ w' =>Q .normal ρ' w') ((execOp (Ad ρ') oL).run P w1)):B2 P n (.region id l.toArray true) Q ρ w:=by
  refine Gf L oL _ (fun _=>Ext w) _ Φs hm ds hg hn hkl hds hoL hgL hdL (fun m i hm' hi hne hbit w1 w' hc hr=> ?_) (fun m i hm' hi hni hne hbit v w1 w' => ?_) (fun m o w1 ho hgo=> ?_) (fun m hm' =>(Below.refl _ _).drew) hs hQ
  · by_cases h1:m=j
    · rw[if_pos h1]at hr
      exact hR _ _ hc hr
    · by_cases h2:m=L
      · rw[if_neg h1,if_pos h2]at hr
        exact hr▸hc
      · rw[if_neg h1,if_neg h2]at hr
        exact hc.trans hr
  · by_cases h1:m=j
    · rw[if_pos h1]at hni ⊢
      exact hsR.get _ 0 i (by rw[Nat.zero_add];simp only[List.mem_cons,not_or];exact⟨fun e=>hne (e.trans h1.symm),hni⟩) v w1 w'
    · by_cases h2:m=L
      · rw[if_neg h1,if_pos h2]
        exact fun h e=>e▸h
      · rw[if_neg h1,if_neg h2]
        exact hst.get _ i v w1 w'
  · by_cases h1:m=j
    · subst h1;rw[ho]at hgk;simp only[Option.bind_some]at hgk;rw[hgk]at hgo;cases hgo
    · by_cases h2:m=L
      · rw[if_neg h1,if_pos h2]
      · rw[if_neg h1,if_neg h2];exact Ext.refl w1
end
open Go.RowKit
variable {P : Program}
abbrev U(x:UInt32):Value:= .int .u32 (x.toNat:Int)
abbrev NI(n:Nat):Value:= .int .i64 (n:Int)
abbrev B8(x:UInt8):Value:= .int .u8 (x.toNat:Int)

theorem Ea(n:Nat):IntKind.u32.wrap (n:Int)=((n%4294967296:Nat):Int):=by
  simp[IntKind.wrap,IntKind.bits,IntKind.signed]
theorem KT(n:Nat):IntKind.u8.wrap (n:Int)=((n%256:Nat):Int):=by
  simp[IntKind.wrap,IntKind.bits,IntKind.signed]
theorem GX(a:UInt32):BitVec.ofInt 32 (a.toNat:Int)=a.toBitVec:=by
  rw[BitVec.ofInt_natCast]
  exact BitVec.ofNat_toNat 32 a.toBitVec |>.trans (by simp)
theorem BR(t:TypeId)(a b:UInt32):Go.binOp .add t (U a) (U b)=pure (U (a+b)):=by
  unfold Go.binOp
  simp only[ne_eq,not_true_eq_false,if_false,Op.intArith]
  rw[←Int.natCast_add,Ea]
  simp[U,UInt32.toNat_add]
theorem Cu(t:TypeId)(a b:UInt32):Go.binOp .xor t (U a) (U b)=pure (U (a^^^b)):=by
  unfold Go.binOp
  simp only[ne_eq,not_true_eq_false,if_false,Op.intBits,IntKind.bits,GX]
  rw[Ea,Nat.mod_eq_of_lt (BitVec.isLt _)]
  rfl
theorem Ev(t:TypeId)(a b:UInt32):Go.binOp .and t (U a) (U b)=pure (U (a&&&b)):=by
  unfold Go.binOp
  simp only[ne_eq,not_true_eq_false,if_false,Op.intBits,IntKind.bits,GX]
  rw[Ea,Nat.mod_eq_of_lt (BitVec.isLt _)]
  rfl
theorem Gp(t:TypeId)(a b:UInt32):Go.binOp .or t (U a) (U b)=pure (U (a|||b)):=by
  unfold Go.binOp
  simp only[ne_eq,not_true_eq_false,if_false,Op.intBits,IntKind.bits,GX]
  rw[Ea,Nat.mod_eq_of_lt (BitVec.isLt _)]
  rfl
theorem O9(a:UInt32):Go.Op.unary .xor (U a)=pure (U (~~~a)):=by
  unfold Go.Op.unary
  have h:BitVec.ofInt 32 (IntKind.u32.max)=BitVec.allOnes 32:=by decide
  simp only[IntKind.signed,Bool.false_eq_true,if_false,Op.intBits,IntKind.bits,GX,h]
  rw[Ea,Nat.mod_eq_of_lt (BitVec.isLt _)]
  simp only[U]
  have h2:BitVec.allOnes 32^^^a.toBitVec = ~~~a.toBitVec:=BitVec.allOnes_xor
  exact congrArg (fun z:BitVec 32=>(pure (Value.int .u32 (z.toNat:Int)):Sem Value)) h2
theorem Fh(t:TypeId)(a:UInt32)(k:IntKind)(n:Nat)(hn:n<32):Go.binOp .shl t (U a) (.int k (n:Int))=pure (U (a<<<UInt32.ofNat n)):=by
  unfold Go.binOp
  simp only[Op.shift,IntKind.bits]
  rw[if_neg (by omega),Int.toNat_natCast,Nat.min_eq_left (by omega)]
  have:(a.toNat:Int)*2^n=((a.toNat*2^n:Nat):Int):=by simp
  rw[this,Ea]
  simp only[U]
  congr 2
  simp[UInt32.toNat_shiftLeft,Nat.shiftLeft_eq,Nat.mod_eq_of_lt (show n<4294967296 by omega),Nat.mod_eq_of_lt hn]
theorem D5(t:TypeId)(a:UInt32)(k:IntKind)(n:Nat)(hn:n<32):Go.binOp .shr t (U a) (.int k (n:Int))=pure (U (a>>>UInt32.ofNat n)):=by
  unfold Go.binOp
  simp only[Op.shift,IntKind.bits]
  rw[if_neg (by omega),Int.toNat_natCast,Nat.min_eq_left (by omega)]
  have:(a.toNat:Int).fdiv (2^n)=((a.toNat/2^n:Nat):Int):=by
    rw[show(2^n:Int)=((2^n:Nat):Int) by simp,Int.fdiv_eq_ediv_of_nonneg _ (Int.natCast_nonneg _)]
    rfl
  rw[this]
  simp only[U]
  congr 2
  simp[UInt32.toNat_shiftRight,Nat.shiftRight_eq_div_pow,Nat.mod_eq_of_lt (show n<4294967296 by omega),Nat.mod_eq_of_lt hn]
theorem OD{op:BinOp}{t ty2:TypeId}{x y:Operand}{d:Option Tmp}{ty:TypeId}{pos:String}{af:Array Edge}{gd:Option (Nat × Bool)}{ρ:Operand→Value}{xv yv v:Value}{w:World} 
    (hx:ρ x=xv) (hy:ρ y=yv) (hne:(op matches .eql | .neq)=false) (hr:Go.binOp op t xv yv=pure v):(execOp ρ ⟨d, .binOp op t x y ty2,ty,pos,af,gd⟩).run P w = .ok (.value v) w:=by
  have hg:eqGuard op t x y xv yv=pure ():=by
    unfold eqGuard
    cases op <;> first | rfl | cases hne
  unfold execOp
  simp only[hx,hy,hg,hr,Sem.run_bind,Sem.run_pure,Result.andThen_ok]
theorem Yk.bin{K:Value→World→Prop}{op:BinOp}{t ty2:TypeId}{x y:Operand}{d:Option Tmp}{ty:TypeId}{pos:String}{af:Array Edge}{gd:Option (Nat × Bool)}{ρ:Tmp→Value}{xv yv v:Value}{w:World} 
    (hx:Ad ρ x=xv) (hy:Ad ρ y=yv) (hne:(op matches .eql | .neq)=false) (hr:Go.binOp op t xv yv=pure v) (hk:K v w):Yk P K ((execOp (Ad ρ) ⟨d, .binOp op t x y ty2,ty,pos,af,gd⟩).run P w):=
  Yk.value (OD hx hy hne hr) hk
theorem Yk.not32{K:Value→World→Prop}{t:TypeId}{x:Operand}{d:Option Tmp}{ty:TypeId}{pos:String}{af:Array Edge}{gd:Option (Nat × Bool)}{ρ:Tmp→Value}{a:UInt32}{w:World} 
    (hx:Ad ρ x=U a) (hk:K (U (~~~a)) w):Yk P K ((execOp (Ad ρ) ⟨d, .unOp .xor t x,ty,pos,af,gd⟩).run P w):=by
  refine Yk.value (v:=U (~~~a)) (w' :=w) ?_ hk
  unfold execOp
  simp only[hx,O9]
  simp
theorem Yk.wide{K:Value→World→Prop}{src dst:TypeId}{x:Operand}{d:Option Tmp}{ty:TypeId}{pos:String}{af:Array Edge}{gd:Option (Nat × Bool)}{ρ:Tmp→Value}{a:UInt8}{w:World} 
    (hs:P.underlying src=some (.int .u8)) (hd:P.underlying dst=some (.int .u32)) (hx:Ad ρ x=B8 a) (hk:K (U a.toUInt32) w):Yk P K ((execOp (Ad ρ) ⟨d, .convert src dst x,ty,pos,af,gd⟩).run P w):=by
  refine Yk.value (v:=U a.toUInt32) (w' :=w) ?_ hk
  unfold execOp
  simp only[hx,convert,Sem.run_bind,run_underlying hs,run_underlying hd,Result.andThen_ok,Conv.intToInt,Sem.run_pure]
  rw[Ea,Nat.mod_eq_of_lt (by have:=a.toNat_lt;omega)]
  simp[U]
theorem Yk.narrow{K:Value→World→Prop}{src dst:TypeId}{x:Operand}{d:Option Tmp}{ty:TypeId}{pos:String}{af:Array Edge}{gd:Option (Nat × Bool)}{ρ:Tmp→Value}{a:UInt32}{w:World} 
    (hs:P.underlying src=some (.int .u32)) (hd:P.underlying dst=some (.int .u8)) (hx:Ad ρ x=U a) (hk:K (B8 a.toUInt8) w):Yk P K ((execOp (Ad ρ) ⟨d, .convert src dst x,ty,pos,af,gd⟩).run P w):=by
  refine Yk.value (v:=B8 a.toUInt8) (w' :=w) ?_ hk
  unfold execOp
  simp only[hx,convert,Sem.run_bind,run_underlying hs,run_underlying hd,Result.andThen_ok,Conv.intToInt,Sem.run_pure]
  rw[KT]
  simp[B8]
theorem Lp{t e:TypeId}{n:Nat}(ht:P.underlying t=some (.array n e))(he:∀w' :World,(sizeOf e).run P w' = .ok 1 w'){x y:Operand}{d:Option Tmp}{ty:TypeId}{pos:String}{af:Array Edge}{gd:Option (Nat × Bool)}{ρ:Operand→Value}{w:World}{b o i:Nat}{k:IntKind} 
    (hx:ρ x = .pointer (some ⟨b,o,none⟩)) (hy:ρ y = .int k (i:Int)) (hi:i<n):(execOp ρ ⟨d, .indexAddr t x y,ty,pos,af,gd⟩).run P w = .ok (.value (.pointer (some ⟨b,o+i,none⟩))) w:=by
  have hE:P.elem t=e:=by simp[Program.elem,ht]
  have hN:P.arrayLen t=n:=by simp[Program.arrayLen,ht]
  have hr:=run_indexAt_array (P:=P) w t ⟨b,o,none⟩ k (i:Int) (by rw[hE,hN];exact ht)
  rw[if_pos (by rw[hN];omega),hE,he]at hr
  unfold execOp
  simp only[hx,hy,Sem.run_bind,hr,Result.andThen_ok,Sem.run_pure]
  simp[Addr.add_lit]
theorem Yk.atArr{K:Value→World→Prop}{t e:TypeId}{n:Nat}(ht:P.underlying t=some (.array n e))(he:∀w' :World,(sizeOf e).run P w' = .ok 1 w'){x y:Operand}{d:Option Tmp}{ty:TypeId}{pos:String}{af:Array Edge}{gd:Option (Nat × Bool)}{ρ:Tmp→Value}{w:World}{b o i:Nat}{k:IntKind} 
    (hx:Ad ρ x = .pointer (some ⟨b,o,none⟩)) (hy:Ad ρ y = .int k (i:Int)) (hi:i<n) (hk:K (.pointer (some ⟨b,o+i,none⟩)) w):Yk P K ((execOp (Ad ρ) ⟨d, .indexAddr t x y,ty,pos,af,gd⟩).run P w):=
  Yk.value (Lp ht he hx hy hi) hk
theorem Yk.atSl{K:Value→World→Prop}{t e:TypeId}(ht:P.underlying t=some (.slice e))(he:∀w' :World,(sizeOf e).run P w' = .ok 1 w'){x y:Operand}{d:Option Tmp}{ty:TypeId}{pos:String}{af:Array Edge}{gd:Option (Nat × Bool)}{ρ:Tmp→Value}{w:World}{b o i n c:Nat}{k:IntKind} 
    (hx:Ad ρ x = .slice (some ⟨b,o,none⟩) n c) (hy:Ad ρ y = .int k (i:Int)) (hi:i<n) (hk:K (.pointer (some ⟨b,o+i,none⟩)) w):Yk P K ((execOp (Ad ρ) ⟨d, .indexAddr t x y,ty,pos,af,gd⟩).run P w):=by
  refine Yk.value (v:= .pointer (some ⟨b,o+i,none⟩)) (w' :=w) ?_ hk
  have hE:P.elem t=e:=by simp[Program.elem,ht]
  have hr:=run_indexAt_slice (P:=P) w t ⟨b,o,none⟩ n c k (i:Int) (by rw[hE];exact ht)
  rw[if_pos (by omega),hE,he]at hr
  unfold execOp
  simp only[hx,hy,Sem.run_bind,hr,Result.andThen_ok,Sem.run_pure]
  simp[Addr.add_lit]
theorem L7{ty:TypeId}{desc:TypeDesc}(hu:P.underlying ty=some desc)(hd:(match desc with | .struct _ | .array _ _=>false | _=>true)=true){x:Operand}{d:Option Tmp}{tt:TypeId}{pos:String}{af:Array Edge}{gd:Option (Nat × Bool)}{ρ:Operand→Value}{w:World}{a:Addr}{v:Value} 
    (hx:ρ x = .pointer (some a)) (hc:w.cell? a=some v):(execOp ρ ⟨d, .load ty x,tt,pos,af,gd⟩).run P w = .ok (.value v) w:=by
  have hl:(Instr.loadAt ty (.pointer (some a))).run P w = .ok v w:=by
    have hagg:(isAgg ty).run P w = .ok false w:=by
      unfold isAgg
      rw[Sem.run_bind,run_underlying hu w]
      cases desc <;> simp_all
    simp[Instr.loadAt,Instr.sureAddr,loadVar,hagg,hc]
  unfold execOp
  simp only[hx,Sem.run_bind,hl,Result.andThen_ok,Sem.run_pure]
theorem Yk.cell1{K:Value→World→Prop}{ty:TypeId}{desc:TypeDesc}(hu:P.underlying ty=some desc)(hd:(match desc with | .struct _ | .array _ _=>false | _=>true)=true){x:Operand}{d:Option Tmp}{tt:TypeId}{pos:String}{af:Array Edge}{gd:Option (Nat × Bool)}{ρ:Tmp→Value}{w:World}{a:Addr}{v:Value} 
    (hx:Ad ρ x = .pointer (some a)) (hc:w.cell? a=some v) (hk:K v w):Yk P K ((execOp (Ad ρ) ⟨d, .load ty x,tt,pos,af,gd⟩).run P w):=
  Yk.value (L7 hu hd hx hc) hk

open Go.RowKit
section
variable {P : Program} {K : Value → World → Prop} {ρ : Aq} {w : World} {d : Option Tmp} {ty : TypeId} {pos : String} {af : Array Edge} {gd : Option (Nat × Bool)}
theorem Yk.move{x:Operand}{v:Value}(hx:Ad ρ x=v)(hk:K v w):Yk P K ((execOp (Ad ρ) ⟨d, .move x,ty,pos,af,gd⟩).run P w):=by
  subst hx;exact hk
theorem Yk.assign{x:Operand}{v:Value}(hx:Ad ρ x=v)(hk:K v w):Yk P K ((execOp (Ad ρ) ⟨d, .assign x,ty,pos,af,gd⟩).run P w):=by
  subst hx;exact hk
theorem Yk.pickT{c x y:Operand}{v:Value}(hc:Ad ρ c = .bool true)(hx:Ad ρ x=v)(hk:K v w):Yk P K ((execOp (Ad ρ) ⟨d, .pick c x y,ty,pos,af,gd⟩).run P w):=by
  subst hx
  unfold execOp
  simp only[hc,asBool,Sem.run_bind,Sem.run_pure,Result.andThen_ok,if_true]
  exact hk
theorem Yk.pickF{c x y:Operand}{v:Value}(hc:Ad ρ c = .bool false)(hx:Ad ρ y=v)(hk:K v w):Yk P K ((execOp (Ad ρ) ⟨d, .pick c x y,ty,pos,af,gd⟩).run P w):=by
  subst hx
  unfold execOp
  simp only[hc,asBool,Sem.run_bind,Sem.run_pure,Result.andThen_ok,Bool.false_eq_true,if_false]
  exact hk
theorem Yk.nilCheck{x:Operand}{a:Addr}(hx:Ad ρ x = .pointer (some a))(hk:K (.pointer (some a)) w):Yk P K ((execOp (Ad ρ) ⟨d, .nilCheck x,ty,pos,af,gd⟩).run P w):=by
  unfold execOp
  simp only[hx]
  exact hk
def BK(P:Program)(s:TypeId)(f off:Nat):Prop:=∀(b o:Nat) (w:World),(Instr.fieldAt s (.pointer (some ⟨b,o,none⟩)) f).run P w = .ok (.pointer (some ⟨b,o+off,none⟩)) w
theorem Yk.fieldAt{s:TypeId}{f off b o:Nat}(hf:BK P s f off){x:Operand}(hx:Ad ρ x = .pointer (some ⟨b,o,none⟩))(hk:K (.pointer (some ⟨b,o+off,none⟩)) w):Yk P K ((execOp (Ad ρ) ⟨d, .fieldAddr s x f,ty,pos,af,gd⟩).run P w):=by
  unfold execOp
  simp only[hx,Sem.run_bind,hf b o w,Result.andThen_ok,Sem.run_pure]
  exact hk
theorem Yk.alloc{e:TypeId}{cs:Array Value}(hz:∀(σ:Operand→Value) (w:World),(execOp σ ⟨d, .alloc e,ty,pos,af,gd⟩).run P w = .ok (.value (.pointer (some ⟨w.heap.size,0,none⟩))) (w.alloc (.cells cs e))) 
    (hk:∀n w',w.heap.size=n→w'.heap[n]? =some (.cells cs e (0,0))→Ext w w' →w'.heap.size=n+1→K (.pointer (some ⟨n,0,none⟩)) w'):Yk P K ((execOp (Ad ρ) ⟨d, .alloc e,ty,pos,af,gd⟩).run P w):=by
  rw[hz]
  exact hk _ _ rfl (heap_alloc_new w _) ((Below.refl _ _).alloc (Nat.le_refl _) _) (by simp)
theorem Yk.box{e:TypeId}{x:Operand}{cs:Array Value}(hx:Ad ρ x = .agg cs) 
    (hk:∀n w',w.heap.size=n→w'.heap[n]? =some (.cells cs e (0,0))→Ext w w' →w'.heap.size=n+1→K (.pointer (some ⟨n,0,none⟩)) w'):Yk P K ((execOp (Ad ρ) ⟨d, .box e x,ty,pos,af,gd⟩).run P w):=by
  have hr:(execOp (Ad ρ) ⟨d, .box e x,ty,pos,af,gd⟩).run P w = .ok (.value (.pointer (some ⟨w.heap.size,0,none⟩))) (w.alloc (.cells cs e)):=by
    show((Instr.box e (Ad ρ x)).run P w).andThen (fun v w=>Result.ok (Next.value v) w)=_
    rw[hx]
    rfl
  rw[hr]
  exact hk _ _ rfl (heap_alloc_new w _) ((Below.refl _ _).alloc (Nat.le_refl _) _) (by simp)
theorem Yk.lenRB{t e:TypeId}(ht:P.underlying t=some (.slice e)){x:Operand}{l:List UInt8}(h:RB w (Ad ρ x) l)(hk:K (NI l.length) w):Yk P K ((execOp (Ad ρ) ⟨d, .call ⟨.builtin .len,#[x],#[t]⟩,ty,pos,af,gd⟩).run P w):=by
  obtain⟨h1,ao,cap,hv,h2,h3,h4,h5⟩:=h
  refine Yk.value (v:=NI l.length) (w' :=w) ?_ hk
  unfold execOp
  simp[resolve,invoke,builtin,Builtin.len_,hv,run_underlying ht,goInt]
theorem Yk.lenSl{t e:TypeId}(ht:P.underlying t=some (.slice e)){x:Operand}{ao:Option Addr}{n c:Nat}(hx:Ad ρ x = .slice ao n c)(hk:K (NI n) w):Yk P K ((execOp (Ad ρ) ⟨d, .call ⟨.builtin .len,#[x],#[t]⟩,ty,pos,af,gd⟩).run P w):=by
  refine Yk.value (v:=NI n) (w' :=w) ?_ hk
  unfold execOp
  simp[resolve,invoke,builtin,Builtin.len_,hx,run_underlying ht,goInt]
def PCell(v:Value):Bn:=fun x w=>∃a,x = .pointer (some a)∧w.cell? a=some v
theorem Stab.pcell(v:Value):Stab Ext (PCell v):=fun _ _ _ ⟨a,hx,hc⟩ h=>⟨a,hx,by rw[Below.cell h (World.block_lt_of_cell? _ a hc)];exact hc⟩
theorem PCell.keep{v x:Value}{w w' :World}(h:PCell v x w)(k:Ext w w'):PCell v x w' :=Stab.pcell v x w w' h k
theorem Yk.atRB{t e:TypeId}(ht:P.underlying t=some (.slice e))(he:∀w' :World,(sizeOf e).run P w' = .ok 1 w'){x y:Operand}{l:List UInt8}(h:RB w (Ad ρ x) l){k:IntKind}{i:Nat}(hy:Ad ρ y = .int k (i:Int))(hi:i<l.length) 
    (hk:∀v,PCell (B8 (l.getD i 0)) v w→K v w):Yk P K ((execOp (Ad ρ) ⟨d, .indexAddr t x y,ty,pos,af,gd⟩).run P w):=by
  obtain⟨b,off,cap,hv,h1,h2,h3,h4⟩:=h.open_ (by omega)
  exact Yk.atSl ht he hv hy hi (hk _ ⟨_,rfl,h4 i hi⟩)
theorem Yk.loadC{t:TypeId}{desc:TypeDesc}(hu:P.underlying t=some desc)(hd:(match desc with | .struct _ | .array _ _=>false | _=>true)=true){x:Operand}{v:Value}(hx:PCell v (Ad ρ x) w)(hk:K v w):Yk P K ((execOp (Ad ρ) ⟨d, .load t x,ty,pos,af,gd⟩).run P w):=by
  obtain⟨a,ha,hc⟩:=hx
  exact Yk.cell1 hu hd ha hc hk
theorem Yk.eqI{op:BinOp}{t ty2:TypeId}{x y:Operand}{k:IntKind}{a b:Int}{v:Value}(hx:Ad ρ x = .int k a)(hy:Ad ρ y = .int k b)(hr:Go.binOp op t (.int k a) (.int k b)=pure v)(hk:K v w):Yk P K ((execOp (Ad ρ) ⟨d, .binOp op t x y ty2,ty,pos,af,gd⟩).run P w):=by
  have hg:eqGuard op t x y (.int k a) (.int k b)=pure ():=by
    unfold eqGuard
    cases op <;> rfl
  refine Yk.value (v:=v) (w' :=w) ?_ hk
  unfold execOp
  simp only[hx,hy,hg,hr,Sem.run_bind,Sem.run_pure,Result.andThen_ok]
theorem Yk.notB{t:TypeId}{x:Operand}{b:Bool}(hx:Ad ρ x = .bool b)(hk:K (.bool (!b)) w):Yk P K ((execOp (Ad ρ) ⟨d, .unOp .not t x,ty,pos,af,gd⟩).run P w):=by
  refine Yk.value (v:= .bool (!b)) (w' :=w) ?_ hk
  unfold execOp
  simp[hx,Op.unary]
theorem Yk.run{o:Oper}{v:Value}(hr:(execOp (Ad ρ) o).run P w = .ok (.value v) w)(hk:K v w):Yk P K ((execOp (Ad ρ) o).run P w):=by rw[hr];exact hk
theorem Pn{src dst:TypeId}{ks kd:IntKind}(hs:P.underlying src=some (.int ks))(hd:P.underlying dst=some (.int kd))(a:Int)(w:World):(convert src dst (.int ks a)).run P w = .ok (.int kd (kd.wrap a)) w:=by
  simp only[convert,Sem.run_bind,run_underlying hs,run_underlying hd,Result.andThen_ok,Conv.intToInt,Sem.run_pure]
theorem Yk.convI{src dst:TypeId}{ks kd:IntKind}(hs:P.underlying src=some (.int ks))(hd:P.underlying dst=some (.int kd)){x:Operand}{a b:Int}(hx:Ad ρ x = .int ks a)(hb:kd.wrap a=b)(hk:K (.int kd b) w):Yk P K ((execOp (Ad ρ) ⟨d, .convert src dst x,ty,pos,af,gd⟩).run P w):=by
  refine Yk.value (v:= .int kd b) (w' :=w) ?_ hk
  have:=Go.Proofs.YtcegdjpdnlaleaaDoor.Pn (P:=P) hs hd a w
  unfold execOp
  simp only[hx,Sem.run_bind,this,Result.andThen_ok,Sem.run_pure,hb]
theorem Yk.appendRB(s x:Operand){t tx e e' :TypeId}(base:Nat)(z:Value)(ht:P.underlying t=some (.slice e))(hi:(P.info? e).map (fun i=>(i.zero,i.size,i.bytes))=some (some z,1,1))(hzs:z.cells.size=1)(hu:P.underlying tx=some (.slice e')) 
    (l m:List UInt8) (hown:w.ownsRow base e 1 (Ad ρ s) l.length (Lib.byteCells l)) (hsrc:RB w (Ad ρ x) m) (hb:l.length+m.length≤140737488355328) (hbase:base≤w.heap.size)
    (h:∀v' w',w'.ownsRow base e 1 v' (l++m).length (Lib.byteCells (l++m))→Grew w w' (Ad ρ s) v' →K v' w'):Yk P K ((execOp (Ad ρ) ⟨d, .call ⟨.builtin .append,#[s,x],#[t,tx]⟩,ty,pos,af,gd⟩).run P w):=
  Yk.append s x base e z 1 1 ht hi hzs l.length (Lib.byteCells l) hown m.length (Lib.byteCells m) (hsrc.src hu) (by unfold maxLen;omega) (by omega) hbase fun v' w' ho g=>h v' w' (by rw[List.length_append,Lib.byteCells_append];exact ho) g
theorem Yk.lits{t e:TypeId}{n:Nat}{parts:Array (Nat × Operand)}{cs:Array Value}(hr:∀w:World,(Instr.buildSlice t n (parts.map fun(i,x)=>(i,Ad ρ x))).run P w = .ok (.slice (some ⟨w.heap.size,0,none⟩) n n) (w.alloc (.cells cs e))) 
    (hk:∀b w',w.heap.size=b→w'.heap[b]? =some (.cells cs e (0,0))→Ext w w' →w'.heap.size=b+1→K (.slice (some ⟨b,0,none⟩) n n) w'):Yk P K ((execOp (Ad ρ) ⟨d, .buildSlice t n parts,ty,pos,af,gd⟩).run P w):=by
  have hr' :(execOp (Ad ρ) ⟨d, .buildSlice t n parts,ty,pos,af,gd⟩).run P w = .ok (.value (.slice (some ⟨w.heap.size,0,none⟩) n n)) (w.alloc (.cells cs e)):=by
    unfold execOp
    simp only[Sem.run_bind,hr,Result.andThen_ok,Sem.run_pure]
  rw[hr']
  exact hk _ _ rfl (heap_alloc_new w _) ((Below.refl _ _).alloc (Nat.le_refl _) _) (by simp)
theorem FT(w:World)(e:TypeId)(l:List UInt8)(hl:l.length≤9223372036854775807):NewB e w (w.alloc (.cells (Lib.byteCells l).toArray e)) (.slice (some ⟨w.heap.size,0,none⟩) l.length l.length) l:=
  ⟨⟨by rw[Lib.byteCells_length];simp, .inr ⟨w.heap.size,l.length,(Lib.byteCells l).toArray,rfl,Nat.le_refl _,heap_alloc_new w _,Nat.le_refl _,hl,by simp[Lib.byteCells_length],by rw[show l.length*1=(Lib.byteCells l).length by rw[Lib.byteCells_length];simp];exact List.take_length⟩⟩,World.grownBy_alloc _ _ none⟩
theorem Yk.callA{f:FuncId}(hp:A2 P f){args:Array Operand}{at_:Array TypeId}(vs:List Value)(hv:args.toList.map (Ad ρ)=vs) 
    (h:Calls P f vs.toArray w fun e w' =>∃v,e = .returned v∧K v w'):Yk P K ((execOp (Ad ρ) ⟨d, .call ⟨.value (.func f),args,at_⟩,ty,pos,af,gd⟩).run P w):=by
  subst hv
  have:=Yk.call (P:=P) (K:=K) hp (ρ:=ρ) (args:=args.toList) (at_:=at_) (dst:=d) (ty:=ty) (pos:=pos) (af:=af) (gd:=gd) (w:=w) h
  simpa using this
theorem Yk.callA0{f:FuncId}(hp:A2 P f){at_:Array TypeId} 
    (h:Calls P f #[] w fun e w' =>∃v,e = .returned v∧K v w'):Yk P K ((execOp (Ad ρ) ⟨d, .call ⟨.value (.func f),#[],at_⟩,ty,pos,af,gd⟩).run P w):=
  Yk.callA hp [] (by simp) h
theorem Yk.callA1{f:FuncId}(hp:A2 P f){x0:Operand}{a:Value}{at_:Array TypeId}(h0:Ad ρ x0=a) 
    (h:Calls P f #[a] w fun e w' =>∃v,e = .returned v∧K v w'):Yk P K ((execOp (Ad ρ) ⟨d, .call ⟨.value (.func f),#[x0],at_⟩,ty,pos,af,gd⟩).run P w):=
  Yk.callA hp [a] (by simp[h0]) h
theorem Yk.callA2{f:FuncId}(hp:A2 P f){x0 x1:Operand}{a b:Value}{at_:Array TypeId}(h0:Ad ρ x0=a)(h1:Ad ρ x1=b) 
    (h:Calls P f #[a,b] w fun e w' =>∃v,e = .returned v∧K v w'):Yk P K ((execOp (Ad ρ) ⟨d, .call ⟨.value (.func f),#[x0,x1],at_⟩,ty,pos,af,gd⟩).run P w):=
  Yk.callA hp [a,b] (by simp[h0,h1]) h
theorem Yk.callA3{f:FuncId}(hp:A2 P f){x0 x1 x2:Operand}{a b c:Value}{at_:Array TypeId}(h0:Ad ρ x0=a)(h1:Ad ρ x1=b)(h2:Ad ρ x2=c) 
    (h:Calls P f #[a,b,c] w fun e w' =>∃v,e = .returned v∧K v w'):Yk P K ((execOp (Ad ρ) ⟨d, .call ⟨.value (.func f),#[x0,x1,x2],at_⟩,ty,pos,af,gd⟩).run P w):=
  Yk.callA hp [a,b,c] (by simp[h0,h1,h2]) h
theorem Yk.convRB{src dst e:TypeId}(hs:P.underlying src=some (.slice e))(he:P.underlying e=some (.int .u8))(hd:P.underlying dst=some .string){x:Operand}{l:List UInt8} 
    (h:RB w (Ad ρ x) l) (hk:K (.string ⟨l.toArray⟩) w):Yk P K ((execOp (Ad ρ) ⟨d, .convert src dst x,ty,pos,af,gd⟩).run P w):=by
  have hr:=Jr (P:=P) hs he hd h
  refine Yk.value (v:= .string ⟨l.toArray⟩) (w' :=w) ?_ hk
  unfold execOp
  simp only[Sem.run_bind,hr,Result.andThen_ok,Sem.run_pure]
theorem RB.of{v x:Value}{l:List UInt8}(h:RB w v l)(e:x=v):RB w x l:=by rw[e];exact h
theorem PCell.of{v x y:Value}(h:PCell v x w)(e:y=x):PCell v y w:=by rw[e];exact h
theorem BB{v x:Value}{b:Nat}{e:TypeId}{z n:Nat}{xs:List Value}(h:w.ownsRow b e z v n xs)(e' :x=v):w.ownsRow b e z x n xs:=by rw[e'];exact h
theorem oM{Q:B9}{ops:Array Oper}{n:Nat}{rest:List Oper}{dst:Option Tmp}{x:Operand}{ty:TypeId}{pos:String}{af:Array Edge}(hd:(match dst with | some d=>Nat.blt d n | none=>true)=true)(h:Dm P ops n Q rest (Cb ρ dst (Ad ρ x)) w):Dm P ops n Q (⟨dst, .move x,ty,pos,af,none⟩ :: rest) ρ w:=oS hd (Yk.move rfl h)
theorem oA{Q:B9}{ops:Array Oper}{n:Nat}{rest:List Oper}{dst:Option Tmp}{x:Operand}{ty:TypeId}{pos:String}{af:Array Edge}(hd:(match dst with | some d=>Nat.blt d n | none=>true)=true)(h:Dm P ops n Q rest (Cb ρ dst (Ad ρ x)) w):Dm P ops n Q (⟨dst, .assign x,ty,pos,af,none⟩ :: rest) ρ w:=oS hd (Yk.assign rfl h)
def FU(ρ:Aq):List (Nat × Value)→Prop
  | []=>True
  | (t,v) :: r=>ρ t=v∧FU ρ r
theorem EndF.hold{ds:List Tmp}{ρ ρ' :Aq}(h:EndF ds ρ ρ'):∀(l:List (Nat × Value)) (_:FU ρ l) (_:(l.all fun p=> !ds.contains p.1)=true),FU ρ' l
  | [],_,_=>trivial
  | (t,v) :: r,hl,hd=>by
    rw[List.all_cons,Bool.and_eq_true]at hd
    exact⟨h.at_ hl.1 (by simpa using hd.1),EndF.hold h r hl.2 hd.2⟩
theorem Kq{Q:B9}{e:Exit}(l:List (Nat × Value))(hF:FU ρ l)(h:∀ρ',FU ρ' l→Q e ρ' w):Q e ρ w:=h ρ hF
theorem AH{Q:B9}{ops:Array Oper}{n:Nat}(l:List (Nat × Value))(hF:FU ρ l)(h:∀ρ',FU ρ' l→Q .normal ρ' w):Dm P ops n Q [] ρ w:=oZ (h ρ hF)
theorem AC{w0 w w' :World}{v v' :Value}{b:Nat}{e:TypeId}{z n:Nat}{xs:List Value}(h:Ext w0 w)(g:Grew w w' v v')(ho:w.ownsRow b e z v n xs)(hb:w0.heap.size≤b):Ext w0 w' :=
  Below.grown h g.by_ h.size (fun k hk=>Nat.le_trans hb (ho.lt k hk).1)
theorem AP{w w' :World}{v v' :Value}{g:Nat}{o:Obj}(h:w.heap[g]? =some o)(gr:Grew w w' v v')(hne:v.ownBlock≠some g):w'.heap[g]? =some o:=
  (gr.by_.block g (Array.getElem?_eq_some_iff.1 h).1 (fun e=>hne e.symm)).trans h
theorem BO{w:World}{v:Value}{b:Nat}{e:TypeId}{z n:Nat}{xs:List Value}{g:Nat}(ho:w.ownsRow b e z v n xs)(hg:g<b):v.ownBlock≠some g:=fun h=>by have:=(ho.lt g h).1;omega
theorem AV{w:World}{v:Value}{b:Nat}{e:TypeId}{z n:Nat}{xs:List Value}{g:Nat}(ho:w.ownsRow b e z v n xs)(hg:w.heap.size≤g):v.ownBlock≠some g:=fun h=>by have:=(ho.lt g h).2;omega
theorem Ax{w w' :World}{v v' :Value}{g:Nat}(gr:Grew w w' v v')(h:v.ownBlock≠some g)(hg:g<w.heap.size):v'.ownBlock≠some g:=fun h' =>by
  rcases gr.fresh g h' with h1 | h1
  · exact h h1
  · omega
theorem A7{w w' :World}{v:Value}{b:Nat}{e:TypeId}{z n:Nat}{xs:List Value}{g:Nat}(ho:w.ownsRow b e z v n xs)(h:w.grownBy w' (some g))(hne:v.ownBlock≠some g):w'.ownsRow b e z v n xs:=
  ho.kept h (.inr hne)
theorem Yk.lit1{t e:TypeId}(hr:∀(z:Int) (w:World),(Instr.buildSlice t 1 #[(0, .int .u8 z)]).run P w = .ok (.slice (some ⟨w.heap.size,0,none⟩) 1 1) (w.alloc (.cells #[.int .u8 z] e))){x:Operand}{b:UInt8}(hx:Ad ρ x=B8 b) 
    (hk:∀v w',NewB e w w' v [b]→K v w'):Yk P K ((execOp (Ad ρ) ⟨d, .buildSlice t 1 #[(0,x)],ty,pos,af,gd⟩).run P w):=by
  have hr' :(execOp (Ad ρ) ⟨d, .buildSlice t 1 #[(0,x)],ty,pos,af,gd⟩).run P w = .ok (.value (.slice (some ⟨w.heap.size,0,none⟩) 1 1)) (w.alloc (.cells #[B8 b] e)):=by
    have:=hr (b.toNat:Int) w
    unfold execOp
    simp only[List.map_toArray,List.map_cons,List.map_nil,hx,Sem.run_bind]
    rw[this]
    rfl
  rw[hr']
  exact hk _ _ (FT w e [b] (by simp))
theorem Yk.lit0{t e:TypeId}(hr:∀(w:World),(Instr.buildSlice t 0 #[]).run P w = .ok (.slice (some ⟨w.heap.size,0,none⟩) 0 0) (w.alloc (.cells #[] e))) 
    (hk:∀v w',NewB e w w' v []→K v w'):Yk P K ((execOp (Ad ρ) ⟨d, .buildSlice t 0 #[],ty,pos,af,gd⟩).run P w):=by
  have hr' :(execOp (Ad ρ) ⟨d, .buildSlice t 0 #[],ty,pos,af,gd⟩).run P w = .ok (.value (.slice (some ⟨w.heap.size,0,none⟩) 0 0)) (w.alloc (.cells #[] e)):=by
    unfold execOp
    simp only[List.map_toArray,List.map_nil,Sem.run_bind,hr,Result.andThen_ok,Sem.run_pure]
  rw[hr']
  exact hk _ _ (FT w e [] (by decide))
theorem Yk.litN{t e:TypeId}{n:Nat}{parts:Array (Nat × Operand)}(l:List UInt8)(hl:l.length≤9223372036854775807)(hr:∀(σ:Aq) (w:World),(execOp (Ad σ) ⟨d, .buildSlice t n parts,ty,pos,af,gd⟩).run P w = .ok (.value (.slice (some ⟨w.heap.size,0,none⟩) l.length l.length)) (w.alloc (.cells (Lib.byteCells l).toArray e))) 
    (hk:∀v w',NewB e w w' v l→K v w'):Yk P K ((execOp (Ad ρ) ⟨d, .buildSlice t n parts,ty,pos,af,gd⟩).run P w):=by
  rw[hr]
  exact hk _ _ (FT w e l hl)
theorem CE{l:List UInt8}{i:Nat}(hi:i<l.length):(Lib.byteCells l)[i]? =some (B8 (l.getD i 0)):=by simp[Lib.byteCells,hi]
theorem AW{l:List UInt32}{i:Nat}(hi:i<l.length):(l.map fun x=>U x)[i]? =some (U (l.getD i 0)):=by simp[hi]
theorem Jd(l:List UInt8)(i:Nat)(x:UInt8):(Lib.byteCells l).set i (B8 x)=Lib.byteCells (l.set i x):=by simp[Lib.byteCells,List.map_set]
theorem Ai{b:Nat}{l:List Value}{t:TypeId}{fr:Nat × Nat}(h:w.heap[b]? =some (.cells l.toArray t fr)){i:Nat}{v:Value}(hi:l[i]? =some v):w.cell? ⟨b,i,none⟩=some v:=by
  simp[World.cell?,h,hi]
theorem Yk.storeC{t' :TypeId}{x y:Operand}{g i:Nat}{cs:List Value}{t:TypeId}{v:Value}(hx:Ad ρ x = .pointer (some ⟨g,i,none⟩))(hy:Ad ρ y=v)(hg:w.heap[g]? =some (.cells cs.toArray t (0,0)))(hi:i<cs.length)(hinfo:(P.info? t').map (·.size)=some 1)(hv:v.cells = #[v])(h1:v.oneCell' =true) 
    (hk:∀w',w'.heap[g]? =some (.cells (cs.set i v).toArray t (0,0))→w.grownBy w' (some g)→w'.heap.size=w.heap.size→K undef w'):Yk P K ((execOp (Ad ρ) ⟨d, .store t' x y,ty,pos,af,gd⟩).run P w):=by
  have hst:=run_storeCells_at P g i t [v] 0 cs.toArray w hg (by simp;omega) (by simpa using h1)
  have e:(cs.toArray.toList.take (i+0)++ [v]++cs.toArray.toList.drop (i+0+ [v].length))=cs.set i v:=by
    rw[List.set_eq_take_append_cons_drop,if_pos hi]
    simp
  rw[e]at hst
  have hr:(Instr.storeAt t' (.pointer (some ⟨g,i,none⟩)) v).run P w = .ok () (w.setRow g (cs.set i v).toArray):=by
    cases hq:P.info? t' with
    | none=>simp[hq]at hinfo
    | some q=>
      have hs:q.size=1:=by simp[hq]at hinfo;omega
      simp[Instr.storeAt,Instr.sureAddr,storeVar,sizeOf,typeInfo,hq,hv,hs,hst]
  unfold execOp
  simp only[hx,hy,hr,Sem.run_bind,Result.andThen_ok,Sem.run_pure]
  exact hk _ (setRow_heap w g cs.toArray _ t (0,0) hg) ⟨rfl,rfl,rfl,by simp,fun k _ hk=>setRow_other w g k _ (fun e=>hk (by rw[e]))⟩ (by simp)
theorem Yk.storeB8{t' :TypeId}{x y:Operand}{g i:Nat}{l:List UInt8}{t:TypeId}{v:UInt8}(hx:Ad ρ x = .pointer (some ⟨g,i,none⟩))(hy:Ad ρ y=B8 v)(hg:w.heap[g]? =some (.cells (Lib.byteCells l).toArray t (0,0)))(hi:i<l.length)(hinfo:(P.info? t').map (·.size)=some 1) 
    (hk:∀w',w'.heap[g]? =some (.cells (Lib.byteCells (l.set i v)).toArray t (0,0))→w.grownBy w' (some g)→w'.heap.size=w.heap.size→K undef w'):Yk P K ((execOp (Ad ρ) ⟨d, .store t' x y,ty,pos,af,gd⟩).run P w):=
  Yk.storeC hx hy hg (by rw[Lib.byteCells_length];exact hi) hinfo rfl rfl fun w' h1 h2 h3=>hk w' (by rw[←Jd];exact h1) h2 h3
theorem Yk.storeU32{t' :TypeId}{x y:Operand}{g i:Nat}{l:List UInt32}{t:TypeId}{v:UInt32}(hx:Ad ρ x = .pointer (some ⟨g,i,none⟩))(hy:Ad ρ y=U v)(hg:w.heap[g]? =some (.cells (l.map fun x=>U x).toArray t (0,0)))(hi:i<l.length)(hinfo:(P.info? t').map (·.size)=some 1) 
    (hk:∀w',w'.heap[g]? =some (.cells ((l.set i v).map fun x=>U x).toArray t (0,0))→w.grownBy w' (some g)→w'.heap.size=w.heap.size→K undef w'):Yk P K ((execOp (Ad ρ) ⟨d, .store t' x y,ty,pos,af,gd⟩).run P w):=
  Yk.storeC hx hy hg (by simpa using hi) hinfo rfl rfl fun w' h1 h2 h3=>hk w' (by rw[List.map_set];exact h1) h2 h3
theorem Yk.storeAll{t' :TypeId}{x y:Operand}{g:Nat}{cells cur:Array Value}{t:TypeId}(hx:Ad ρ x = .pointer (some ⟨g,0,none⟩))(hy:Ad ρ y = .agg cells)(hg:w.heap[g]? =some (.cells cur t (0,0)))(hs:cells.size=cur.size)(hi:(P.info? t').map (·.size)=some cells.size)(h1:∀v∈cells.toList,v.oneCell' =true) 
    (hk:∀w',w'.heap[g]? =some (.cells cells t (0,0))→w.grownBy w' (some g)→w'.heap.size=w.heap.size→K undef w'):Yk P K ((execOp (Ad ρ) ⟨d, .store t' x y,ty,pos,af,gd⟩).run P w):=by
  have hr:=Fd (P:=P) w g t' cells cur t hg hs hi h1
  unfold execOp
  simp only[hx,hy,hr,Sem.run_bind,Result.andThen_ok,Sem.run_pure]
  exact hk _ (setRow_heap w g cur cells t (0,0) hg) ⟨rfl,rfl,rfl,by simp,fun k _ hk=>setRow_other w g k _ (fun e=>hk (by rw[e]))⟩ (by simp)
theorem Yk.loadAll{t' :TypeId}{x:Operand}{g:Nat}{cs:Array Value}{t:TypeId}{fr:Nat × Nat}{de:TypeDesc}(hx:Ad ρ x = .pointer (some ⟨g,0,none⟩))(hg:w.heap[g]? =some (.cells cs t fr))(hu:P.underlying t' =some de)(hd:(match de with | .struct _ | .array _ _=>true | _=>false)=true)(hi:(P.info? t').map (·.size)=some cs.size) 
    (hk:K (.agg cs) w):Yk P K ((execOp (Ad ρ) ⟨d, .load t' x,ty,pos,af,gd⟩).run P w):=by
  have hr:=run_loadVar_row w g t t' cs fr de hg hu hd hi
  refine Yk.value (v:= .agg cs) (w' :=w) ?_ hk
  unfold execOp
  simp[hx,Instr.loadAt,Instr.sureAddr,hr]
def Bz:Value→Nat
  | .slice _ n _=>n
  | _=>0
theorem CV{b:Nat}{e:TypeId}{z n:Nat}{xs:List Value}{v:Value}(h:w.ownsRow b e z v n xs):Bz v=n:=by
  rcases h.2 with ⟨rfl,h0⟩ | ⟨g,cap,cur,rfl,-⟩
  · exact h0.symm
  · rfl
theorem RB.sliceLen{v:Value}{l:List UInt8}(h:RB w v l):Bz v=l.length:=by
  obtain⟨-,ao,cap,rfl,-⟩:=h
  rfl
theorem BI{b:Nat}{e:TypeId}{v:Value}{l l' :List UInt8}(h:w.ownsRow b e 1 v l.length (Lib.byteCells l))(e' :l=l'):w.ownsRow b e 1 v l'.length (Lib.byteCells l'):=by rw[←e'];exact h
theorem AZ{g:Nat}{l l' :List Value}{t:TypeId}{fr:Nat × Nat}(h:w.heap[g]? =some (.cells l.toArray t fr))(e:l=l'):w.heap[g]? =some (.cells l'.toArray t fr):=by rw[←e];exact h
theorem Yk.sliceLo{t e:TypeId}(ht:P.underlying t=some (.slice e))(he:∀w' :World,(sizeOf e).run P w' = .ok 1 w'){x lo:Operand}{v:Value}{xs:List UInt8}(hx:Ad ρ x=v)(h:RB w v xs){k:IntKind}{l:Nat}(hlo:Ad ρ lo = .int k (l:Int))(hl:l≤xs.length) 
    (hk:∀v',RB w v' (xs.drop l)→v'.ownBlock=v.ownBlock→K v' w):Yk P K ((execOp (Ad ρ) ⟨d, .slice t x (some lo) none none,ty,pos,af,gd⟩).run P w):=by
  obtain⟨ao,c,⟨hrun,hb⟩,hR⟩:=C4 ht he h (some (.int k l)) none l xs.length hl (Nat.le_refl _) (.inr ⟨k,rfl⟩) (.inl ⟨rfl,rfl⟩)
  have hR' :=RB.take_drop (Nat.le_refl _) hR
  rw[List.take_of_length_le (by rw[List.length_drop];exact Nat.le_refl _)]at hR'
  refine Yk.value (v:= .slice ao (xs.length-l) c) (w' :=w) ?_ (hk _ hR' hb)
  unfold execOp
  simp only[hx,hlo,Option.map_some,Option.map_none,hrun,Sem.run_bind,Sem.run_pure,Result.andThen_ok]
theorem Yk.sliceHi{t e:TypeId}(ht:P.underlying t=some (.slice e))(he:∀w' :World,(sizeOf e).run P w' = .ok 1 w'){x hi:Operand}{v:Value}{xs:List UInt8}(hx:Ad ρ x=v)(h:RB w v xs){k:IntKind}{n:Nat}(hhi:Ad ρ hi = .int k (n:Int))(hn:n≤xs.length) 
    (hk:∀v',RB w v' (xs.take n)→v'.ownBlock=v.ownBlock→K v' w):Yk P K ((execOp (Ad ρ) ⟨d, .slice t x none (some hi) none,ty,pos,af,gd⟩).run P w):=by
  obtain⟨ao,c,⟨hrun,hb⟩,hR⟩:=C4 ht he h none (some (.int k n)) 0 n (Nat.zero_le _) hn (.inl ⟨rfl,rfl⟩) (.inr ⟨k,rfl⟩)
  have hR' :=RB.take_drop hn hR
  rw[List.drop_zero,Nat.sub_zero]at hR'
  refine Yk.value (v:= .slice ao (n-0) c) (w' :=w) ?_ (hk _ hR' hb)
  unfold execOp
  simp only[hx,hhi,Option.map_some,Option.map_none,hrun,Sem.run_bind,Sem.run_pure,Result.andThen_ok]
theorem Yk.sliceLH{t e:TypeId}(ht:P.underlying t=some (.slice e))(he:∀w' :World,(sizeOf e).run P w' = .ok 1 w'){x lo hi:Operand}{v:Value}{xs:List UInt8}(hx:Ad ρ x=v)(h:RB w v xs){k k' :IntKind}{l n:Nat}(hlo:Ad ρ lo = .int k (l:Int))(hhi:Ad ρ hi = .int k' (n:Int))(hl:l≤n)(hn:n≤xs.length) 
    (hk:∀v',RB w v' ((xs.drop l).take (n-l))→v'.ownBlock=v.ownBlock→K v' w):Yk P K ((execOp (Ad ρ) ⟨d, .slice t x (some lo) (some hi) none,ty,pos,af,gd⟩).run P w):=by
  obtain⟨ao,c,⟨hrun,hb⟩,hR⟩:=C4 ht he h (some (.int k l)) (some (.int k' n)) l n hl hn (.inr ⟨k,rfl⟩) (.inr ⟨k',rfl⟩)
  refine Yk.value (v:= .slice ao (n-l) c) (w' :=w) ?_ (hk _ (RB.take_drop hn hR) hb)
  unfold execOp
  simp only[hx,hlo,hhi,Option.map_some,Option.map_none,hrun,Sem.run_bind,Sem.run_pure,Result.andThen_ok]
theorem Yk.storeHd{t' :TypeId}{x y:Operand}{g:Nat}{cells:Array Value}{cur:List Value}{t:TypeId}(hx:Ad ρ x = .pointer (some ⟨g,0,none⟩))(hy:Ad ρ y = .agg cells)(hg:w.heap[g]? =some (.cells cur.toArray t (0,0)))(hs:cells.size≤cur.length)(hi:(P.info? t').map (·.size)=some cells.size)(h1:∀v∈cells.toList,v.oneCell' =true) 
    (hk:∀w',w'.heap[g]? =some (.cells (cells.toList++cur.drop cells.size).toArray t (0,0))→w.grownBy w' (some g)→w'.heap.size=w.heap.size→K undef w'):Yk P K ((execOp (Ad ρ) ⟨d, .store t' x y,ty,pos,af,gd⟩).run P w):=by
  have hst:=run_storeCells_at P g 0 t cells.toList 0 cur.toArray w hg (by simpa using hs) h1
  have e:(cur.toArray.toList.take (0+0)++cells.toList++cur.toArray.toList.drop (0+0+cells.toList.length)).toArray=(cells.toList++cur.drop cells.size).toArray:=by simp
  rw[e]at hst
  have hr:(Instr.storeAt t' (.pointer (some ⟨g,0,none⟩)) (.agg cells)).run P w = .ok () (w.setRow g (cells.toList++cur.drop cells.size).toArray):=by
    cases hq:P.info? t' with
    | none=>simp[hq]at hi
    | some i=>
      have hsz:cells.size=i.size:=by simp[hq]at hi;omega
      simp[Instr.storeAt,Instr.sureAddr,storeVar,sizeOf,typeInfo,hq,Value.cells,hsz,hst]
  unfold execOp
  simp only[hx,hy,hr,Sem.run_bind,Result.andThen_ok,Sem.run_pure]
  exact hk _ (setRow_heap w g cur.toArray _ t (0,0) hg) ⟨rfl,rfl,rfl,by simp,fun k _ hk=>setRow_other w g k _ (fun e=>hk (by rw[e]))⟩ (by simp)
theorem Yk.loadPart{t' :TypeId}{x:Operand}{g o:Nat}{cs:List Value}{de:TypeDesc}(hx:Ad ρ x = .pointer (some ⟨g,o,none⟩))(hc:w.rangeAt g o cs)(hu:P.underlying t' =some de)(hd:de.isRow=true)(hi:(P.info? t').map (·.size)=some cs.length) 
    (hk:K (.agg cs.toArray) w):Yk P K ((execOp (Ad ρ) ⟨d, .load t' x,ty,pos,af,gd⟩).run P w):=by
  refine Yk.value (v:= .agg cs.toArray) (w' :=w) ?_ hk
  simp only[execOp,hx,Sem.run_bind,run_loadAt_mid w g o t' cs de hc hu hd hi,Result.andThen_ok,Sem.run_pure]
section
variable {Q : B9} {K : Aq → World → Prop}
theorem tN(h:K ρ w):Fe K Q .normal ρ w:=h
theorem Ag{i:Nat}(h:Q (.exit i) ρ w):Fe K Q (.exit i) ρ w:=h
theorem Am(h:Q .ret ρ w):Fe K Q .ret ρ w:=h
theorem bN{i:Nat}(h:Q .normal ρ w):D9 i Q .normal ρ w:=h
theorem AR{i:Nat}(h:Q .ret ρ w):D9 i Q .ret ρ w:=h
theorem Ap{i:Nat}(h:Q .normal ρ w):D9 i Q (.exit i) ρ w:=by
  simp only[D9,if_true]
  exact h
end
theorem Yk.idxA{xType e:TypeId}{n:Nat}(ht:P.underlying xType=some (.array n e)){de:TypeDesc}(he:P.underlying e=some de)(hd:(match de with | .struct _ | .array _ _=>false | _=>true)=true)(hs:∀w' :World,(sizeOf e).run P w' = .ok 1 w'){x y:Operand}{cs:List Value}{v:Value}{i:Nat}{k:IntKind} 
    (hx:Ad ρ x = .agg cs.toArray) (hy:Ad ρ y = .int k (i:Int)) (hi:i<n) (hv:cs[i]? =some v) (hk:K v w):Yk P K ((execOp (Ad ρ) ⟨d, .index xType x y,ty,pos,af,gd⟩).run P w):=by
  have hagg:(isAgg e).run P w = .ok false w:=by
    unfold isAgg
    rw[Sem.run_bind,run_underlying he w]
    cases de <;> simp_all
  refine Yk.value (v:=v) (w' :=w) ?_ hk
  unfold execOp
  simp only[hx,hy,Instr.index,asIntOf,Sem.run_bind,Sem.run_pure,Result.andThen_ok,run_underlying ht]
  rw[if_pos (by omega)]
  simp[hs,part,hagg,hv]
theorem Yk.idxU{xType e:TypeId}{n:Nat}(ht:P.underlying xType=some (.array n e)){de:TypeDesc}(he:P.underlying e=some de)(hd:(match de with | .struct _ | .array _ _=>false | _=>true)=true)(hs:∀w' :World,(sizeOf e).run P w' = .ok 1 w'){x y:Operand}{l:List UInt32}{i:Nat}{k:IntKind} 
    (hx:Ad ρ x = .agg (l.map fun x=>U x).toArray) (hy:Ad ρ y = .int k (i:Int)) (hi:i<n) (hl:l.length=n) (hk:K (U (l.getD i 0)) w):Yk P K ((execOp (Ad ρ) ⟨d, .index xType x y,ty,pos,af,gd⟩).run P w):=
  Yk.idxA ht he hd hs hx hy hi (AW (by omega)) hk
theorem Eg{t:TypeId}(h:(match P.underlying t with | some (.struct _)=>true | _=>false)=true):∃fs,P.underlying t=some (.struct fs):=by
  split at h
  · exact⟨_,‹_›⟩
  · cases h
theorem Yk.atArr0{t e:TypeId}{n:Nat}(ht:P.underlying t=some (.array n e))(he:∀w' :World,(sizeOf e).run P w' = .ok 1 w'){x y:Operand}{b i:Nat}{k:IntKind} 
    (hx:Ad ρ x = .pointer (some ⟨b,0,none⟩)) (hy:Ad ρ y = .int k (i:Int)) (hi:i<n) (hk:K (.pointer (some ⟨b,i,none⟩)) w):Yk P K ((execOp (Ad ρ) ⟨d, .indexAddr t x y,ty,pos,af,gd⟩).run P w):=
  Yk.atArr ht he hx hy hi (by rw[Nat.zero_add];exact hk)
theorem Lq{t e:TypeId}(ht:P.underlying t=some (.pointer e))(a:Option Addr)(w:World):(Op.equal t (.pointer a) (.pointer none)).run P w = .ok a.isNone w:=by
  unfold Op.equal
  rw[show Op.maxDepth=(Op.maxDepth-1)+1 from rfl]
  cases a <;> simp[Op.equalIn,run_underlying ht,Sem.run_bind,Sem.run_pure]
theorem Yk.eqlNil{t e ty2:TypeId}(ht:P.underlying t=some (.pointer e)){x:Operand}{a:Option Addr}(hx:Ad ρ x = .pointer a)(hk:K (.bool a.isNone) w):Yk P K ((execOp (Ad ρ) ⟨d, .binOp .eql t x (.const (.pointer none)) ty2,ty,pos,af,gd⟩).run P w):=by
  have hy:Ad ρ (.const (.pointer none)) = .pointer none:=rfl
  refine Yk.value (v:= .bool a.isNone) (w' :=w) ?_ hk
  have hr:=Lq ht a w
  unfold execOp
  simp only[hx,hy]
  cases a <;> simp[eqGuard,Go.binOp,hr]
theorem Ac{w0 w1 a:World}{g:Nat}(h0:Ext w0 w1)(h:w1.grownBy a (some g))(hg:w0.heap.size≤g):Ext w0 a:=
  Below.grown h0 h h0.size (fun k hk=>by cases hk;exact hg)
end
/-! ### Numbers that are not below 0 -/
section
theorem AN(t:TypeId)(k:IntKind)(a b:Nat):Go.binOp .lss t (.int k (a:Int)) (.int k (b:Int))=pure (.bool (decide (a<b))):=by
  simp[Go.binOp,Op.intCmp]
theorem C5(t:TypeId)(k:IntKind)(a b:Nat):Go.binOp .leq t (.int k (a:Int)) (.int k (b:Int))=pure (.bool (decide (a≤b))):=by
  simp[Go.binOp,Op.intCmp]
theorem Bm(t:TypeId)(k:IntKind)(a b:Nat):Go.binOp .gtr t (.int k (a:Int)) (.int k (b:Int))=pure (.bool (decide (b<a))):=by
  simp[Go.binOp,Op.intCmp]
theorem GY(t:TypeId)(k:IntKind)(a b:Nat):Go.binOp .geq t (.int k (a:Int)) (.int k (b:Int))=pure (.bool (decide (b≤a))):=by
  simp[Go.binOp,Op.intCmp]
theorem Br(t:TypeId)(k:IntKind)(a b:Nat):Go.binOp .eql t (.int k (a:Int)) (.int k (b:Int))=pure (.bool (decide (a=b))):=by
  have:((a:Int)==(b:Int))=decide (a=b):=by rw[Bool.eq_iff_iff];simp;omega
  simp[Go.binOp,Op.intCmp,this]
theorem Dn(t:TypeId)(k:IntKind)(a b:Nat):Go.binOp .neq t (.int k (a:Int)) (.int k (b:Int))=pure (.bool (decide (a≠b))):=by
  have:((a:Int) != (b:Int))=decide (a≠b):=by rw[Bool.eq_iff_iff];simp;omega
  simp[Go.binOp,Op.intCmp,this]
theorem Ej(t:TypeId)(k:IntKind)(a b:Int):Go.binOp .lss t (.int k a) (.int k b)=pure (.bool (decide (a<b))):=by simp[Go.binOp,Op.intCmp]
theorem Pa(t:TypeId)(k:IntKind)(a b:Int):Go.binOp .leq t (.int k a) (.int k b)=pure (.bool (decide (a≤b))):=by simp[Go.binOp,Op.intCmp]
theorem Ot(t:TypeId)(k:IntKind)(a b:Int):Go.binOp .gtr t (.int k a) (.int k b)=pure (.bool (decide (b<a))):=by simp[Go.binOp,Op.intCmp]
theorem FV(t:TypeId)(k:IntKind)(a b:Int):Go.binOp .geq t (.int k a) (.int k b)=pure (.bool (decide (b≤a))):=by simp[Go.binOp,Op.intCmp]
theorem Cy(n:Nat)(h:n<9223372036854775808):IntKind.i64.wrap (n:Int)=(n:Int):=by
  simp only[IntKind.wrap,IntKind.bits,IntKind.signed]
  have:(n:Int)%(2^64:Int)=n:=by omega
  simp only[this]
  rw[if_neg]
  simp
  omega
theorem Ak(t:TypeId)(a b:Nat)(h:a+b<9223372036854775808):Go.binOp .add t (.int .i64 (a:Int)) (.int .i64 (b:Int))=pure (.int .i64 ((a+b:Nat):Int)):=by
  unfold Go.binOp
  simp only[ne_eq,not_true_eq_false,if_false,Op.intArith]
  rw[←Int.natCast_add,Cy _ h]
theorem BG(t:TypeId)(a b:Nat)(h:a*b<9223372036854775808):Go.binOp .mul t (.int .i64 (a:Int)) (.int .i64 (b:Int))=pure (.int .i64 ((a*b:Nat):Int)):=by
  unfold Go.binOp
  simp only[ne_eq,not_true_eq_false,if_false,Op.intArith]
  rw[←Int.natCast_mul,Cy _ h]
theorem Bj(t:TypeId)(a b:Nat)(h:a<9223372036854775808)(hb:b≤a):Go.binOp .sub t (.int .i64 (a:Int)) (.int .i64 (b:Int))=pure (.int .i64 ((a-b:Nat):Int)):=by
  unfold Go.binOp
  simp only[ne_eq,not_true_eq_false,if_false,Op.intArith]
  rw[←Int.natCast_sub hb,Cy _ (by omega)]
theorem EU(t:TypeId)(a b:Nat)(h:a<9223372036854775808)(hb:0<b):Go.binOp .quo t (.int .i64 (a:Int)) (.int .i64 (b:Int))=pure (.int .i64 ((a/b:Nat):Int)):=by
  unfold Go.binOp
  simp only[ne_eq,not_true_eq_false,if_false,Op.intDiv]
  rw[if_neg (by omega),←Int.ofNat_tdiv,Cy _ (Nat.lt_of_le_of_lt (Nat.div_le_self a b) h)]
theorem FH(t:TypeId)(a b:Nat)(hb:0<b):Go.binOp .rem t (.int .i64 (a:Int)) (.int .i64 (b:Int))=pure (.int .i64 ((a%b:Nat):Int)):=by
  unfold Go.binOp
  simp only[ne_eq,not_true_eq_false,if_false,Op.intDiv]
  rw[if_neg (by omega),←Int.ofNat_tmod]
theorem If(t:TypeId)(a:Nat)(j:IntKind)(n:Nat)(hn:n<64):Go.binOp .shr t (.int .i64 (a:Int)) (.int j (n:Int))=pure (.int .i64 ((a/2^n:Nat):Int)):=by
  unfold Go.binOp
  simp only[Op.shift,IntKind.bits]
  rw[if_neg (by omega),Int.toNat_natCast,Nat.min_eq_left (by omega)]
  have:(a:Int).fdiv (2^n)=((a/2^n:Nat):Int):=by
    rw[show(2^n:Int)=((2^n:Nat):Int) by simp,Int.fdiv_eq_ediv_of_nonneg _ (Int.natCast_nonneg _)]
    rfl
  rw[this]
theorem Ig(t:TypeId)(a:Nat)(j:IntKind)(n:Nat)(hn:n<64)(h:a*2^n<9223372036854775808):Go.binOp .shl t (.int .i64 (a:Int)) (.int j (n:Int))=pure (.int .i64 ((a*2^n:Nat):Int)):=by
  unfold Go.binOp
  simp only[Op.shift,IntKind.bits]
  rw[if_neg (by omega),Int.toNat_natCast,Nat.min_eq_left (by omega)]
  have:(a:Int)*2^n=((a*2^n:Nat):Int):=by simp
  rw[this,Cy _ h]
theorem EZ(n:Nat)(h:n<18446744073709551616):IntKind.u64.wrap (n:Int)=(n:Int):=by
  simp only[IntKind.wrap,IntKind.bits,IntKind.signed]
  have:(n:Int)%(2^64:Int)=n:=by omega
  simp only[this]
  simp
theorem KU(t:TypeId)(a b:Nat)(h:a*b<18446744073709551616):Go.binOp .mul t (.int .u64 (a:Int)) (.int .u64 (b:Int))=pure (.int .u64 ((a*b:Nat):Int)):=by
  unfold Go.binOp
  simp only[ne_eq,not_true_eq_false,if_false,Op.intArith]
  rw[←Int.natCast_mul,EZ _ h]
theorem KV(t:TypeId)(a b:Nat)(h:a<18446744073709551616)(hb:b≤a):Go.binOp .sub t (.int .u64 (a:Int)) (.int .u64 (b:Int))=pure (.int .u64 ((a-b:Nat):Int)):=by
  unfold Go.binOp
  simp only[ne_eq,not_true_eq_false,if_false,Op.intArith]
  rw[←Int.natCast_sub hb,EZ _ (by omega)]
theorem KW(t:TypeId)(a:Nat)(j:IntKind)(n:Nat)(hn:n<64):Go.binOp .shr t (.int .u64 (a:Int)) (.int j (n:Int))=pure (.int .u64 ((a/2^n:Nat):Int)):=by
  unfold Go.binOp
  simp only[Op.shift,IntKind.bits]
  rw[if_neg (by omega),Int.toNat_natCast,Nat.min_eq_left (by omega)]
  have:(a:Int).fdiv (2^n)=((a/2^n:Nat):Int):=by
    rw[show(2^n:Int)=((2^n:Nat):Int) by simp,Int.fdiv_eq_ediv_of_nonneg _ (Int.natCast_nonneg _)]
    rfl
  rw[this]
theorem DX(n:Nat):IntKind.u8.wrap (n:Int)=((UInt8.ofNat n).toNat:Int):=by
  rw[KT]
  simp
theorem FI(k:IntKind)(b:UInt8)(h:∀n:Nat,n<256→k.wrap (n:Int)=(n:Int)):k.wrap (b.toNat:Int)=((b.toNat:Nat):Int):=h _ b.toNat_lt
end
open Go.RowKit
variable {P : Program}
def CW(l1 l2:List UInt8):List Nat→Bool
  | []=>true
  | i :: r=>if l1.getD i 0=l2.getD i 0 then CW l1 l2 r else false
theorem Gq(l1 l2:List UInt8):∀is:List Nat,CW l1 l2 is=true↔∀i∈is,l1.getD i 0=l2.getD i 0
  | []=>by simp[CW]
  | i :: r=>by
    have ih:=Gq l1 l2 r
    unfold CW
    split
    · rename_i h
      rw[ih]
      constructor
      · intro h2 j hj
        rcases List.mem_cons.1 hj with rfl | hj
        · exact h
        · exact h2 j hj
      · exact fun h2 j hj=>h2 j (List.mem_cons_of_mem _ hj)
    · rename_i h
      constructor
      · intro h2;cases h2
      · intro h2;exact absurd (h2 i (by simp)) h
theorem byte_eq(a b:UInt8):((a.toNat:Int)==(b.toNat:Int))=decide (a=b):=by
  rw[Bool.eq_iff_iff]
  simp
  constructor
  · intro h;exact UInt8.toNat_inj.1 (by omega)
  · intro h;rw[h]
theorem run_eqArray(w:World){t e:TypeId}{n d:Nat}(ht:P.underlying t=some (.array n e))(he:P.underlying e=some (.int .u8))(hs:(sizeOf e).run P w = .ok 1 w)(l1 l2:List UInt8)(h1:l1.length=n)(h2:l2.length=n):
    (Op.equalIn (d+1+1) t (.agg (Lib.byteCells l1).toArray) (.agg (Lib.byteCells l2).toArray)).run P w = .ok (decide (l1=l2)) w:=by
  have hagg:(isAgg e).run P w = .ok false w:=by
    unfold isAgg
    rw[Sem.run_bind,run_underlying he w]
    rfl
  have hpart:∀(l:List UInt8) (i:Nat),i<l.length→(part e (Lib.byteCells l).toArray (i*1)).run P w = .ok (.int .u8 ((l.getD i 0).toNat:Int)) w:=fun l i hi=>by
    unfold part
    rw[Sem.run_bind,hagg]
    simp[Lib.byteCells,hi,Sem.run_pure]
  have key:∀(is:List Nat),(∀i∈is,i<n)→∀(f:Nat→(Option Bool × Unit)→Sem (ForInStep ((Option Bool × Unit)))),
      (∀i r,i<n→(f i r).run P w=if l1.getD i 0=l2.getD i 0 then .ok (.yield (none,())) w else .ok (.done (some false,())) w) →
      ∀r,r.1=none→(forIn is r f).run P w = .ok (if CW l1 l2 is=true then none else some false,()) w:=by
    intro is
    induction is with
    | nil=>
      intro _ f _ r hr
      obtain⟨a,b⟩:=r
      simp at hr
      subst hr
      simp[CW,Sem.run_pure]
    | cons i is ih=>
      intro hi f hf r hr
      simp only[List.forIn_cons,Sem.run_bind,hf i r (hi i (by simp))]
      by_cases h:l1.getD i 0=l2.getD i 0
      · rw[if_pos h]
        simp only[Result.andThen_ok]
        rw[ih (fun j hj=>hi j (List.mem_cons_of_mem _ hj)) f hf (none,()) rfl]
        simp only[CW,if_pos h]
      · rw[if_neg h]
        simp only[Result.andThen_ok,Sem.run_pure,CW,if_neg h]
        rfl
  obtain⟨D,hD⟩:∃D,D=d+1:=⟨_,rfl⟩
  rw[←hD]
  simp only[Op.equalIn,Sem.run_bind,run_underlying ht,Result.andThen_ok,hs]
  rw[Std.Legacy.Range.forIn_eq_forIn_range']
  have hsz:([:n]:Std.Legacy.Range).size=n:=by simp[Std.Legacy.Range.size]
  rw[hsz,key (List.range' 0 n 1) (fun i hi=>by simpa using hi)]
  · have hiff:=Gq l1 l2 (List.range' 0 n 1)
    have hl:l1=l2↔CW l1 l2 (List.range' 0 n 1)=true:=by
      rw[hiff]
      constructor
      · intro h i _;rw[h]
      · intro h
        apply List.ext_getElem (by omega)
        intro i hi1 hi2
        have:=h i (by simp;omega)
        simpa [hi1,hi2] using this
    by_cases h:l1=l2
    · rw[hl.1 h,decide_eq_true h]
      simp[Sem.run_pure]
    · have h' :CW l1 l2 (List.range' 0 n 1)=false:=by
        cases hb:CW l1 l2 (List.range' 0 n 1)with
        | false=>rfl
        | true=>exact absurd (hl.2 hb) h
      rw[h',decide_eq_false h]
      simp[Sem.run_pure]
  · intro i r hi
    simp only[Sem.run_bind,hpart l1 i (by omega),hpart l2 i (by omega),Result.andThen_ok,hD,run_equalIn_int w d e .u8 .u8 _ _ he]
    by_cases h:l1.getD i 0=l2.getD i 0
    · rw[if_pos h,byte_eq,decide_eq_true h]
      simp[Sem.run_pure]
    · rw[if_neg h,byte_eq,decide_eq_false h]
      simp[Sem.run_pure]
  · rfl
theorem Je(w:World){t e:TypeId}{n:Nat}(ht:P.underlying t=some (.array n e))(he:P.underlying e=some (.int .u8))(hs:(sizeOf e).run P w = .ok 1 w)(hg:P.eqGuardType P.depth t=false)(l1 l2:List UInt8)(h1:l1.length=n)(h2:l2.length=n)(x y:Operand):
    (do eqGuard .eql t x y (.agg (Lib.byteCells l1).toArray) (.agg (Lib.byteCells l2).toArray);binOp .eql t (.agg (Lib.byteCells l1).toArray) (.agg (Lib.byteCells l2).toArray):Sem Value).run P w = .ok (.bool (decide (l1=l2))) w:=by
  have he2:(eqGuard .eql t x y (.agg (Lib.byteCells l1).toArray) (.agg (Lib.byteCells l2).toArray)).run P w = .ok () w:=by
    simp[eqGuard,hg]
  rw[Sem.run_bind,he2,Result.andThen_ok,run_eql_struct,run_eqArray (d:=9998) w ht he hs l1 l2 h1 h2]
  rfl
theorem Kr{ρ:Operand→Value}{d:Option Tmp}{x y:Operand}{ty2 tt:TypeId}{pos:String}{af:Array Edge}{gd:Option (Nat × Bool)}{w:World}{t e:TypeId}{n:Nat}(ht:P.underlying t=some (.array n e))(he:P.underlying e=some (.int .u8))(hs:(sizeOf e).run P w = .ok 1 w)(hg:P.eqGuardType P.depth t=false){l1 l2:List UInt8}(h1:l1.length=n)(h2:l2.length=n) 
    (hx:ρ x = .agg (Lib.byteCells l1).toArray) (hy:ρ y = .agg (Lib.byteCells l2).toArray):(execOp ρ ⟨d, .binOp .eql t x y ty2,tt,pos,af,gd⟩).run P w = .ok (.value (.bool (decide (l1=l2)))) w:=by
  have h:=Je (P:=P) w ht he hs hg l1 l2 h1 h2 x y
  simp only[execOp,hx,hy]
  rw[Sem.run_bind,h]
  rfl
open Go.RowKit
def RBs(w:World)(v:Value)(ls:List (List UInt8)):Prop:=∃vs:List Value,vs.length=ls.length∧Reads w 1 v ls.length vs∧∀i,i<ls.length→RB w (vs.getD i undef) (ls.getD i [])
theorem Ext.cellX{w w' :World}(h:Ext w w'){a:Addr}{v:Value}(hc:w.cell? a=some v):w'.cell? a=some v:=by
  rw[Below.cell h (World.block_lt_of_cell? w a hc)]
  exact hc
theorem Reads.keep{w w' :World}{z n:Nat}{v:Value}{xs:List Value}(h:Reads w z v n xs)(k:Ext w w'):Reads w' z v n xs:=by
  obtain⟨h1,ao,cap,rfl,h2,h3,h4,h5⟩:=h
  exact⟨h1,ao,cap,rfl,h2,h3,h4,fun a ha j u hu=>Ext.cellX k (h5 a ha j u hu)⟩
theorem RBs.keep{w w' :World}{v:Value}{ls:List (List UInt8)}(h:RBs w v ls)(k:Ext w w'):RBs w' v ls:=by
  obtain⟨vs,h1,h2,h3⟩:=h
  exact⟨vs,h1,h2.keep k,fun i hi=>(h3 i hi).keep k⟩
theorem RB.nil(w:World):RB w (.slice none 0 0) []:=⟨rfl,none,0,rfl,Nat.le_refl _,by simp[maxLen],fun _=>⟨rfl,rfl⟩,fun a h=>by cases h⟩
theorem RB.nilAny{w w' :World}{v:Value}(h:RB w v []):RB w' v []:=by
  obtain⟨h1,ao,cap,rfl,h2,h3,h4,h5⟩:=h
  exact⟨h1,ao,cap,rfl,h2,h3,h4,fun a ha j u hu=>by simp[Lib.byteCells]at hu⟩
theorem RB.lt{w:World}{v:Value}{l:List UInt8}(h:RB w v l)(hl:0<l.length){b:Nat}(hb:v.ownBlock=some b):b<w.heap.size:=by
  obtain⟨b',off,cap,rfl,-,-,h1,-⟩:=h.open_ hl
  simp[Value.ownBlock]at hb
  omega
theorem RB.slice{w:World}{v:Value}{l:List UInt8}(h:RB w v l):∃ao n c,v = .slice ao n c:=by
  obtain⟨h1,ao,cap,rfl,-⟩:=h
  exact⟨ao,_,cap,rfl⟩
section
variable {P : Program} {K : Value → World → Prop} {ρ : Aq} {w : World} {d : Option Tmp} {ty : TypeId} {pos : String} {af : Array Edge} {gd : Option (Nat × Bool)}
theorem RBs.of{v x:Value}{l:List (List UInt8)}(h:RBs w v l)(e:x=v):RBs w x l:=by rw[e];exact h
theorem Ks{w:World}{b:Nat}{xs:List Value}{t:TypeId}{fr:Nat × Nat}(hb:w.heap[b]? =some (.cells xs.toArray t fr))(hl:xs.length≤maxLen):Reads w 1 (.slice (some ⟨b,0,none⟩) xs.length xs.length) xs.length xs:=
  ⟨by simp,_,_,rfl,Nat.le_refl _,hl,fun h=>by simp at h,fun a ha j u hu=>by
    cases ha
    rw[Addr.add_lit,Nat.zero_add]
    exact Ai hb hu⟩
theorem Yk.rows1{t e:TypeId}(hr:∀(ao:Option Addr) (n c:Nat) (w:World),(Instr.buildSlice t 1 #[(0, .slice ao n c)]).run P w = .ok (.slice (some ⟨w.heap.size,0,none⟩) 1 1) (w.alloc (.cells #[.slice ao n c] e))){x:Operand}{l:List UInt8}(hx:RB w (Ad ρ x) l) 
    (hk:∀v w',RBs w' v [l]→Ext w w' →K v w'):Yk P K ((execOp (Ad ρ) ⟨d, .buildSlice t 1 #[(0,x)],ty,pos,af,gd⟩).run P w):=by
  obtain⟨ao,n,c,hv⟩:=hx.slice
  rw[hv]at hx
  have hr' :(execOp (Ad ρ) ⟨d, .buildSlice t 1 #[(0,x)],ty,pos,af,gd⟩).run P w = .ok (.value (.slice (some ⟨w.heap.size,0,none⟩) 1 1)) (w.alloc (.cells #[.slice ao n c] e)):=by
    unfold execOp
    simp only[List.map_toArray,List.map_cons,List.map_nil,hv,Sem.run_bind,hr,Result.andThen_ok,Sem.run_pure]
  rw[hr']
  have hE:Ext w (w.alloc (.cells #[.slice ao n c] e)):=(Below.refl _ _).alloc (Nat.le_refl _) _
  refine hk _ _ ⟨[.slice ao n c],rfl,Ks (xs:= [.slice ao n c]) (heap_alloc_new w _) (by simp[maxLen]),fun i hi=> ?_⟩ hE
  have:i=0:=by simp at hi;omega
  subst this
  exact hx.keep hE
theorem Yk.atRBs{t e:TypeId}(ht:P.underlying t=some (.slice e))(he:∀w' :World,(sizeOf e).run P w' = .ok 1 w'){x y:Operand}{ls:List (List UInt8)}(h:RBs w (Ad ρ x) ls){k:IntKind}{i:Nat}(hy:Ad ρ y = .int k (i:Int))(hi:i<ls.length) 
    (hk:∀v u,PCell u v w→RB w u (ls.getD i [])→K v w):Yk P K ((execOp (Ad ρ) ⟨d, .indexAddr t x y,ty,pos,af,gd⟩).run P w):=by
  obtain⟨vs,h1,h2,h3⟩:=h
  have hu:=h3 i hi
  obtain⟨h4,ao,cap,hv,h5,h6,h7,h8⟩:=h2
  cases ao with
  | none=>have:=(h7 rfl).1;omega
  | some a=>
    obtain⟨b,o,sp⟩:=a
    have hc:=h8 _ rfl i (vs.getD i undef) (by simp[show i<vs.length by omega])
    have h0:=h8 _ rfl 0 (vs.getD 0 undef) (by simp[show 0<vs.length by omega])
    have hsp:sp=none:=by simpa [Addr.add] using World.cell?_spot h0
    subst hsp
    rw[Addr.add_lit]at hc
    exact Yk.atSl ht he hv hy hi (hk _ _ ⟨_,rfl,hc⟩ hu)
theorem Yk.atRBs0{w0:World}(E:Ext w0 w){t e:TypeId}(ht:P.underlying t=some (.slice e))(he:∀w' :World,(sizeOf e).run P w' = .ok 1 w'){x y:Operand}{c:Value}{ls:List (List UInt8)}(h:RBs w0 c ls)(hx:Ad ρ x=c){k:IntKind}{i:Nat}(hy:Ad ρ y = .int k (i:Int))(hi:i<ls.length) 
    (hk:∀v u,PCell u v w→RB w0 u (ls.getD i [])→K v w):Yk P K ((execOp (Ad ρ) ⟨d, .indexAddr t x y,ty,pos,af,gd⟩).run P w):=by
  obtain⟨vs,h1,h2,h3⟩:=h
  have hu:=h3 i hi
  obtain⟨h4,ao,cap,hv,h5,h6,h7,h8⟩:=h2
  cases ao with
  | none=>have:=(h7 rfl).1;omega
  | some a=>
    obtain⟨b,o,sp⟩:=a
    have hc:=h8 _ rfl i (vs.getD i undef) (by simp[show i<vs.length by omega])
    have h0:=h8 _ rfl 0 (vs.getD 0 undef) (by simp[show 0<vs.length by omega])
    have hsp:sp=none:=by simpa [Addr.add] using World.cell?_spot h0
    subst hsp
    rw[Addr.add_lit]at hc
    exact Yk.atSl ht he (hx.trans hv) hy hi (hk _ _ ⟨_,rfl,Ext.cellX E hc⟩ hu)
theorem Yk.lenRBs{t e:TypeId}(ht:P.underlying t=some (.slice e)){x:Operand}{ls:List (List UInt8)}(h:RBs w (Ad ρ x) ls)(hk:K (NI ls.length) w):Yk P K ((execOp (Ad ρ) ⟨d, .call ⟨.builtin .len,#[x],#[t]⟩,ty,pos,af,gd⟩).run P w):=by
  obtain⟨vs,h1,⟨h4,ao,cap,hv,-⟩,h3⟩:=h
  exact Yk.lenSl ht hv hk
theorem Yk.eqArr{t e ty2:TypeId}{n:Nat}(ht:P.underlying t=some (.array n e))(he:P.underlying e=some (.int .u8))(hs:∀w:World,(sizeOf e).run P w = .ok 1 w)(hg:P.eqGuardType P.depth t=false){x y:Operand}{l1 l2:List UInt8}(hx:Ad ρ x = .agg (Lib.byteCells l1).toArray)(hy:Ad ρ y = .agg (Lib.byteCells l2).toArray)(h1:l1.length=n)(h2:l2.length=n) 
    (hk:K (.bool (decide (l1=l2))) w):Yk P K ((execOp (Ad ρ) ⟨d, .binOp .eql t x y ty2,ty,pos,af,gd⟩).run P w):=
  Yk.value (Kr ht he (hs w) hg h1 h2 hx hy) hk
theorem Yk.convMark{t e:TypeId}(ht:P.underlying t=some (.slice e))(he:P.underlying e=some (.int .u8)){x:Operand}{v:Value}{b:Nat}{l:List UInt8}(hx:Ad ρ x=v)(ho:w.ownsRow b e 1 v l.length (Lib.byteCells l))(hl:0<l.length) 
    (hk:∀w',RB w' v l→Grew w w' v v→K v w'):Yk P K ((execOp (Ad ρ) ⟨d, .convert t t x,ty,pos,af,gd⟩).run P w):=by
  rcases ho.2 with ⟨rfl,h0⟩ | ⟨g,cap,cur,rfl,hbg,hg,hnc,hcm,hcs,htake⟩
  · omega
  · have hlt:g<w.heap.size:=(Array.getElem?_eq_some_iff.1 hg).1
    have hsh:w.shape? g=some (e,cur.size):=by
      unfold World.shape?
      rw[hg]
    have hr:(convert t t (.slice (some ⟨g,0,none⟩) l.length cap)).run P w = .ok (.slice (some ⟨g,0,none⟩) l.length cap) (w.freeze ⟨g,cur.size,none⟩ 1):=by
      simp[convert,run_underlying ht,run_underlying he,markStringish,hsh]
    have hold:∀k,k≠g→(w.freeze ⟨g,cur.size,none⟩ 1).heap[k]? =w.heap[k]? :=fun k hk=>by
      simp[World.freeze,Array.getElem?_modify,Ne.symm hk]
    have hnew:(w.freeze ⟨g,cur.size,none⟩ 1).heap[g]? =some (.cells cur e (cur.size,cur.size+1)):=by
      have hg' :=hg
      rw[Array.getElem?_eq_some_iff]at hg'
      obtain⟨h1,h2⟩:=hg'
      simp[World.freeze,Array.getElem?_modify,hg]
    have hsz:(w.freeze ⟨g,cur.size,none⟩ 1).heap.size=w.heap.size:=by simp[World.freeze]
    refine Yk.value (v:= .slice (some ⟨g,0,none⟩) l.length cap) (w' :=w.freeze ⟨g,cur.size,none⟩ 1) ?_ (hk _ ?_ ⟨⟨?_,?_,?_,by omega,fun k _ hne=>hold k (fun e=>hne (by rw[e];rfl))⟩,fun k h=> .inl h⟩)
    · unfold execOp
      simp only[hx,Sem.run_bind,hr,Result.andThen_ok,Sem.run_pure]
    · have hb:=RB.ofOwn ho
      obtain⟨h1,ao,c2,hv,h3,h4,h5,h6⟩:=hb
      simp only[Value.slice.injEq,true_and]at hv
      obtain⟨rfl,rfl⟩:=hv
      refine⟨h1,_,_,rfl,h3,h4,h5,fun a ha j u hu=> ?_⟩
      have hc:=h6 a ha j u hu
      cases ha
      rw[Addr.add_lit]at hc ⊢
      simp only[World.cell?,hg]at hc
      simp only[World.cell?,hnew]
      exact hc
    all_goals simp[World.freeze]
end
open Go.RowKit
section
variable {P : Program} {n : Nat} {ρ : Aq} {w : World} {Q : B9}
def lsOk(l:List Oper)(cs:List Nat)(ks ls:Nat→List Nat):Bool:=cs.all fun m=>(ls m).all fun i=>(ks m).contains i||Nat.beq i m||((Ba l []).getD i 0).testBit m
def AllCh(S:World→World→Prop)(ls:Nat→List Nat)(Φs:List Bn):List Nat→Prop
  | []=>True
  | m :: r=>AllStabX S (ls m) 0 Φs∧AllCh S ls Φs r
theorem AllCh.get{S:World→World→Prop}{ls:Nat→List Nat}{Φs:List Bn}:∀(cs:List Nat),AllCh S ls Φs cs→∀m,cs.contains m=true→AllStabX S (ls m) 0 Φs
  | [],_,m,h=>by simp at h
  | c :: r,h,m,hm=>by
    by_cases e:m=c
    · subst e;exact h.1
    · exact AllCh.get r h.2 m (by simpa [e] using hm)
end
open Go.RowKit
section
variable {P : Program} {K : Value → World → Prop} {ρ : Aq} {w : World} {d : Option Tmp} {ty : TypeId} {pos : String} {af : Array Edge} {gd : Option (Nat × Bool)}
theorem KX(l:List UInt8):(⟨l.toArray⟩:ByteArray).toList=l:=by
  rw[ByteArray.toList_eq]
theorem Ou(l m:List UInt8):((⟨l.toArray⟩:ByteArray).toList==(⟨m.toArray⟩:ByteArray).toList)=decide (l=m):=by
  rw[KX,KX,Bool.eq_iff_iff]
  simp
theorem Yk.eqSt{op:BinOp}(hop:op = .eql∨op = .neq){t ty2:TypeId}{x y:Operand}{l m:List UInt8}(hx:Ad ρ x=St l)(hy:Ad ρ y=St m)(b:Bool)(hb:b=match op with | .eql=>decide (l=m) | _=>decide (l≠m))(hk:K (.bool b) w):Yk P K ((execOp (Ad ρ) ⟨d, .binOp op t x y ty2,ty,pos,af,gd⟩).run P w):=by
  refine Yk.value (v:= .bool b) (w' :=w) ?_ hk
  subst hb
  have hn:(!decide (l=m))=decide (l≠m):=by simp
  unfold execOp
  rcases hop with rfl | rfl
  · simp only[hx,hy,eqGuard,Go.binOp,Op.stringOp,Ou,Sem.run_bind,Sem.run_pure]
    rfl
  · simp only[hx,hy,eqGuard,Go.binOp,Op.stringOp,Ou,hn,Sem.run_bind,Sem.run_pure]
    rfl
theorem Yk.extract{x:Operand}{vs:List Value}{i:Nat}{v:Value}(hx:Ad ρ x = .tuple vs.toArray)(hv:vs[i]? =some v)(hk:K v w):Yk P K ((execOp (Ad ρ) ⟨d, .extract x i,ty,pos,af,gd⟩).run P w):=by
  refine Yk.value (v:=v) (w' :=w) ?_ hk
  unfold execOp
  simp[hx,Instr.extract,hv]
theorem Ov{x0 x1 y0 y1:Value}(h0:x0=y0)(h1:x1=y1): [x0,x1]= [y0,y1]:=by rw[h0,h1]
theorem Pb{x0 x1 x2 y0 y1 y2:Value}(h0:x0=y0)(h1:x1=y1)(h2:x2=y2): [x0,x1,x2]= [y0,y1,y2]:=by rw[h0,h1,h2]
theorem Lr{x0 x1 x2 x3 y0 y1 y2 y3:Value}(h0:x0=y0)(h1:x1=y1)(h2:x2=y2)(h3:x3=y3): [x0,x1,x2,x3]= [y0,y1,y2,y3]:=by rw[h0,h1,h2,h3]
theorem Yk.clo{f:FuncId}(hp:A2 P f){c:Operand}{args:Array Operand}{at_:Array TypeId}{caps:Array Value}(hc:Ad ρ c = .func (.func f) #[] caps)(vs:Array Value)(hv:args.map (Ad ρ)++caps=vs) 
    (h:Calls P f vs w fun e w' =>∃v,e = .returned v∧K v w'):Yk P K ((execOp (Ad ρ) ⟨d, .call ⟨.value c,args,at_⟩,ty,pos,af,gd⟩).run P w):=by
  subst hv
  refine Yk.enter (f:=f) (args:=args.map (Ad ρ)++caps) (w' :=w) ?_ h
  unfold execOp
  simp[resolve,hc,Deferred.ofValue,invoke,hp _ w]
theorem Yk.mkFunc{f:Fn}{caps:Array Operand}{vs:Array Value}(hv:caps.map (Ad ρ)=vs)(hk:K (.func f #[] vs) w):Yk P K ((execOp (Ad ρ) ⟨d, .makeFunc f #[] caps,ty,pos,af,gd⟩).run P w):=by
  refine Yk.value (v:= .func f #[] vs) (w' :=w) ?_ hk
  unfold execOp
  simp[Instr.makeFunc,hv]
theorem Yk.box1{e:TypeId}{x:Operand}{v:Value}(hx:Ad ρ x=v)(hv:v.cells = #[v]) 
    (hk:∀n w',w.heap.size=n→w'.heap[n]? =some (.cells ([v]:List Value).toArray e (0,0))→Ext w w' →w'.heap.size=n+1→K (.pointer (some ⟨n,0,none⟩)) w'):Yk P K ((execOp (Ad ρ) ⟨d, .box e x,ty,pos,af,gd⟩).run P w):=by
  have hr:(execOp (Ad ρ) ⟨d, .box e x,ty,pos,af,gd⟩).run P w = .ok (.value (.pointer (some ⟨w.heap.size,0,none⟩))) (w.alloc (.cells #[v] e)):=by
    show((Instr.box e (Ad ρ x)).run P w).andThen (fun v w=>Result.ok (Next.value v) w)=_
    rw[hx]
    simp[Instr.box,newVar,hv]
    rfl
  rw[hr]
  exact hk _ _ rfl (heap_alloc_new w _) ((Below.refl _ _).alloc (Nat.le_refl _) _) (by simp)
end
theorem Dy{w:World}{b:Nat}{e:TypeId}{z n:Nat}{v:Value}{xs:List Value}(h:w.ownsRow b e z v n xs):v.cells = #[v]∧v.oneCell' =true:=by
  rcases h.2 with ⟨rfl,_⟩ | ⟨g,cap,cur,rfl,-⟩ <;> exact⟨rfl,rfl⟩
theorem RB.one{w:World}{v:Value}{l:List UInt8}(h:RB w v l):v.cells = #[v]∧v.oneCell' =true:=by
  obtain⟨-,ao,cap,rfl,-⟩:=h
  exact⟨rfl,rfl⟩
/-! ### Bits of numbers that are not below 0 -/
theorem Pj(t:TypeId)(a b:Nat)(ha:a<9223372036854775808)(hb:b<9223372036854775808):Go.binOp .and t (.int .i64 (a:Int)) (.int .i64 (b:Int))=pure (.int .i64 ((a&&&b:Nat):Int)):=by
  unfold Go.binOp
  simp only[ne_eq,not_true_eq_false,if_false,Op.intBits,IntKind.bits,BitVec.ofInt_natCast]
  have h1:(BitVec.ofNat 64 a&&&BitVec.ofNat 64 b).toNat=a&&&b:=by
    rw[BitVec.toNat_and,BitVec.toNat_ofNat,BitVec.toNat_ofNat,Nat.mod_eq_of_lt (by omega),Nat.mod_eq_of_lt (by omega)]
  show pure (Value.int .i64 (IntKind.i64.wrap (((BitVec.ofNat 64 a&&&BitVec.ofNat 64 b).toNat:Nat):Int)))=_
  rw[h1,Cy _ (Nat.lt_of_le_of_lt Nat.and_le_left ha)]
theorem Ju(t:TypeId)(a b:Nat)(ha:a<9223372036854775808)(hb:b<9223372036854775808):Go.binOp .or t (.int .i64 (a:Int)) (.int .i64 (b:Int))=pure (.int .i64 ((a|||b:Nat):Int)):=by
  unfold Go.binOp
  simp only[ne_eq,not_true_eq_false,if_false,Op.intBits,IntKind.bits,BitVec.ofInt_natCast]
  have h1:(BitVec.ofNat 64 a|||BitVec.ofNat 64 b).toNat=a|||b:=by
    rw[BitVec.toNat_or,BitVec.toNat_ofNat,BitVec.toNat_ofNat,Nat.mod_eq_of_lt (by omega),Nat.mod_eq_of_lt (by omega)]
  show pure (Value.int .i64 (IntKind.i64.wrap (((BitVec.ofNat 64 a|||BitVec.ofNat 64 b).toNat:Nat):Int)))=_
  rw[h1,Cy _ (Nat.or_lt_two_pow (n:=63) ha hb)]
theorem Jv(h l k:Nat)(hl:l<2^k):h*2^k|||l=h*2^k+l:=by
  rw[←Nat.shiftLeft_eq,Nat.shiftLeft_add_eq_or_of_lt hl]
open Go.RowKit
def RG{α:Type}(k:Nat)(enc:α→List Value)(w:World)(v:Value)(l:List α):Prop:=(∀x∈l,(enc x).length=k)∧Reads w k v l.length (l.flatMap enc)
def OG{α:Type}(base:Nat)(t:TypeId)(k:Nat)(enc:α→List Value)(w:World)(v:Value)(l:List α):Prop:=(∀x∈l,(enc x).length=k)∧w.ownsRow base t k v l.length (l.flatMap enc)
def PR(cs:List Value)(v:Value)(w:World):Prop:=∃b o,v = .pointer (some ⟨b,o,none⟩)∧w.rangeAt b o cs
section
variable {α : Type} {k base : Nat} {t : TypeId} {enc : α → List Value} {w w' : World} {v x : Value} {l : List α} {cs : List Value}
theorem RG.keep(h:RG k enc w v l)(e:Ext w w'):RG k enc w' v l:=⟨h.1,h.2.keep e⟩
theorem OG.keep(h:OG base t k enc w v l)(e:Ext w w'):OG base t k enc w' v l:=⟨h.1,Stab.own _ _ _ _ _ _ _ _ h.2 e⟩
theorem OG.kept{g:Nat}(h:OG base t k enc w v l)(e:w.grownBy w' (some g))(hne:v.ownBlock≠some g):OG base t k enc w' v l:=⟨h.1,A7 h.2 e hne⟩
theorem RG.of(h:RG k enc w v l)(e:x=v):RG k enc w x l:=by rw[e];exact h
theorem OG.of(h:OG base t k enc w v l)(e:x=v):OG base t k enc w x l:=by rw[e];exact h
theorem PR.keep(h:PR cs v w)(e:Ext w w'):PR cs v w' :=by
  obtain⟨b,o,h1,h2⟩:=h
  exact⟨b,o,h1,fun j u hu=>Ext.cellX e (h2 j u hu)⟩
theorem PR.of(h:PR cs v w)(e:x=v):PR cs x w:=by rw[e];exact h
theorem RG.nil(k:Nat)(enc:α→List Value)(w:World):RG k enc w (.slice none 0 0) []:=⟨by simp,by simp,none,0,rfl,Nat.le_refl _,by simp[maxLen],fun _=>⟨rfl,rfl⟩,fun a h=>by cases h⟩
theorem OG.nil(base:Nat)(t:TypeId)(k:Nat)(enc:α→List Value)(w:World):OG base t k enc w (.slice none 0 0) []:=⟨by simp,World.ownsRow_nil w base t k⟩
theorem RG.sliceLen(h:RG k enc w v l):Bz v=l.length:=by
  obtain⟨-,-,ao,cap,rfl,-⟩:=h
  rfl
theorem RG.len(h:RG k enc w v l):∃ao c,v = .slice ao l.length c:=by
  obtain⟨-,-,ao,cap,rfl,-⟩:=h
  exact⟨ao,cap,rfl⟩
theorem RG.lenLt(h:RG k enc w v l):l.length≤9223372036854775807:=by
  obtain⟨-,-,ao,cap,rfl,h2,h3,-⟩:=h
  unfold maxLen at h3
  omega
theorem RG.ofOwn(h:OG base t k enc w v l):RG k enc w v l:=by
  refine⟨h.1,h.2.1,?_⟩
  have h' :=h.2
  rcases h.2.2 with ⟨rfl,h0⟩ | ⟨g,cap,cur,rfl,hbg,hg,hnc,hcm,hcs,htake⟩
  · exact⟨none,0,by rw[h0],by omega,by simp[maxLen],fun _=>⟨h0,rfl⟩,fun a ha=>by cases ha⟩
  · exact⟨some ⟨g,0,none⟩,cap,rfl,hnc,hcm,(fun h=>by cases h),(fun a ha j u hu=>by cases ha;exact h'.cells rfl j u hu)⟩
theorem Hj(d:α):∀(l:List α),(∀x∈l,(enc x).length=k)→∀i,i<l.length→∀j u,(enc (l.getD i d))[j]? =some u→(l.flatMap enc)[i*k+j]? =some u
  | [],_,i,hi,_,_,_=>by simp at hi
  | a :: r,h,0,_,j,u,hu=>by
    have hj:=(List.getElem?_eq_some_iff.1 hu).1
    simp only[List.getD_cons_zero]at hu hj
    rw[List.flatMap_cons,Nat.zero_mul,Nat.zero_add,List.getElem?_append_left hj]
    exact hu
  | a :: r,h,i+1,hi,j,u,hu=>by
    simp only[List.getD_cons_succ]at hu
    have ih:=Hj d r (fun x hx=>h x (by simp[hx])) i (by simpa using hi) j u hu
    rw[List.flatMap_cons,List.getElem?_append_right (by rw[h a (by simp),Nat.add_mul];omega),h a (by simp)]
    rw[show(i+1)*k+j-k=i*k+j by rw[Nat.add_mul];omega]
    exact ih
theorem RG.rangeAt(d:α)(h:RG k enc w v l)(hk:0<k){i:Nat}(hi:i<l.length):∃b o c,v = .slice (some ⟨b,o,none⟩) l.length c∧w.rangeAt b (o+i*k) (enc (l.getD i d)):=by
  obtain⟨h1,h2,ao,cap,rfl,h3,h4,h5,h6⟩:=h
  cases ao with
  | none=>have:=(h5 rfl).1;omega
  | some a=>
    obtain⟨b,o,sp⟩:=a
    have hx:l.getD i d∈l:=by
      rw[List.getD_eq_getElem?_getD,List.getElem?_eq_getElem hi]
      exact List.getElem_mem hi
    have hc:∀j u,(enc (l.getD i d))[j]? =some u→w.cell? ((⟨b,o,sp⟩:Addr).add (i*k+j))=some u:=fun j u hu=>h6 _ rfl _ _ (Hj d l h1 i hi j u hu)
    have e:=h1 (l.getD 0 d) (by rw[List.getD_eq_getElem?_getD,List.getElem?_eq_getElem (by omega)];exact List.getElem_mem _)
    have h0:=h6 _ rfl _ _ (Hj d l h1 0 (by omega) 0 ((enc (l.getD 0 d))[0]'(by omega)) (by rw[List.getElem?_eq_getElem]))
    have hsp:sp=none:=by
      have:=World.cell?_spot h0
      simpa [Addr.add] using this
    subst hsp
    refine⟨b,o,cap,rfl,fun j u hu=> ?_⟩
    have:=hc j u hu
    rw[Addr.add_lit]at this
    rw[Nat.add_assoc]
    exact this
end
section
variable {P : Program} {K : Value → World → Prop} {ρ : Aq} {w : World} {d : Option Tmp} {ty : TypeId} {pos : String} {af : Array Edge} {gd : Option (Nat × Bool)}
variable {α : Type} {k : Nat} {enc : α → List Value} {l : List α}
theorem Yk.atRG{t e:TypeId}(ht:P.underlying t=some (.slice e))(he:∀w' :World,(sizeOf e).run P w' = .ok k w')(a:0<k){x y:Operand}(dd:α)(h:RG k enc w (Ad ρ x) l){kd:IntKind}{i:Nat}(hy:Ad ρ y = .int kd (i:Int))(hi:i<l.length) 
    (hk:∀v,PR (enc (l.getD i dd)) v w→K v w):Yk P K ((execOp (Ad ρ) ⟨d, .indexAddr t x y,ty,pos,af,gd⟩).run P w):=by
  obtain⟨b,o,c,hv,hr⟩:=h.rangeAt dd a hi
  refine Yk.value (v:= .pointer (some ⟨b,o+i*k,none⟩)) (w' :=w) ?_ (hk _ ⟨b,_,rfl,hr⟩)
  have hE:P.elem t=e:=by simp[Program.elem,ht]
  have hr:=run_indexAt_slice (P:=P) w t ⟨b,o,none⟩ l.length c kd (i:Int) (by rw[hE];exact ht)
  rw[if_pos (by omega),hE,he]at hr
  unfold execOp
  simp only[hv,hy,Sem.run_bind,hr,Result.andThen_ok,Sem.run_pure]
  simp[Addr.add_lit]
theorem Yk.lenRG{t e:TypeId}(ht:P.underlying t=some (.slice e)){x:Operand}(h:RG k enc w (Ad ρ x) l)(hk:K (NI l.length) w):Yk P K ((execOp (Ad ρ) ⟨d, .call ⟨.builtin .len,#[x],#[t]⟩,ty,pos,af,gd⟩).run P w):=by
  obtain⟨ao,c,hv⟩:=h.len
  exact Yk.lenSl ht hv hk
theorem Yk.loadPR{t' :TypeId}{x:Operand}{cs:List Value}{de:TypeDesc}(h:PR cs (Ad ρ x) w)(hu:P.underlying t' =some de)(hd:de.isRow=true)(hi:(P.info? t').map (·.size)=some cs.length) 
    (hk:K (.agg cs.toArray) w):Yk P K ((execOp (Ad ρ) ⟨d, .load t' x,ty,pos,af,gd⟩).run P w):=by
  obtain⟨b,o,hx,hr⟩:=h
  exact Yk.loadPart hx hr hu hd hi hk
theorem Yk.fieldPR{s:TypeId}{f off n:Nat}(hf:BK P s f off){x:Operand}{cs:List Value}(h:PR cs (Ad ρ x) w)(hk:∀v,PR ((cs.drop off).take n) v w→K v w):Yk P K ((execOp (Ad ρ) ⟨d, .fieldAddr s x f,ty,pos,af,gd⟩).run P w):=by
  obtain⟨b,o,hx,hr⟩:=h
  refine Yk.fieldAt hf hx (hk _ ⟨b,o+off,rfl,fun j v hv=> ?_⟩)
  rw[List.getElem?_take]at hv
  split at hv
  · rw[List.getElem?_drop]at hv
    have:=hr _ _ hv
    rw[←Nat.add_assoc]at this
    exact this
  · cases hv
theorem PR.cell{cs:List Value}{v u:Value}(h:PR cs v w)(hc:cs[0]? =some u):PCell u v w:=by
  obtain⟨b,o,hx,hr⟩:=h
  exact⟨_,hx,by have:=hr 0 u hc;simpa using this⟩
theorem RG.src{tx e' :TypeId}(hk:P.underlying tx=some (.slice e')){v:Value}(h1:∀x∈l,∀u∈enc x,u.oneCell' =true)(h:RG k enc w v l):Src P k tx v l.length (l.flatMap enc) w:=by
  obtain⟨h0,h2,ao,cap,rfl,h3,h4,h5,h6⟩:=h
  cases ao with
  | none=>
    obtain⟨h7,rfl⟩:=h5 rfl
    have:l= []:=List.eq_nil_of_length_eq_zero h7
    subst this
    exact Src.ofNil w hk 0
  | some a=>exact Src.ofSlice w hk a _ cap _ h2 (h6 a rfl) (fun u hu=>by
      obtain⟨x,hx,hxu⟩:=List.mem_flatMap.1 hu
      exact h1 x hx u hxu)
theorem Yk.appendRG(s x:Operand){t tx e e' :TypeId}(base:Nat)(z:Value)(bytes:Nat)(ht:P.underlying t=some (.slice e))(hi:(P.info? e).map (fun i=>(i.zero,i.size,i.bytes))=some (some z,k,bytes))(hzs:z.cells.size=k)(hu:P.underlying tx=some (.slice e')) 
    (l m:List α) (hown:OG base e k enc w (Ad ρ s) l) (hsrc:RG k enc w (Ad ρ x) m) (h1:∀x∈m,∀u∈enc x,u.oneCell' =true) (hb:l.length+m.length≤281474976710656) (hbb:(l.length+m.length)*bytes≤140737488355328) (hbase:base≤w.heap.size)
    (h:∀v' w',OG base e k enc w' v' (l++m)→Grew w w' (Ad ρ s) v' →K v' w'):Yk P K ((execOp (Ad ρ) ⟨d, .call ⟨.builtin .append,#[s,x],#[t,tx]⟩,ty,pos,af,gd⟩).run P w):=
  Yk.append s x base e z k bytes ht hi hzs l.length (l.flatMap enc) hown.2 m.length (m.flatMap enc) (hsrc.src hu h1) (by unfold maxLen;omega) hbb hbase fun v' w' ho g=>h v' w' ⟨fun x hx=>(List.mem_append.1 hx).elim (hown.1 x) (hsrc.1 x),by rw[List.length_append,List.flatMap_append];exact ho⟩ g
theorem RG.single{w:World}{b:Nat}{x:α}{t:TypeId}{fr:Nat × Nat}(hl:(enc x).length=k)(hb:w.heap[b]? =some (.cells (enc x).toArray t fr)):RG k enc w (.slice (some ⟨b,0,none⟩) 1 1) [x]:=
  ⟨by simpa using hl,by simpa using hl,some ⟨b,0,none⟩,1,rfl,Nat.le_refl _,by simp[maxLen],(fun h=>by cases h),fun a ha j u hu=>by
    cases ha
    rw[Addr.add_lit,Nat.zero_add]
    exact Ai hb (by simpa using hu)⟩
end
open Go.RowKit
open Go.WideMaps (KeyLaw)
structure KL (P : Program) (k : TypeId) (OK : Value → Prop) : Prop where
  check:∀(w:World) (em:Bool) {v:Value},OK v→(Instr.checkKey em 10000 k v).run P w = .ok () w
  find:∀(w:World) {x:Value},OK x→∀es:List MapEntry,(∀e∈es,OK e.key) →
    ((Instr.findKey k x es).run P w = .ok none w∧∀e∈es,e.key≠x)∨∃j e,(Instr.findKey k x es).run P w = .ok (some (j,e.val)) w∧es[j]? =some e∧e.key=x
  stays:∀(w:World) {v:Value},OK v→(Instr.keyThatStays v v).run P w = .ok v w
theorem KL.ofDeep{P:Program}{k:TypeId}(L:KeyLaw P k):KL P k (fun v=>∃l,keyOf P k v=some l):=
  ⟨fun w em _ ⟨_,h⟩=>L.check w em h,fun w _ ⟨_,h⟩ es he=>L.find w h es he,fun w _ ⟨_,h⟩=>L.stays w h⟩
theorem KL.ofKey{P:Program}{k:TypeId}{d:TypeDesc}(hd:P.underlying k=some d):KL P k (MapKept.IsKey d):=
  ⟨fun w em _ h=>MapKept.run_checkKey hd h em 9999,fun w x h es he=>by
    rcases MapKept.findNow_spec h es 0 he with ⟨h1,h2⟩ | ⟨j,e,h1,h2,h3⟩
    · exact .inl ⟨MapKept.run_findKey hd h1,h2⟩
    · rw[Nat.zero_add]at h1
      exact .inr ⟨j,e,MapKept.run_findKey hd h1,h2,h3⟩,fun w _ h=>MapKept.run_keyThatStays h⟩
section
variable {α β : Type} (ek : α → Value) (ev : β → Value) (D : α → Prop)
structure Pc (G : α → Option β) (es : List MapEntry) : Prop where
  keys:(es.map (·.key)).Nodup
  ent:∀e∈es,∃a y,D a∧e.key=ek a∧e.val=ev y∧G a=some y
  all:∀a y,G a=some y→D a∧∃e∈es,e.key=ek a
def MapF(w:World)(b:Nat)(G:α→Option β):Prop:=∃es clock,w.heap[b]? =some (.map es.toArray clock)∧Pc ek ev D G es
end
def updM{α β:Type}[DecidableEq α](G:α→Option β)(a:α)(y:Option β)(c:α):Option β:=if c=a then y else G c
section
variable {α β : Type} {ek : α → Value} {ev : β → Value} {D : α → Prop} {P : Program} {w w' : World} {b : Nat} {G : α → Option β}
theorem MapF.keep(h:MapF ek ev D w b G)(k:Ext w w'):MapF ek ev D w' b G:=by
  obtain⟨es,c,h2,h3⟩:=h
  exact⟨es,c,Ext.blk' k h2,h3⟩
theorem MapF.lt(h:MapF ek ev D w b G):b<w.heap.size:=by
  obtain⟨es,c,h2,h3⟩:=h
  exact(Array.getElem?_eq_some_iff.1 h2).1
theorem MapF.other{r:Option Nat}(h:MapF ek ev D w b G)(k:w.grownBy w' r)(hr:r≠some b):MapF ek ev D w' b G:=by
  have hl:=h.lt
  obtain⟨es,c,h2,h3⟩:=h
  exact⟨es,c,(k.block b hl (fun e=>hr e.symm)).trans h2,h3⟩
theorem MapF.grew{v v' :Value}(h:MapF ek ev D w b G)(g:Grew w w' v v')(hv:v.ownBlock≠some b):MapF ek ev D w' b G:=h.other g.by_ hv
theorem MapF.made(ek:α→Value)(ev:β→Value)(D:α→Prop)(w:World):MapF ek ev D (w.alloc (.map #[] 0)) w.heap.size (fun _=>none):=
  ⟨[],0,heap_alloc_new w _,by simp,by simp,fun _ _ h=>by cases h⟩
section
variable {t K E : TypeId} {OK : Value → Prop} (L : KL P K OK) (hD : ∀ a, D a → OK (ek a)) (hi : ∀ a c, ek a = ek c → a = c) (ht : P.underlying t = some (.map K E))
include L hD hi ht
theorem MapF.look{z:Value}(hz:∀u:World,(zeroValue E).run P u = .ok z u)(h:MapF ek ev D w b G){a:α}(ha:D a)(ok:Bool):
    (Instr.lookup t (.map (some b)) (ek a) ok).run P w = .ok (if ok then .tuple #[(G a).elim z ev, .bool (G a).isSome]else(G a).elim z ev) w:=by
  obtain⟨es,c,hb,H⟩:=h
  have hkeys:∀e∈es,OK e.key:=fun e he=>by
    obtain⟨q,y,k1,k2,-⟩:=H.ent e he
    rw[k2]
    exact hD q k1
  rcases L.find w (hD a ha) es hkeys with ⟨f1,f2⟩ | ⟨j,f,f1,f2,f3⟩
  · have hG:G a=none:=by
      cases hG:G a with
      | none=>rfl
      | some y=>
        obtain⟨-,e,he,hek⟩:=H.all a y hG
        exact absurd hek (f2 e he)
    cases ok <;> simp[Instr.lookup,run_underlying ht,MapKept.run_getObj_map hb,L.check w _ (hD a ha),f1,hz,Result.andThen,hG]
  · obtain⟨q,y,k1,k2,k3,k4⟩:=H.ent f (List.mem_of_getElem? f2)
    have:q=a:=hi _ _ (k2.symm.trans f3)
    subst this
    cases ok <;> simp[Instr.lookup,run_underlying ht,MapKept.run_getObj_map hb,L.check w _ (hD q ha),f1,Result.andThen,k4,k3]
variable [DecidableEq α]
omit hi in
theorem MapF.put(h:MapF ek ev D w b G){a:α}(ha:D a)(y:β):
    ∃w',(Instr.mapUpdate t (.map (some b)) (ek a) (ev y)).run P w = .ok () w' ∧MapF ek ev D w' b (updM G a (some y))∧w.grownBy w' (some b)∧w'.heap.size=w.heap.size:=by
  obtain⟨es,c,hb,H⟩:=h
  have hkeys:∀e∈es,OK e.key:=fun e he=>by
    obtain⟨q,y,k1,k2,-⟩:=H.ent e he
    rw[k2]
    exact hD q k1
  have hblt:b<w.heap.size:=(Array.getElem?_eq_some_iff.1 hb).1
  have hgr:∀o,w.grownBy { w with heap:=w.heap.setIfInBounds b o } (some b):=fun o=>⟨rfl,rfl,rfl,by simp,fun i _ hi=>by simp only[Array.getElem?_setIfInBounds];rw[if_neg (fun e=>hi (by rw[e]))]⟩
  have hnew:∀o,({ w with heap:=w.heap.setIfInBounds b o } :World).heap[b]? =some o:=fun o=>by simp[hblt]
  rcases L.find w (hD a ha) es hkeys with ⟨f1,f2⟩ | ⟨j,g,f1,f2,f3⟩
  · have hnone:∀x,G a≠some x:=fun x hx=>by
      obtain⟨-,e,he,hek⟩:=H.all a x hx
      exact f2 e he hek
    refine⟨{ w with heap:=w.heap.setIfInBounds b (.map (es++ [({ key:=ek a,val:=ev y,born:=c } :MapEntry)]).toArray (c+1)) },?_,⟨_,_,hnew _,?_,?_,?_⟩,hgr _,by simp⟩
    · simp[Instr.mapUpdate,run_underlying ht,MapKept.run_getObj_map hb,L.check w false (hD a ha),f1,MapKept.run_setObj_map _ hb,Result.andThen]
    · simp only[List.map_append,List.map_cons,List.map_nil]
      refine List.nodup_append.2 ⟨H.keys,by simp,fun x hx z hz e=> ?_⟩
      obtain⟨f,he1,rfl⟩:=List.mem_map.1 hx
      simp at hz
      exact f2 f he1 (e.trans hz)
    · intro e he
      rcases List.mem_append.1 he with h1 | h1
      · obtain⟨q,z,k1,k2,k3,k4⟩:=H.ent e h1
        refine⟨q,z,k1,k2,k3,?_⟩
        unfold updM
        rw[if_neg (fun f=>f2 e h1 (by rw[k2,f]))]
        exact k4
      · rw[List.mem_singleton.1 h1]
        exact⟨a,y,ha,rfl,rfl,by unfold updM;rw[if_pos rfl]⟩
    · intro q z hq
      unfold updM at hq
      split at hq
      · rename_i f
        subst f
        exact⟨ha,_,List.mem_append_right _ (List.mem_singleton.2 rfl),rfl⟩
      · obtain⟨k1,e,he,hek⟩:=H.all q z hq
        exact⟨k1,e,List.mem_append_left _ he,hek⟩
  · obtain⟨q0,y0,k1,k2,k3,k4⟩:=H.ent g (List.mem_of_getElem? f2)
    have hjl:j<es.length:=(List.getElem?_eq_some_iff.1 f2).1
    have hkeq:(es.modify j fun e=> { e with key:=ek a,val:=ev y }).map (·.key)=es.map (·.key):=by
      rw[Go.ChangeMaps.modify_eq_set _ _ _ _ f2,List.map_set]
      exact Go.WideElems.set_self _ _ _ (by rw[List.getElem?_map,f2];simp[f3])
    have hj:es.toArray[j]? =some g:=by simpa using f2
    refine⟨{ w with heap:=w.heap.setIfInBounds b (.map (es.modify j fun e=> { e with key:=ek a,val:=ev y }).toArray c) },?_,⟨_,_,hnew _,?_,?_,?_⟩,hgr _,by simp⟩
    · simp[Instr.mapUpdate,run_underlying ht,MapKept.run_getObj_map hb,L.check w false (hD a ha),f1,f2,f3,L.stays w (hD a ha),MapKept.run_setObj_map _ hb,Result.andThen]
    · rw[hkeq]
      exact H.keys
    · intro e he
      rw[Go.ChangeMaps.modify_eq_set _ _ _ _ f2]at he
      obtain⟨i,hil,hie⟩:=List.mem_iff_getElem.1 he
      rw[List.getElem_set]at hie
      split at hie
      · subst hie
        exact⟨a,y,ha,rfl,rfl,by unfold updM;rw[if_pos rfl]⟩
      · rename_i hne
        have hil2:i<es.length:=by simpa using hil
        obtain⟨q,z,m1,m2,m3,m4⟩:=H.ent e (hie▸List.getElem_mem hil2)
        refine⟨q,z,m1,m2,m3,?_⟩
        unfold updM
        rw[if_neg ?_]
        · exact m4
        · intro f
          subst f
          apply hne
          have hn:=H.keys
          have k:(es.map (·.key))[j]'(by simpa using hjl)=(es.map (·.key))[i]'(by simpa using hil2):=by
            simp only[List.getElem_map]
            rw[hie,m2,←f3]
            exact congrArg MapEntry.key (List.getElem?_eq_some_iff.1 f2).2
          exact(List.getElem_inj hn).1 k
    · intro q z hq
      have hmem:∀x,x∈es.map (·.key)→∃e∈(es.modify j fun e=> { e with key:=ek a,val:=ev y }),e.key=x:=fun x hx=>by
        rw[←hkeq]at hx
        obtain⟨e,he,rfl⟩:=List.mem_map.1 hx
        exact⟨e,he,rfl⟩
      unfold updM at hq
      split at hq
      · rename_i f
        subst f
        exact⟨ha,hmem _ (List.mem_map.2 ⟨g,List.mem_of_getElem? f2,f3⟩)⟩
      · obtain⟨k1,e,he,hek⟩:=H.all q z hq
        exact⟨k1,hmem _ (List.mem_map.2 ⟨e,he,hek⟩)⟩
theorem MapF.del{ty:TypeId}(h:MapF ek ev D w b G){a:α}(ha:D a):
    ∃w',(Builtin.delete_ #[t,K] ty #[.map (some b),ek a]).run P w = .ok (.tuple #[]) w' ∧MapF ek ev D w' b (updM G a none)∧w.grownBy w' (some b)∧w'.heap.size=w.heap.size:=by
  obtain⟨es,c,hb,H⟩:=h
  have hkeys:∀e∈es,OK e.key:=fun e he=>by
    obtain⟨q,y,k1,k2,-⟩:=H.ent e he
    rw[k2]
    exact hD q k1
  have hblt:b<w.heap.size:=(Array.getElem?_eq_some_iff.1 hb).1
  have hgr:∀o,w.grownBy { w with heap:=w.heap.setIfInBounds b o } (some b):=fun o=>⟨rfl,rfl,rfl,by simp,fun i _ hi=>by simp only[Array.getElem?_setIfInBounds];rw[if_neg (fun e=>hi (by rw[e]))]⟩
  have hnew:∀o,({ w with heap:=w.heap.setIfInBounds b o } :World).heap[b]? =some o:=fun o=>by simp[hblt]
  rcases L.find w (hD a ha) es hkeys with ⟨f1,f2⟩ | ⟨j,k,f1,f2,f3⟩
  · have hG:G a=none:=by
      cases hG:G a with
      | none=>rfl
      | some y=>
        obtain⟨-,e,he,hek⟩:=H.all a y hG
        exact absurd hek (f2 e he)
    have hU:updM G a none=G:=by
      funext x
      unfold updM
      split
      · rename_i e;rw[e,hG]
      · rfl
    rw[hU]
    refine⟨{ w with heap:=w.heap.setIfInBounds b (.map es.toArray c) },?_,⟨_,_,hnew _,H⟩,hgr _,by simp⟩
    simp[Builtin.delete_,run_underlying ht,MapKept.run_getObj_map hb,L.check w _ (hD a ha),f1,MapKept.run_setObj_map _ hb,Result.andThen]
  · have hjl:j<es.length:=(List.getElem?_eq_some_iff.1 f2).1
    have hne:∀e∈es.eraseIdx j,e.key≠ek a:=fun e he hk=>by
      obtain⟨i,hil,hie⟩:=List.mem_eraseIdx_iff_getElem.1 he
      obtain⟨hij,hie⟩:=hie
      have g:(es.map (·.key))[j]'(by simpa using hjl)=(es.map (·.key))[i]'(by simpa using hil):=by
        simp only[List.getElem_map]
        rw[hie,hk,←f3]
        exact congrArg MapEntry.key (List.getElem?_eq_some_iff.1 f2).2
      exact hij ((List.getElem_inj H.keys).1 g).symm
    refine⟨{ w with heap:=w.heap.setIfInBounds b (.map (es.eraseIdx j).toArray c) },?_,⟨_,_,hnew _,?_,?_,?_⟩,hgr _,by simp⟩
    · simp[Builtin.delete_,run_underlying ht,MapKept.run_getObj_map hb,L.check w _ (hD a ha),f1,MapKept.run_setObj_map _ hb,Result.andThen]
    · exact H.keys.sublist ((List.eraseIdx_sublist _ _).map _)
    · intro e he
      obtain⟨q,z,m1,m2,m3,m4⟩:=H.ent e ((List.eraseIdx_sublist _ _).subset he)
      refine⟨q,z,m1,m2,m3,?_⟩
      unfold updM
      rw[if_neg (fun f=>hne e he (by rw[m2,f]))]
      exact m4
    · intro q z hq
      unfold updM at hq
      split at hq
      · cases hq
      · rename_i hqa
        obtain⟨k1,e,he,hek⟩:=H.all q z hq
        refine⟨k1,e,?_,hek⟩
        obtain⟨i,hil,hie⟩:=List.mem_iff_getElem.1 he
        refine List.mem_eraseIdx_iff_getElem.2 ⟨i,hil,fun f=> ?_,hie⟩
        subst f
        apply hqa
        refine hi _ _ (hek.symm.trans ?_)
        rw[←f3,←hie]
        exact congrArg MapEntry.key (List.getElem?_eq_some_iff.1 f2).2
end
end
open Go.RowKit
theorem AL{a b:Nat}(h:a≠b):some a≠some b:=fun e=>h (Option.some.inj e)
def Ae(u v:Value):Prop:=∀k,u.ownBlock=some k→v.ownBlock≠some k
section
variable {N B : Nat} {r : Option Nat} {w w' w1 w0 : World} {e t : TypeId}
theorem Jf{z n:Nat}{v:Value}{xs:List Value}(ho:w.ownsRow B e z v n xs)(k:w.grownBy w1 r)(ha:∀k,r=some k→v.ownBlock≠some k):w1.ownsRow B e z v n xs:=
  ho.kept k (by
    cases hv:v.ownBlock with
    | none=>exact .inl rfl
    | some g=>exact .inr (fun e=>ha g e.symm hv))
theorem A4{u v:Value}{b:Nat}{e' :TypeId}{z n z' n' :Nat}{xs ys:List Value}(hu:w.ownsRow b e z u n xs)(hv:w'.ownsRow w.heap.size e' z' v n' ys):Ae u v:=fun k h1 h2=>by
  have:=(hu.lt k h1).2
  have:=(hv.lt k h2).1
  omega
theorem A0{u v:Value}{b:Nat}{e' :TypeId}{z n z' n' :Nat}{xs ys:List Value}(hu:w.ownsRow b e z u n xs)(hv:w'.ownsRow w.heap.size e' z' v n' ys):Ae v u:=fun k h1 h2=>A4 hu hv k h2 h1
theorem Au{u v v' :Value}{b:Nat}{z n:Nat}{xs:List Value}(gr:Grew w w' v v')(ha:Ae v u)(hu:w.ownsRow b e z u n xs):Ae v' u:=fun k h1 h2=>by
  rcases gr.fresh k h1 with h3 | h3
  · exact ha k h3 h2
  · have:=(hu.lt k h2).2
    omega
theorem Bg{v v' u:Value}{b:Nat}{z n:Nat}{xs:List Value}(hu:w.ownsRow b e z u n xs)(gr:Grew w w' v v')(ha:Ae v u):w'.ownsRow b e z u n xs:=Jf hu gr.by_ ha
theorem By{α:Type}{k b:Nat}{enc:α→List Value}{v v' u:Value}{l:List α}(hu:OG b e k enc w u l)(gr:Grew w w' v v')(ha:Ae v u):OG b e k enc w' u l:=⟨hu.1,Bg hu.2 gr ha⟩
end
open Go.RowKit
def Yp(P:Program)(K:Value→World→Prop)(J:List PanicEntry→World→Prop):Result Next→Prop
  | .ok (.value v) w=>K v w
  | .ok .skip w=>K undef w
  | .ok (.enter f args) w=>Calls P f args w fun e w' =>match e with | .returned v=>K v w' | .panicked ch=>J ch w' | .outgrown=>False
  | .halt (.panic v) w=>J [{ v,recovered:=false }] w
  | _=>False
section
variable {P : Program} {n : Nat} {Q : B9} {ρ : Aq} {w : World}
theorem Yp.ofK{K:Value→World→Prop}{J:List PanicEntry→World→Prop}{r:Result Next}(h:Yk P K r):Yp P K J r:=by
  unfold Yk at h
  split at h
  · exact h
  · exact h
  · exact h.mono fun e w' hx=>by
      obtain⟨v,rfl,hk⟩:=hx
      exact hk
  · exact h.elim
theorem oP{ops:Array Oper}{rest:List Oper}{dst:Option Tmp}{op:Op}{ty:TypeId}{pos:String}{af:Array Edge}(hd:(match dst with | some d=>Nat.blt d n | none=>true)=true) 
    (h:Yp P (fun v w' =>Dm P ops n Q rest (Cb ρ dst v) w') (fun ch w' =>Q (.panic ch) ρ w') ((execOp (Ad ρ) ⟨dst,op,ty,pos,af,none⟩).run P w)):Dm P ops n Q (⟨dst,op,ty,pos,af,none⟩ :: rest) ρ w:=by
  intro a ha
  have hdn:∀t,dst=some t→t<n:=fun t ht=>by subst ht;exact Nat.le_of_ble_eq_true hd
  refine wpList_plain rfl fun K hK=> ?_
  unfold Oper.wp Oper.upon
  rw[ha.eval]
  have hput:=fun v=>ha.put dst hdn v
  revert h
  generalize (execOp (Ad ρ) ⟨dst,op,ty,pos,af,none⟩).run P w=r
  intro h
  match r,h with
  | .ok (.value v) w',h=>exact hK _ _ (h _ (hput v))
  | .ok .skip w',h=>exact hK _ _ (h _ (hput undef))
  | .halt (.panic v) w',h=>exact⟨ρ,ha,h⟩
  | .ok (.enter f args) w',h=>
    refine Calls.mono h ?_
    intro e w'' hx
    match e,hx with
    | .returned v,hx=>exact hK _ _ (hx _ (hput v))
    | .panicked ch,hx=>exact⟨ρ,ha,hx⟩
theorem Yp.call{f:FuncId}{args:Array Operand}{at_:Array TypeId}{dst:Option Tmp}{ty:TypeId}{pos:String}{af:Array Edge}{gd:Option (Nat × Bool)}{K:Value→World→Prop}{J:List PanicEntry→World→Prop}(hp:A2 P f)(vs:List Value)(hv:args.toList.map (Ad ρ)=vs) 
    (h:Calls P f vs.toArray w fun e w' =>match e with | .returned v=>K v w' | .panicked ch=>J ch w' | .outgrown=>False):Yp P K J ((execOp (Ad ρ) ⟨dst, .call ⟨.value (.func f),args,at_⟩,ty,pos,af,gd⟩).run P w):=by
  subst hv
  have hr:=Gk hp (Ad ρ) args.toList at_ dst ty pos af gd w rfl
  rw[Array.toArray_toList]at hr
  rw[hr]
  exact h
theorem AG{f:FuncId}{args:Array Value}{K:Value→World→Prop}{J:List PanicEntry→World→Prop}{A:Value→World→Prop}{B:List PanicEntry→World→Prop}(h:Calls P f args w fun e w' =>(∃v,e = .returned v∧A v w')∨∃ch,e = .panicked ch∧B ch w') 
    (hA:∀v w',A v w' →K v w') (hB:∀ch w',B ch w' →J ch w'):Calls P f args w fun e w' =>match e with | .returned v=>K v w' | .panicked ch=>J ch w' | .outgrown=>False:=
  h.mono fun e w' hx=>by
    rcases hx with ⟨v,rfl,h1⟩ | ⟨ch,rfl,h1⟩
    · exact hA v w' h1
    · exact hB ch w' h1
theorem Yp.panic{dst:Option Tmp}{ty:TypeId}{pos:String}{af:Array Edge}{gd:Option (Nat × Bool)}{K:Value→World→Prop}{J:List PanicEntry→World→Prop}{x:Operand}{u:TypeId}{v:Value}(hx:Ad ρ x = .iface u v)(h:J [{ v:= .iface u v,recovered:=false }] w):
    Yp P K J ((execOp (Ad ρ) ⟨dst, .panic x,ty,pos,af,gd⟩).run P w):=by
  have hr:(execOp (Ad ρ) ⟨dst, .panic x,ty,pos,af,gd⟩).run P w = .halt (.panic (.iface u v)) w:=by
    simp[execOp,hx,Instr.panic,goPanic]
  rw[hr]
  exact h
section
variable {Q : B9} {K : Aq → World → Prop} {ch : List PanicEntry}
theorem Af(h:Q (.panic ch) ρ w):Fe K Q (.panic ch) ρ w:=h
theorem Aw{i:Nat}(h:Q (.panic ch) ρ w):D9 i Q (.panic ch) ρ w:=h
end
def GZ(P:Program)(fn:Func)(R:Ending→World→Prop):B9
  | .normal,ρ,w | .ret,ρ,w=>∀tmps:Array Value,(∀t,tmps.getD t undef=ρ t)→∃v,(results fn tmps).run P w = .ok v w∧R (.returned v) w
  | .panic ch,_,w=>R (.panicked ch) w
  | _,_,_=>False
theorem CX{f:FuncId}{fn:Func}{c:Code}{args:List Value}{R:Ending→World→Prop}(hf:P.funcs[f]? =some fn)(hb:fn.body=some c)(m:Nat)(hm:fn.ntmps=m)(hn:args.length≤m) 
    (h:∀ρ,Jj args ρ→B2 P m c (GZ P fn R) ρ w):Calls P f args.toArray w R:=by
  subst hm
  refine calls_of_wp hf hb ?_
  have hget:∀t,(args.toArray++Array.replicate (fn.ntmps-args.toArray.size) undef).getD t undef=args.getD t undef:=fun t=>by
    simp only[Array.getD_eq_getD_getElem?,List.getD_eq_getElem?_getD,Array.getElem?_append,List.size_toArray,List.getElem?_toArray]
    by_cases ht:t<args.length
    · rw[if_pos ht]
    · rw[if_neg ht,List.getElem?_eq_none (by omega),Array.getElem?_replicate]
      split <;> rfl
  refine wp_mono (h (fun t=>args.getD t undef) ⟨fun _=>rfl⟩ _ ⟨?_,rfl,hget⟩) ?_
  · simp
    omega
  · rintro e a' w' ⟨ρ',hf',hQ⟩
    have fin:(∀tmps:Array Value,(∀t,tmps.getD t undef=ρ' t)→∃v,(results fn tmps).run P w' = .ok v w' ∧R (.returned v) w')→a'.defers= []∧∃v,(results fn a'.tmps).run P w' = .ok v w' ∧R (.returned v) w' :=
      fun h=>⟨hf'.defers,h a'.tmps hf'.get⟩
    cases e with
    | normal=>exact fin hQ
    | ret=>exact fin hQ
    | panic ch=>exact⟨hf'.defers,hQ⟩
    | exit _=>exact hQ.elim
    | goto _=>exact hQ.elim
    | outgrown=>exact hQ.elim
theorem Ca{fn:Func}{R:Ending→World→Prop}(rs:List ResultVar)(hrs:fn.results=rs.toArray)(vs:List Value)(v:Value)(hv:EY vs=v)(h:EB P ρ w rs vs)(hR:R (.returned v) w):GZ P fn R .ret ρ w:=
  fun _ ht=>⟨_,Ei hrs ht h,by rw[hv];exact hR⟩
theorem Gr{fn:Func}{R:Ending→World→Prop}(rs:List ResultVar)(hrs:fn.results=rs.toArray)(vs:List Value)(v:Value)(hv:EY vs=v)(h:EB P ρ w rs vs)(hR:R (.returned v) w):GZ P fn R .normal ρ w:=
  fun _ ht=>⟨_,Ei hrs ht h,by rw[hv];exact hR⟩
theorem AK{fn:Func}{R:Ending→World→Prop}{ch:List PanicEntry}(h:R (.panicked ch) w):GZ P fn R (.panic ch) ρ w:=h
end
open Go.RowKit
theorem DT:Tryd.prog.underlying 24=some (.slice 5):=by kernel_rfl
theorem Ny:Tryd.prog.underlying 9=some .string:=by kernel_rfl
theorem FW:(Tryd.prog.info? 5).map (fun i=>(i.zero,i.size,i.bytes))=some (some (.int .u8 0),1,1):=by kernel_rfl

theorem KY(w:World)(v:Value)(l:List UInt8)(hr:RB w v l)(hl:l.length+16≤140737488355328):
    Calls Tryd.prog 51 #[v] w fun e w' =>∃v',e = .returned v' ∧NewB 5 w w' v' l:=by
  obtain⟨i0,hi,a,c,f⟩:=info_parts FW
  have hsrc:∀w' :World,w.grownBy w' none→Src Tryd.prog 1 24 v l.length (Lib.byteCells l) w' :=fun w' hg=>
    (hr.below (B:=w.heap.size) ((Below.refl _ _).grown hg (Nat.le_refl _) (fun k hk=>by cases hk)) rfl).src DT
  have HS:=Lib.hid hsrc
  clear hsrc
  obtain⟨h1,ao,cap,rfl,h2,h3,h4,h5⟩:=hr
  have h:l.length≤140737488355312:=by omega
  clear h1 h4 h5 hl
  unfold maxLen at h3
  go_enter Tryd.func51,Tryd.ntmps51
  go_wp2_with (at_make;refine wpList_make_own _ rfl _ _ 24 rfl w.heap.size 5 i0 (.int .u8 0) 1 DT hi a c _ _ _ (l.length+16) rfl rfl (by omega) ?b1 ?b2 ?b3 ?_)
  case b1=>rw[f];omega
  case b2=>unfold maxLen;omega
  case b3=>exact Nat.le_refl _
  intro w1 hown hg
  have g:=HS.out w1 hg
  go_wp2_with (at_builtin;refine BM _ rfl _ _ 24 24 rfl w.heap.size 5 i0 (.int .u8 0) 1 1 DT hi a c f rfl _ _ _ rfl hown _ _ _ rfl g ?c1 ?c2 ?c3 ?_)
  case c1=>unfold maxLen;omega
  case c2=>omega
  case c3=>exact hg.size
  intro v' i hown2 hgrow
  go_wp2
  go_ret
  refine⟨v',rfl,by simpa using hown2,Bu hg hgrow.by_ (fun b hb=> ?_)⟩
  simp[Value.ownBlock]at hb
  omega

set_option maxRecDepth 100000 in
set_option maxHeartbeats 1000000 in
theorem HF(B n x:Nat)(hx:x<18446744073709551616)(sv:Value)(xs:List Value)(w:World)(hown:w.ownsRow B 5 1 sv n xs)(hBw:B≤w.heap.size)(hlim:n+10≤140737488355328):
    Calls Tryd.prog 50 #[sv, .int .u64 x] w fun e w' =>∃v',e = .returned v' ∧w'.ownsRow B 5 1 v' (n+(Lib.uvarint x).length) (xs++Lib.byteCells (Lib.uvarint x))∧Grew w w' sv v' :=by
  obtain⟨i0,hi,a,b,c⟩:=info_parts FW
  have hlen:=Lib.uvarint_length64 hx
  go_enter Tryd.func50,Tryd.ntmps50
  go_wp2
  go_loopw [0,1] (fun vb vx wr=>∃(y:Nat) (pre:List UInt8),vx = .int .u64 y∧y≤x∧Lib.uvarint x=pre++Lib.uvarint y∧wr.ownsRow B 5 1 vb (n+pre.length) (xs++Lib.byteCells pre)∧Grew w wr sv vb)
    (fun _ vx _=>(intOf vx).toNat)
  case atStart=>exact⟨x,[],rfl,Nat.le_refl _,rfl,by simpa [Lib.byteCells] using hown,Grew.refl _ _⟩
  case round=>
    obtain⟨y,pre,rfl,hy,hsplit,hown1,hnx⟩:=hrel
    have hpl:pre.length+(Lib.uvarint y).length≤10:=by
      have h2:=congrArg List.length hsplit
      rw[List.length_append]at h2
      omega
    have hyp:=Lib.uvarint_pos y
    have hbw:=hnx.by_.size
    by_cases h128:128≤y
    · have hor:bits .or .u8 ((y:Int)%256) 128=((y%128+128:Nat):Int):=by
        rw[Lib.u8_or128_any _ (by omega) (by omega)]
        omega
      go_wp2_with (at_builtin;refine BM _ rfl _ _ 24 24 rfl B 5 i0 (.int .u8 0) 1 1 DT hi a b c rfl _ _ _ rfl (hown1.alloc _) (.slice (some ⟨wr.heap.size,0,none⟩) 1 1) 1 [_] rfl (HA DT wr _ _ rfl) ?c1 ?c2 ?c3 ?_)
      case c1=>unfold maxLen;omega
      case c2=>omega
      case c3=>simp;omega
      intro v' w1 hown' hgrow
      have hnx1:Grew w w1 sv v' :=(hnx.alloc _).trans hgrow
      go_wp2
      go_roundw
      case rel=>
        refine⟨y/128,pre++ [(y%128+128).toUInt8],by go_num,by omega,by rw[hsplit,Lib.uvarint_big h128];simp,?_,hnx1⟩
        have ec:((y%128+128:Nat):Int)=(y:Int)%128+128:=by omega
        rw[Lib.byteCells_snoc pre (by omega),List.length_append,List.length_singleton,←Nat.add_assoc,ec]
        exact hown'
      case measure=>simp[intOf];omega
    · have hsm:Lib.uvarint y= [y.toUInt8]:=Lib.uvarint_small (by omega)
      go_wp2_with (at_builtin;refine BM _ rfl _ _ 24 24 rfl B 5 i0 (.int .u8 0) 1 1 DT hi a b c rfl _ _ _ rfl (hown1.alloc _) (.slice (some ⟨wr.heap.size,0,none⟩) 1 1) 1 [_] rfl (HA DT wr _ _ rfl) ?d1 ?d2 ?d3 ?_)
      case d1=>unfold maxLen;omega
      case d2=>omega
      case d3=>simp;omega
      intro v' w1 hown' hgrow
      have hnx1:Grew w w1 sv v' :=(hnx.alloc _).trans hgrow
      go_wp2
      go_ret
      refine⟨v',rfl,?_,hnx1⟩
      rw[hsplit,hsm,Lib.byteCells_snoc pre (by omega),List.length_append,List.length_singleton,←Nat.add_assoc]
      exact hown'

theorem A1(n:Nat)(h:n<9223372036854775808):(Lib.uvarint n).length≤9:=Lib.uvarint_length 8 n (Nat.lt_of_lt_of_le h (by decide))

theorem KZ(w:World)(v:Value)(l:List UInt8)(hr:RB w v l)(hl:l.length+16≤140737488355328)(n:Nat)(hn:n≤9223372036854775807):
    Calls Tryd.prog 49 #[v, .int .i64 n] w fun e w' =>∃v',e = .returned (.tuple #[v', .int .i64 0])∧NewB 5 w w' v' (l++Lib.uvarint n):=by
  go_enter Tryd.func49,Tryd.ntmps49
  go_wp2_with fail
  refine(KY _ _ l hr hl).mono ?_
  rintro e w1 ⟨a,rfl,h1⟩
  go_wp2_with fail
  refine(HF w.heap.size l.length n (by omega) a _ w1 h1.own h1.by_.size (by omega)).mono ?_
  rintro e c ⟨b,rfl,ho,g⟩
  go_wp2_with fail
  go_ret2
  exact⟨b,rfl,h1.more g ho⟩

theorem Nz(w:World)(v:Value)(l:List UInt8)(hr:RB w v l)(hl:l.length≤140737488355328):
    Calls Tryd.prog 29 #[v] w fun e w' =>∃v',e = .returned v' ∧NewB 5 w w' v' l:=by
  obtain⟨i0,hi,a,b,c⟩:=info_parts FW
  go_enter Tryd.func29,Tryd.ntmps29
  have h0:NewB 5 w (w.alloc (.cells #[] 5)) (.slice (some ⟨w.heap.size,0,none⟩) 0 0) []:=
    ⟨World.ownsRow_lit w #[] 0 (Nat.le_refl _) (by simp[maxLen]) rfl,World.grownBy_alloc w _ none⟩
  have f:=(hr.keep h0.below).src DT
  have HH:=Lib.hid h0
  clear h0
  go_wp2_with (at_builtin;refine BM _ rfl _ _ 24 24 rfl w.heap.size 5 i0 (.int .u8 0) 1 1 DT hi a b c rfl (.slice (some ⟨w.heap.size,0,none⟩) 0 0) 0 [] rfl HH.out.own _ _ _ rfl f ?c1 ?c2 ?c3 ?_)
  case c1=>unfold maxLen;omega
  case c2=>omega
  case c3=>exact HH.out.by_.size
  intro v' g hown' hgrow
  go_wp2
  go_ret
  exact⟨v',rfl,HH.out.more hgrow (by rw[List.length_nil,Nat.zero_add];exact hown')⟩

set_option maxRecDepth 100000 in
set_option maxHeartbeats 1000000 in
theorem CG(w:World)(x:Nat)(hx:x≤9223372036854775807):
    Calls Tryd.prog 30 #[.int .i64 x] w fun e w' =>∃v',e = .returned v' ∧NewB 5 w w' v' (Lib.uvarint x):=by
  obtain⟨i0,hi,a,c,f⟩:=info_parts FW
  have hlen:=A1 x (by omega)
  go_enter Tryd.func30,Tryd.ntmps30
  go_wp2
  go_loopw [0,3] (fun vx vb wr=>∃(y:Nat) (pre:List UInt8),vx = .int .i64 y∧y≤x∧Lib.uvarint x=pre++Lib.uvarint y∧NewB 5 w wr vb pre)
    (fun vx _ _=>(intOf vx).toNat)
  case atStart=>exact⟨x,[],rfl,Nat.le_refl _,rfl,World.ownsRow_nil _ _ _ _,World.grownBy.refl _ _⟩
  case round=>
    obtain⟨y,pre,rfl,hy,hsplit,hown1⟩:=hrel
    have hpl:pre.length+(Lib.uvarint y).length≤9:=by
      have h2:=congrArg List.length hsplit
      rw[List.length_append]at h2
      omega
    have hyp:=Lib.uvarint_pos y
    have hbw:=hown1.by_.size
    by_cases h128:128≤y
    · go_wp2_with (at_builtin;refine BM _ rfl _ _ 24 24 rfl w.heap.size 5 i0 (.int .u8 0) 1 1 DT hi a c f rfl _ _ _ rfl (hown1.own.alloc _) (.slice (some ⟨wr.heap.size,0,none⟩) 1 1) 1 [_] rfl (HA DT wr _ _ rfl) ?c1 ?c2 ?c3 ?_)
      case c1=>unfold maxLen;omega
      case c2=>omega
      case c3=>simp;omega
      intro v' w1 hown' hgrow
      have hnx1:NewB 5 w w1 v' (pre++ [(y%128+128).toUInt8]):=by
        refine NewB.more (l' := [(y%128+128).toUInt8]) ⟨hown1.own.alloc _,Bu hown1.by_ (World.grownBy_alloc _ _ none) (fun b hb=>by cases hb)⟩ hgrow ?_
        have ec:(128+(y:Int)%128)=((y%128+128:Nat):Int):=by omega
        rw[ec]at hown'
        rw[←Lib.byteCells_append,Lib.byteCells_snoc pre (by omega)]
        exact hown'
      go_wp2
      go_roundw
      case rel=>
        exact⟨y/128,pre++ [(y%128+128).toUInt8],by go_num,by omega,by rw[hsplit,Lib.uvarint_big h128];simp,hnx1⟩
      case measure=>simp[intOf];omega
    · have hsm:Lib.uvarint y= [y.toUInt8]:=Lib.uvarint_small (by omega)
      go_wp2_with (at_builtin;refine BM _ rfl _ _ 24 24 rfl w.heap.size 5 i0 (.int .u8 0) 1 1 DT hi a c f rfl _ _ _ rfl (hown1.own.alloc _) (.slice (some ⟨wr.heap.size,0,none⟩) 1 1) 1 [_] rfl (HA DT wr _ _ rfl) ?d1 ?d2 ?d3 ?_)
      case d1=>unfold maxLen;omega
      case d2=>omega
      case d3=>simp;omega
      intro v' w1 hown' hgrow
      have hnx1:NewB 5 w w1 v' (pre++ [y.toUInt8]):=by
        refine NewB.more (l' := [y.toUInt8]) ⟨hown1.own.alloc _,Bu hown1.by_ (World.grownBy_alloc _ _ none) (fun b hb=>by cases hb)⟩ hgrow ?_
        rw[←Lib.byteCells_append,Lib.byteCells_snoc pre (by omega)]
        exact hown'
      go_wp2
      go_ret
      exact⟨v',rfl,by rw[hsplit,hsm];exact hnx1⟩

def Bk(k:Nat):List UInt8→Option (Nat × Nat)
  | []=>none
  | c :: r=>if 128≤c.toNat then(if 8≤k then none else(Bk (k+1) r).map (fun x=>(c.toNat-128+128*x.1,x.2+1)))
      else if c.toNat=0∧0<k then none else some (c.toNat,1)
theorem FX:∀(l:List UInt8) (k:Nat) (x:Nat × Nat),Bk k l=some x→1≤x.2∧x.2≤l.length∧x.2+k≤max 9 (k+1)
  | [],k,x,h=>by simp[Bk]at h
  | c :: r,k,x,h=>by
    unfold Bk at h
    split at h
    · split at h
      · cases h
      · obtain⟨y,hy,rfl⟩:=Option.map_eq_some_iff.1 h
        have:=FX r (k+1) y hy
        simp
        omega
    · split at h
      · cases h
      · cases h;simp;omega
theorem Gs:∀(l:List UInt8) (k:Nat) (x:Nat × Nat),Bk k l=some x→x.1<128^x.2
  | [],k,x,h=>by simp[Bk]at h
  | c :: r,k,x,h=>by
    unfold Bk at h
    split at h
    · split at h
      · cases h
      · obtain⟨y,hy,rfl⟩:=Option.map_eq_some_iff.1 h
        have:=Gs r (k+1) y hy
        have hc:=c.toNat_lt
        simp only[Nat.pow_succ]
        omega
    · split at h
      · cases h
      · cases h;simp;omega
theorem FJ(rest:List UInt8):∀(m n k:Nat),n<128^(m+1)→m+k≤8→(0<k→0<n)→Bk k (Lib.uvarint n++rest)=some (n,(Lib.uvarint n).length)
  | m,n,k,hn,hk,h0=>by
    by_cases h:n<128
    · rw[Lib.uvarint_small h]
      have:(n.toUInt8).toNat=n:=by simp[Nat.toUInt8,UInt8.toNat_ofNat'];omega
      simp only[List.cons_append,Bk,this]
      rw[if_neg (by omega),if_neg (by omega)]
      simp
    · have hb:((n%128+128).toUInt8).toNat=n%128+128:=by simp[Nat.toUInt8,UInt8.toNat_ofNat'];omega
      rw[Lib.uvarint_big (by omega)]
      simp only[List.cons_append,Bk,hb]
      match m,hn,hk with
      | 0,hn,_=>simp at hn;omega
      | m+1,hn,hk=>
        rw[if_pos (by omega),if_neg (by omega),FJ rest m (n/128) (k+1) (by rw[Nat.pow_succ]at hn;exact Nat.div_lt_of_lt_mul (by rw[Nat.mul_comm];exact hn)) (by omega) (fun _=>by omega)]
        simp
        omega
open Go.RowKit
theorem Ls:∀w' :World,(sizeOf 5).run Tryd.prog w' = .ok 1 w' :=fun _=>by kernel_rfl
def DY(a:Nat):Option (Nat × Nat)→Value
  | some x=> .tuple #[.int .i64 x.1, .int .i64 ↑(a+x.2), .int .i64 0]
  | none=> .tuple #[.int .i64 0, .int .i64 0, .int .i64 6]

theorem FY(y k:Nat)(hy:y<128)(hk:k≤8):IntKind.u64.wrap ((y:Int)*2^(7*k))=((y*2^(7*k):Nat):Int):=by
  have h1:y*2^(7*k)≤127*2^56:=Nat.mul_le_mul (by omega) (Nat.pow_le_pow_right (by decide) (by omega))
  have e:((y:Int)*2^(7*k))=((y*2^(7*k):Nat):Int):=by push_cast;rfl
  rw[e]
  exact IntWalk.u64_in _ ⟨by omega,by omega⟩
theorem Jw(out y k:Nat)(hout:out<2^(7*k))(hy:y<128)(hk:k≤8):bits .or .u64 (out:Int) ((y*2^(7*k):Nat):Int)=((out+2^(7*k)*y:Nat):Int):=by
  have h1:y*2^(7*k)≤127*2^56:=Nat.mul_le_mul (by omega) (Nat.pow_le_pow_right (by decide) (by omega))
  have h2:2^(7*k)≤2^56:=Nat.pow_le_pow_right (by decide) (by omega)
  have h:=(bits_nat .u64 64 (by decide) wraps_u64 out (y*2^(7*k)) (by omega) (by omega)).2
  rw[h]
  congr 1
  have h3:=Nat.shiftLeft_add_eq_or_of_lt hout y
  rw[Nat.shiftLeft_eq]at h3
  rw[Nat.or_comm,←h3,Nat.mul_comm]
  omega
set_option maxRecDepth 100000 in
theorem Lt:∀n:Fin 128,bits .andNot .u8 ((n.val+128:Nat):Int) 128=(n.val:Int):=by decide+kernel
theorem Jx(c:Nat)(h:128≤c)(h2:c<256):IntKind.u64.wrap (bits .andNot .u8 (c:Int) 128)=((c-128:Nat):Int):=by
  have h1:=Lt ⟨c-128,by omega⟩
  have e:c-128+128=c:=by omega
  simp only[e]at h1
  rw[h1]
  exact IntWalk.u64_in _ ⟨by omega,by omega⟩

theorem Jy(out y k:Nat)(hout:out<2^(7*k))(hy:y<128)(hk:k≤8):out+2^(7*k)*y≤9223372036854775807:=by
  have h1:2^(7*k)*y≤2^56*127:=Nat.mul_le_mul (Nat.pow_le_pow_right (by decide) (by omega)) (by omega)
  have h2:2^(7*k)≤2^56:=Nat.pow_le_pow_right (by decide) (by omega)
  omega
theorem L8(a k N c:Nat)(h:N+2^(7*k)*c≤9223372036854775807):
    Ending.returned (.tuple #[.int .i64 (wrap64 ((N+2^(7*k)*c:Nat):Int)), .int .i64 ((a:Int)+(k:Int)+1), .int .i64 0]) = .returned (DY a ((some (c,1)).map fun x=>(N+2^(7*k)*x.1,x.2+k))):=by
  rw[IntWalk.wrap64_in _ ⟨by omega,by omega⟩]
  have e:(a:Int)+(k:Int)+1=((a+(1+k):Nat):Int):=by omega
  rw[e]
  rfl

set_option maxRecDepth 100000 in
set_option maxHeartbeats 1000000 in
theorem DZ(w:World)(v:Value)(l:List UInt8)(hr:RB w v l)(a:Nat)(ha:a≤l.length):
    Calls Tryd.prog 63 #[v, .int .i64 a] w fun e w' =>e = .returned (DY a (Bk 0 (l.drop a)))∧w=w' :=by
  have HR:=Lib.hid hr
  obtain⟨ao,cap,rfl,h2,h3⟩:=hr.len
  clear hr
  have hd:decide ((a:Int)<0)=false:=by simp
  have hd2:decide (l.length<a)=false:=by simp;omega
  obtain⟨L,hL⟩:∃L,L=l.drop a:=⟨_,rfl⟩
  have hLn:l.length-a=L.length:=by rw[hL,List.length_drop]
  rw[←hL]
  have HLn:=Lib.hid hLn
  have HL:=Lib.hid hL
  clear hLn hL
  go_enter Tryd.func63,Tryd.ntmps63
  go_wp2_with fail
  go_step3
  go_wp2_with fail
  go_step3
  go_wp2_with (refine FG (o:=⟨some 21,_,_,_,_,_⟩) rfl _ _ (some _) none rfl DT Ls _ l rfl HR.out a l.length ha (Nat.le_refl _) (.inr ⟨.i64,rfl⟩) (.inl ⟨rfl,rfl⟩) ?_)
  intro ao' c' hr'
  rw[List.take_of_length_le (by rw[List.length_drop];exact Nat.le_refl _)]at hr'
  have HR' :=Lib.hid hr'
  clear hr' hd hd2
  rw[←HL.out,HLn.out]at HR'
  rw[HLn.out]
  by_cases g:L.length=0
  · have hL0:L= []:=List.eq_nil_of_length_eq_zero g
    have HL0:=Lib.hid hL0
    clear hL0 HR' HR
    have h00:decide (0<L.length)=false:=by simp[g]
    clear g
    go_wp2_with fail
    refine wp_loop_rounds 1 ?_
    rw[rounds_succ]
    go_wp2
    rw[Exit.noGoto_ret]
    all_goals (go_ret3;exact⟨by rw[HL0.out];simp[Bk,DY],rfl⟩)
  obtain⟨b,off,cc,hv,hcap,hcap2,hbw,hcell⟩:=HR'.out.open_ (by omega)
  simp only[Value.slice.injEq,true_and]at hv
  obtain⟨rfl,rfl⟩:=hv
  have haL:a+L.length≤9223372036854775807:=by have:=HLn.out;omega
  clear HR' HR
  go_wp2_with fail
  go_loop [7,8,23] (fun vx vs vi=>∃k out:Nat,vi = .int .i64 k∧vs = .int .i64 ((7*k:Nat):Int)∧vx = .int .u64 out∧k≤L.length∧k≤8∧out<2^(7*k)∧Bk 0 L=(Bk k (L.drop k)).map (fun x=>(out+2^(7*k)*x.1,x.2+k)))
    (fun _ _ vi=>L.length-(intOf vi).toNat)
  case atStart=>exact⟨0,0,rfl,rfl,rfl,by omega,by omega,by decide,by simp⟩
  case round=>
    obtain⟨k,out,rfl,rfl,rfl,hk,f,hout,hdec⟩:=hrel
    have HD:=Lib.hid hdec
    clear hdec
    by_cases hkl:k<L.length
    · have hc:=hcell k hkl
      have hdrop:L.drop k=L[k] :: L.drop (k+1):=List.drop_eq_getElem_cons hkl
      have hg:L.getD k 0=L[k]:=by simp[hkl]
      rw[hg]at hc
      generalize L[k]=c at hc hdrop
      have HDr:=Lib.hid hdrop
      have i:=c.toNat_lt
      clear hcell hdrop hg
      have HO:=Lib.hid hout
      clear hout
      by_cases h128:128≤c.toNat
      · by_cases hk8' :k=8
        · subst hk8'
          go_wp2
          all_goals (go_ret3;exact⟨by rw[HD.out,HDr.out];simp[Bk,h128,DY],rfl⟩)
        · have m:k<8:=by omega
          clear hk8'
          go_wp2
          go_round
          case rel=>
            have hp:2^(7*(k+1))=2^(7*k)*128:=by rw[show 7*(k+1)=7*k+7 from by omega,Nat.pow_add]
            refine⟨k+1,out+2^(7*k)*(c.toNat-128),by go_num,by go_num,?_,by omega,by omega,?_,?_⟩
            · rw[Jx _ h128 i,FY _ _ (by omega) (by omega),Jw _ _ _ HO.out (by omega) (by omega)]
            · have h1:=HO.out
              have h2:2^(7*k)*(c.toNat-128)≤2^(7*k)*127:=Nat.mul_le_mul_left _ (by omega)
              rw[hp]
              omega
            · rw[HD.out,HDr.out]
              have:Bk k (c :: L.drop (k+1))=(Bk (k+1) (L.drop (k+1))).map (fun x=>(c.toNat-128+128*x.1,x.2+1)):=by
                simp only[Bk]
                rw[if_pos h128,if_neg (by omega)]
              rw[this,Option.map_map]
              congr 1
              funext x
              simp only[Function.comp,Prod.mk.injEq]
              refine⟨?_,by omega⟩
              rw[hp,Nat.mul_add,Nat.mul_assoc]
              omega
          case measure=>simp[intOf];omega
      · have hlt:c.toNat<128:=by omega
        by_cases h0:c.toNat=0
        · have hz:((c.toNat:Int)==0)=true:=by simp[h0]
          have HZ:=Lib.hid h0
          clear h0
          by_cases h:0<k
          · go_wp2
            all_goals (go_ret3;exact⟨by rw[HD.out,HDr.out];simp[Bk,HZ.out,h,DY],rfl⟩)
          · have j:decide (0<k)=false:=by simp;omega
            clear h
            have hd:Bk k (c :: L.drop (k+1))=some (c.toNat,1):=by
              simp only[Bk]
              rw[if_neg h128,if_neg (by simp at j;omega)]
            have HD2:=Lib.hid hd
            clear hd
            go_wp2
            all_goals go_ret3
            all_goals refine⟨?_,rfl⟩
            all_goals rw[FY _ _ hlt f,Jw _ _ _ HO.out hlt f,HD.out,HDr.out,HD2.out]
            all_goals exact L8 a k _ _ (Jy _ _ _ HO.out hlt f)
        · have hz:((c.toNat:Int)==0)=false:=by simp[h0]
          have HZ:=Lib.hid h0
          clear h0
          have hd:Bk k (c :: L.drop (k+1))=some (c.toNat,1):=by
            simp only[Bk]
            rw[if_neg h128,if_neg (by have:=HZ.out;omega)]
          have HD2:=Lib.hid hd
          clear hd
          go_wp2
          all_goals go_ret3
          all_goals refine⟨?_,rfl⟩
          all_goals rw[FY _ _ hlt f,Jw _ _ _ HO.out hlt f,HD.out,HDr.out,HD2.out]
          all_goals exact L8 a k _ _ (Jy _ _ _ HO.out hlt f)
    · have hkl' :k=L.length:=by omega
      go_wp2
      all_goals (go_ret3;exact⟨by rw[HD.out,hkl'];simp[Bk,DY],rfl⟩)
open Go.RowKit
theorem u5:Tryd.prog.underlying 5=some (.int .u8):=by kernel_rfl

theorem Pk(w:World)(ao:Option Addr)(n c:Nat)(a:Int)(ha:a<0∨(n:Int)<a):
    Calls Tryd.prog 63 #[.slice ao n c, .int .i64 a] w fun e w' =>e = .returned (.tuple #[.int .i64 0, .int .i64 0, .int .i64 1])∧w=w' :=by
  by_cases h0:a<0
  · have hd:decide (a<0)=true:=by simp[h0]
    clear ha
    go_enter Tryd.func63,Tryd.ntmps63
    go_wp2_with fail
    go_step3
    go_wp2_with fail
    rw[Exit.noGoto_ret]
    go_ret3
    exact⟨rfl,rfl⟩
  · have hd:decide (a<0)=false:=by simp[h0]
    have h1:(n:Int)<a:=by omega
    have hd2:decide ((n:Int)<a)=true:=by simp[h1]
    clear ha
    go_enter Tryd.func63,Tryd.ntmps63
    go_wp2_with fail
    go_step3
    go_wp2_with fail
    rw[Exit.noGoto_ret]
    go_ret3
    exact⟨rfl,rfl⟩

def B4(l:List UInt8)(a:Nat)(most:Int):Value:=
  match Bk 0 (l.drop a)with
  | none=> .tuple #[.string ⟨#[]⟩, .int .i64 0, .int .i64 6]
  | some x=>if most<x.1 then .tuple #[.string ⟨#[]⟩, .int .i64 0, .int .i64 2]
      else if l.length<a+x.2+x.1 then .tuple #[.string ⟨#[]⟩, .int .i64 0, .int .i64 6]
      else .tuple #[.string ⟨((l.drop (a+x.2)).take x.1).toArray⟩, .int .i64 ↑(a+x.2+x.1), .int .i64 0]

set_option maxRecDepth 100000 in
set_option maxHeartbeats 1000000 in
theorem EK(w:World)(v:Value)(l:List UInt8)(hr:RB w v l)(a:Nat)(ha:a≤l.length)(most:Int):
    Calls Tryd.prog 87 #[v, .int .i64 a, .int .i64 most] w fun e w' =>e = .returned (B4 l a most)∧w=w' :=by
  have HR:=Lib.hid hr
  obtain⟨ao,cap,rfl,h2,h3⟩:=hr.len
  clear hr
  have HG:=Lib.hid (DZ w _ l HR.out a ha)
  cases hL:Bk 0 (l.drop a)with
  | none=>
    have hR:B4 l a most = .tuple #[.string ⟨#[]⟩, .int .i64 0, .int .i64 6]:=by unfold B4;rw[hL]
    rw[hR]
    have HL:=Lib.hid hL
    clear hL hR
    go_enter Tryd.func87,Tryd.ntmps87
    go_wp2_with fail
    refine HG.out.mono ?_
    rintro e w1 ⟨rfl,rfl⟩
    rw[HL.out]
    unfold DY
    go_wp2_with fail
    go_ret3
    exact⟨rfl,rfl⟩
  | some x=>
    obtain⟨n,m⟩:=x
    have hp:=FX _ _ _ hL
    have hlt:=Gs _ _ _ hL
    rw[List.length_drop]at hp
    have hm9:m≤9:=by have:=hp.2.2;simp at this;exact this
    have b:n≤9223372036854775807:=by
      have h1:128^m≤128^9:=Nat.pow_le_pow_right (by decide) hm9
      simp only at hlt
      omega
    have hm1:1≤m:=hp.1
    have hml:a+m≤l.length:=by have:=hp.2.1;simp at this;omega
    have HL:=Lib.hid hL
    clear hL hlt hp
    by_cases hmost:most<n
    · have hR:B4 l a most = .tuple #[.string ⟨#[]⟩, .int .i64 0, .int .i64 2]:=by unfold B4;rw[HL.out];simp only[];rw[if_pos hmost]
      rw[hR]
      clear hR
      go_enter Tryd.func87,Tryd.ntmps87
      go_wp2_with fail
      refine HG.out.mono ?_
      rintro e w1 ⟨rfl,rfl⟩
      rw[HL.out]
      unfold DY
      go_wp2_with fail
      go_ret3
      exact⟨rfl,rfl⟩
    · by_cases hlen:l.length<a+m+n
      · have hR:B4 l a most = .tuple #[.string ⟨#[]⟩, .int .i64 0, .int .i64 6]:=by unfold B4;rw[HL.out];simp only[];rw[if_neg hmost,if_pos hlen]
        rw[hR]
        clear hR
        go_enter Tryd.func87,Tryd.ntmps87
        go_wp2_with fail
        refine HG.out.mono ?_
        rintro e w1 ⟨rfl,rfl⟩
        rw[HL.out]
        unfold DY
        go_wp2_with fail
        go_ret3
        exact⟨rfl,rfl⟩
      · have hR:B4 l a most = .tuple #[.string ⟨((l.drop (a+m)).take n).toArray⟩, .int .i64 ↑(a+m+n), .int .i64 0]:=by unfold B4;rw[HL.out];simp only[];rw[if_neg hmost,if_neg hlen]
        rw[hR]
        clear hR
        go_enter Tryd.func87,Tryd.ntmps87
        go_wp2_with fail
        refine HG.out.mono ?_
        rintro e w1 ⟨rfl,rfl⟩
        rw[HL.out]
        unfold DY
        have hlh:a+m≤a+m+n:=Nat.le_add_right _ _
        have hhl:a+m+n≤l.length:=by omega
        go_wp2_with (refine FG (o:=⟨some 38,_,_,_,_,_⟩) rfl _ _ (some _) (some _) rfl DT Ls _ l rfl HR.out (a+m) (a+m+n) hlh hhl (.inr ⟨.i64,rfl⟩) (.inr ⟨.i64,rfl⟩) ?_)
        intro ao' c' hr'
        have HR' :=Lib.hid hr'
        clear hr'
        go_wp2_with (refine Kp (o:=⟨some 39,_,_,_,_,_⟩) rfl _ _ _ rfl DT u5 Ny _ _ rfl HR'.out ?_)
        go_ret3
        exact⟨rfl,rfl⟩
open Go.RowKit
theorem Ow:Tryd.prog.underlying 38=some (.array 32 5):=by kernel_rfl
theorem L9:(Tryd.prog.info? 38).map (·.size)=some 32:=by kernel_rfl
theorem O3:(Tryd.prog.info? 5).map (·.size)=some 1:=by kernel_rfl

def zero32:List UInt8:=List.replicate 32 0
theorem Ek{l:List UInt8}(h:l.length=32):(Lib.byteCells l).toArray.size=32:=by simp[Lib.byteCells,h]
theorem AM{l:List UInt8}(h:l.length=32):(Tryd.prog.info? 38).map (·.size)=some (Lib.byteCells l).toArray.size:=by rw[Ek h];exact L9
theorem Lu:zero32.length=32:=List.length_replicate

theorem K0(ρ:Operand→Value)(d:Option Tmp)(ty:TypeId)(pos:String)(af:Array Edge)(w:World):(execOp ρ ⟨d, .alloc 38,ty,pos,af,none⟩).run Tryd.prog w = .ok (.value (.pointer (some ⟨w.heap.size,0,none⟩))) (w.alloc (.cells (Lib.byteCells zero32).toArray 38)):=by kernel_rfl

def DF(l:List UInt8)(a:Nat):Value:=
  if l.length-a<32 then .tuple #[.agg (Lib.byteCells zero32).toArray, .int .i64 0, .int .i64 6]
  else .tuple #[.agg (Lib.byteCells ((l.drop a).take 32)).toArray, .int .i64 ↑(a+32), .int .i64 0]

set_option maxRecDepth 100000 in
set_option maxHeartbeats 1000000 in
theorem Hk(w:World)(v:Value)(l:List UInt8)(hr:RB w v l)(a:Nat)(ha:a≤l.length):
    Calls Tryd.prog 75 #[v, .int .i64 a] w fun e w' =>e = .returned (DF l a)∧Ext w w' :=by
  have HR:=Lib.hid hr
  obtain⟨ao,cap,rfl,h2,h3⟩:=hr.len
  clear hr
  have hd:decide ((a:Int)<0)=false:=by simp
  have hd2:decide (l.length<a)=false:=by simp;omega
  by_cases hs:l.length-a<32
  · have hR:DF l a = .tuple #[.agg (Lib.byteCells zero32).toArray, .int .i64 0, .int .i64 6]:=by unfold DF;rw[if_pos hs]
    rw[hR]
    clear hR
    go_enter Tryd.func75,Tryd.ntmps75
    have HSI:=Lib.hid (AM Lu)
    go_wp2_with (first | (refine Gm (o:=⟨some 4, .alloc _,_,_,_,_⟩) rfl _ _ (K0 _ _ _ _ _ _) ?_) | (refine wpList_load_row (o:=⟨some 21,_,_,_,_,_⟩) rfl _ _ rfl w.heap.size rfl _ _ _ _ (heap_alloc_new w _) Ow rfl HSI.out ?_) | (refine EJ (o:=⟨none, .store _ _ _,_,_,_,_⟩) rfl _ _ _ rfl w.heap.size rfl (Lib.byteCells zero32).toArray 38 rfl (heap_alloc_new w _) HSI.out (AF zero32) ?_))
    refine bodyPost_ret (v:= .tuple #[.agg (Lib.byteCells zero32).toArray, .int .i64 0, .int .i64 6]) (Ge Tryd.results75 _ _ w.heap.size 38 (Lib.byteCells zero32).toArray (0,0) _ rfl (heap_alloc_new w _) Ow rfl HSI.out) rfl ⟨rfl,(Below.refl _ _).alloc (Nat.le_refl _) _⟩
  · have hR:DF l a = .tuple #[.agg (Lib.byteCells ((l.drop a).take 32)).toArray, .int .i64 ↑(a+32), .int .i64 0]:=by unfold DF;rw[if_neg hs]
    rw[hR]
    clear hR
    go_enter Tryd.func75,Tryd.ntmps75
    go_wp2_with (refine Gm (o:=⟨some 4, .alloc _,_,_,_,_⟩) rfl _ _ (K0 _ _ _ _ _ _) ?_)
    have hal:a+32≤l.length:=by omega
    obtain⟨w0,hw0⟩:∃w0,w0=w.alloc (.cells (Lib.byteCells zero32).toArray 38):=⟨_,rfl⟩
    have hbox:w0.heap[w.heap.size]? =some (.cells (Lib.byteCells zero32).toArray 38 (0,0)):=by rw[hw0];exact heap_alloc_new w _
    have hsz:w0.heap.size=w.heap.size+1:=by rw[hw0];simp
    have c:Below w.heap.size w w0:=by rw[hw0];exact(Below.refl _ _).alloc (Nat.le_refl _) _
    rw[←hw0]
    clear hw0
    have f:((l.drop a).take 32).length=32:=by rw[List.length_take,List.length_drop];omega
    have HL32:=Lib.hid f
    clear f hd hd2
    refine Ie [4] (fun n=>if n=4 then [3]else []) (fun w' =>Below w.heap.size w0 w' ∧∃cur:Array Value,cur.size=32∧w'.heap[w.heap.size]? =some (.cells cur 38 (0,0)))
      (fun w1 b=>w1.grownBy b (some w.heap.size)∧((∃cur:Array Value,cur.size=32∧w1.heap[w.heap.size]? =some (.cells cur 38 (0,0)))→∃cur:Array Value,cur.size=32∧b.heap[w.heap.size]? =some (.cells cur 38 (0,0))))
      [Is (.slice (some ⟨w.heap.size,0,none⟩) 32 32),Is (.slice ao l.length cap),Is (.int .i64 a),(fun x w' =>RB w' x (l.drop a)),(fun _ w' =>w'.heap[w.heap.size]? =some (.cells (Lib.byteCells ((l.drop a).take 32)).toArray 38 (0,0)))]
      (by kernel_rfl) _ _ (by kernel_rfl) (by kernel_rfl) [22,23,24,25,26] (by kernel_rfl)
      (fun w1 b h k=>⟨h.1.trans (k.mono (by have:=h.1.size;have:=hsz;omega)),by obtain⟨cur,h1,h2⟩:=h.2;exact⟨cur,h1,(k.block _ (Array.getElem?_eq_some_iff.1 h2).1).trans h2⟩⟩)
      (fun w1 b h k=>⟨h.1.grown k.1 (by have:=h.1.size;have:=hsz;omega) (fun _ e=>by cases e;exact Nat.le_refl _),k.2 h.2⟩) (fun w=>⟨World.grownBy.refl _ _,fun h=>h⟩) ⟨(Below.refl _ _).drew,_,Ek rfl,hbox⟩ ?hst ?hsk ?hs ?hQ
    case hst=>
      refine⟨Stab.is _,Stab.is _,Stab.is _,Stab.rb _,fun v w1 b h k=> ?_,trivial⟩
      have h' :w1.heap[w.heap.size]? =_:=h
      exact(k.block _ (Array.getElem?_eq_some_iff.1 h').1).trans h'
    case hsk=>
      intro n i hn hi hk hne hb
      simp at hn
      subst hn
      match i,hi,hk,hne,hb with
      | 0,_,_,_,_=>exact Stab.is _
      | 1,_,_,_,_=>exact Stab.is _
      | 2,_,_,_,_=>exact Stab.is _
      | 3,_,hk,_,_=>simp at hk
      | 4,_,_,hne,_=>simp at hne
    case hs=>
      refine⟨?_,?_,?_,?_,?_,trivial⟩
      · refine EW rfl fun ρ w1 hC h=> ?_
        have h4:ρ 4 = .pointer (some ⟨w.heap.size,0,none⟩):=h 4 (by decide)
        refine Yk.value (v:= .slice (some ⟨w.heap.size,0,none⟩) 32 32) (w' :=w1) ?_ ⟨Ext.refl _,rfl⟩
        clear h hC
        simp[execOp,Ad,h4,go_sem]
      · refine EW rfl fun ρ w1 hC h=> ?_
        have h0:ρ 0 = .slice ao l.length cap:=h 0 (by decide)
        exact⟨Ext.refl _,h0⟩
      · refine EW rfl fun ρ w1 hC h=> ?_
        have h0:ρ 1 = .int .i64 a:=h 1 (by decide)
        exact⟨Ext.refl _,h0⟩
      · refine EW rfl fun ρ w1 hC h=> ?_
        have h23:ρ 23 = .slice ao l.length cap:=h 23 (by decide)
        have h24:ρ 24 = .int .i64 a:=h 24 (by decide)
        have g:RB w1 (Ad ρ (.tmp 23)) l:=by show RB w1 (ρ 23) l;rw[h23];exact HR.out.keep (c.trans hC.1)
        refine Yk.reslice DT Ls g a l.length ha (Nat.le_refl _) (.inr ⟨.i64,by simp[Ad,h24]⟩) (.inl ⟨rfl,rfl⟩) ?_
        intro ao' c' hr'
        rw[List.take_of_length_le (by rw[List.length_drop];exact Nat.le_refl _)]at hr'
        exact⟨Ext.refl _,hr'⟩
      · refine EW rfl fun ρ w1 hC h=> ?_
        have h22:ρ 22 = .slice (some ⟨w.heap.size,0,none⟩) 32 32:=h 22 (by decide)
        have h25:RB w1 (ρ 25) (l.drop a):=h 25 (by decide)
        obtain⟨hC1,cur,hcs,hcb⟩:=hC
        have hm:Nat.min (l.drop a).length 32=32:=Nat.min_eq_right (by rw[List.length_drop];exact Nat.le_sub_of_add_le (by rw[Nat.add_comm];exact hal))
        have hfit:0+Nat.min (l.drop a).length 32≤cur.size:=by rw[hm,hcs];exact Nat.le_refl _
        refine Yk.copyB (.tmp 22) (.tmp 25) (o:=0) DT O3 h22 h25 hcb hfit ?_
        have e:(cur.toList.take 0++Lib.byteCells ((l.drop a).take 32)++cur.toList.drop (0+Nat.min (l.drop a).length 32)).toArray=(Lib.byteCells ((l.drop a).take 32)).toArray:=by
          have hd0:cur.toList.drop (0+32)= []:=List.drop_of_length_le (Nat.le_of_eq (by rw[Array.length_toList,hcs]))
          rw[hm,hd0]
          simp
        rw[e]
        have hw:=setRow_heap w1 w.heap.size cur (Lib.byteCells ((l.drop a).take 32)).toArray 38 (0,0) hcb
        exact⟨⟨⟨rfl,rfl,rfl,by simp,fun k _ hk=>setRow_other w1 w.heap.size k _ (fun e=>hk (by rw[e]))⟩,fun _=>⟨_,Ek HL32.out,hw⟩⟩,hw⟩
    case hQ=>
      intro u w1 hC hE
      obtain⟨-,-,-,-,h26,-⟩:=hE
      have hblk:w1.heap[w.heap.size]? =some (.cells (Lib.byteCells ((l.drop a).take 32)).toArray 38 (0,0)):=h26
      clear h26
      simp only[C2,List.foldl_cons,List.foldl_nil,List.setIfInBounds_toArray,List.set_cons_zero,List.set_cons_succ]
      have hsi:(Tryd.prog.info? 38).map (·.size)=some (Lib.byteCells ((l.drop a).take 32)).toArray.size:=by rw[Ek HL32.out];exact L9
      have HB:=Lib.hid hblk
      clear hblk
      have HSI:=Lib.hid hsi
      clear hsi
      go_wp2_with (first | (refine wpList_load_row (o:=⟨some 27,_,_,_,_,_⟩) rfl _ _ rfl w.heap.size rfl _ _ _ _ HB.out Ow rfl HSI.out ?_) | (refine EJ (o:=⟨none, .store _ _ _,_,_,_,_⟩) rfl _ _ _ rfl w.heap.size rfl (Lib.byteCells ((l.drop a).take 32)).toArray 38 rfl HB.out HSI.out (AF _) ?_))
      refine bodyPost_ret (v:= .tuple #[.agg (Lib.byteCells ((l.drop a).take 32)).toArray, .int .i64 ↑(a+32), .int .i64 0]) ?_ rfl ⟨rfl,c.trans hC.1⟩
      exact Ge Tryd.results75 _ _ w.heap.size 38 _ (0,0) _ rfl HB.out Ow rfl HSI.out
open Go.RowKit
set_option maxHeartbeats 400000 in
theorem Ku(w:World)(v:Value)(l:List UInt8)(hr:RB w v l)(s:ByteArray)(hl:l.length+s.size+16≤140737488355328):
    Calls Tryd.prog 24 #[v, .string s] w fun e w' =>∃v',e = .returned v' ∧NewB 5 w w' v' (l++Lib.uvarint s.size++s.data.toList):=by
  obtain⟨i0,hi,a,b,c⟩:=info_parts FW
  have h9:=A1 s.size (by omega)
  have hss:s.data.toList.length=s.size:=by simp
  have HSS:=Lib.hid hss
  clear hss
  go_enter Tryd.func24,Tryd.ntmps24
  go_wp2_with fail
  refine(KY _ _ l hr (by omega)).mono ?_
  rintro e w1 ⟨f,rfl,h1⟩
  go_wp2_with fail
  refine(HF w.heap.size l.length s.size (by omega) f _ w1 h1.own h1.by_.size (by omega)).mono ?_
  rintro e h ⟨i,rfl,ho,g⟩
  have h2:=h1.more g ho
  go_wp2_with (at_builtin;refine BM _ rfl _ _ 24 9 rfl w.heap.size 5 i0 (.int .u8 0) 1 1 DT hi a b c rfl _ _ _ rfl h2.own (.string s) _ _ rfl (Iv Ny _ s) ?c1 ?c2 ?c3 ?_)
  case c1=>have:=HSS.out;rw[this,List.length_append];unfold maxLen;omega
  case c2=>have:=HSS.out;rw[this,List.length_append];omega
  case c3=>exact h2.by_.size
  intro v' j hown' hgrow
  go_wp2
  go_ret
  exact⟨v',rfl,h2.more hgrow (by rw[HSS.out,List.length_append];exact hown')⟩

set_option maxHeartbeats 400000 in
theorem Kv(w:World)(s:ByteArray)(hl:s.size+16≤140737488355328):
    Calls Tryd.prog 33 #[.string s] w fun e w' =>∃v',e = .returned v' ∧NewB 5 w w' v' (Lib.uvarint s.size++s.data.toList):=by
  obtain⟨i0,hi,a,b,c⟩:=info_parts FW
  have h9:=A1 s.size (by omega)
  have hss:s.data.toList.length=s.size:=by simp
  have HSS:=Lib.hid hss
  clear hss
  go_enter Tryd.func33,Tryd.ntmps33
  go_wp2_with fail
  refine(CG _ s.size (by omega)).mono ?_
  rintro e w1 ⟨f,rfl,h2⟩
  go_wp2_with (at_builtin;refine BM _ rfl _ _ 24 9 rfl w.heap.size 5 i0 (.int .u8 0) 1 1 DT hi a b c rfl _ _ _ rfl h2.own (.string s) _ _ rfl (Iv Ny _ s) ?c1 ?c2 ?c3 ?_)
  case c1=>have:=HSS.out;rw[this];unfold maxLen;omega
  case c2=>have:=HSS.out;rw[this];omega
  case c3=>exact h2.by_.size
  intro v' g hown' hgrow
  go_wp2
  go_ret
  exact⟨v',rfl,h2.more hgrow (by rw[HSS.out];exact hown')⟩
open Go.RowKit
variable {P : Program}
def cellsU(l:List UInt32):Array Value:=(l.map fun x=>U x).toArray
theorem Fw(l:List UInt32):(cellsU l).size=l.length:=by simp[cellsU]
theorem Do(l:List UInt32):∀v∈(cellsU l).toList,v.oneCell' =true:=by
  intro v hv
  simp[cellsU]at hv
  obtain⟨x,-,rfl⟩:=hv
  rfl
namespace Sha
def rotr(x:UInt32)(n:Nat):UInt32:=x<<<UInt32.ofNat (32-n)|||x>>>UInt32.ofNat n
def be4(b:List UInt8)(t:Nat):UInt32:=
  (b.getD (4*t) 0).toUInt32<<<24|||(b.getD (4*t+1) 0).toUInt32<<<16|||(b.getD (4*t+2) 0).toUInt32<<<8|||(b.getD (4*t+3) 0).toUInt32
def low(x:UInt32):UInt32:=rotr x 7^^^rotr x 18^^^x>>>3
def high(y:UInt32):UInt32:=rotr y 17^^^rotr y 19^^^y>>>10
def nextW(b:List UInt8)(l:List UInt32)(t:Nat):UInt32:=
  if t<16 then be4 b t else high (l.getD (t-2) 0)+l.getD (t-7) 0+low (l.getD (t-15) 0)+l.getD (t-16) 0
def sched(b:List UInt8):Nat→List UInt32
  | 0=> []
  | t+1=>sched b t++ [nextW b (sched b t) t]
theorem sched_length(b:List UInt8):∀t,(sched b t).length=t
  | 0=>rfl
  | t+1=>by simp[sched,sched_length b t]
def first:List UInt32:= [0x6a09e667,0xbb67ae85,0x3c6ef372,0xa54ff53a,0x510e527f,0x9b05688c,0x1f83d9ab,0x5be0cd19]
def words:List UInt32:= [0x428a2f98,0x71374491,0xb5c0fbcf,0xe9b5dba5,0x3956c25b,0x59f111f1,0x923f82a4,0xab1c5ed5,0xd807aa98,0x12835b01,0x243185be,0x550c7dc3,0x72be5d74,0x80deb1fe,0x9bdc06a7,0xc19bf174,0xe49b69c1,0xefbe4786,0x0fc19dc6,0x240ca1cc,0x2de92c6f,0x4a7484aa,0x5cb0a9dc,0x76f988da,0x983e5152,0xa831c66d,0xb00327c8,0xbf597fc7,0xc6e00bf3,0xd5a79147,0x06ca6351,0x14292967,0x27b70a85,0x2e1b2138,0x4d2c6dfc,0x53380d13,0x650a7354,0x766a0abb,0x81c2c92e,0x92722c85,0xa2bfe8a1,0xa81a664b,0xc24b8b70,0xc76c51a3,0xd192e819,0xd6990624,0xf40e3585,0x106aa070,0x19a4c116,0x1e376c08,0x2748774c,0x34b0bcb5,0x391c0cb3,0x4ed8aa4a,0x5b9cca4f,0x682e6ff3,0x748f82ee,0x78a5636f,0x84c87814,0x8cc70208,0x90befffa,0xa4506ceb,0xbef9a3f7,0xc67178f2]
def up(v:List UInt32)(k w:UInt32):UInt32:=
  v.getD 7 0+(rotr (v.getD 4 0) 6^^^rotr (v.getD 4 0) 11^^^rotr (v.getD 4 0) 25)+(v.getD 4 0&&&v.getD 5 0 ^^^ ~~~(v.getD 4 0)&&&v.getD 6 0)+k+w
def two(v:List UInt32):UInt32:=rotr (v.getD 0 0) 2^^^rotr (v.getD 0 0) 13^^^rotr (v.getD 0 0) 22
def most(v:List UInt32):UInt32:=v.getD 0 0&&&v.getD 1 0^^^v.getD 0 0&&&v.getD 2 0^^^v.getD 1 0&&&v.getD 2 0
def round(v:List UInt32)(k w:UInt32):List UInt32:=
  [up v k w+two v+most v,v.getD 0 0,v.getD 1 0,v.getD 2 0,v.getD 3 0+up v k w,v.getD 4 0,v.getD 5 0,v.getD 6 0]
def turned(s ws:List UInt32):Nat→List UInt32
  | 0=>s
  | t+1=>round (turned s ws t) (words.getD t 0) (ws.getD t 0)
theorem turned_length(s ws:List UInt32)(hs:s.length=8):∀t,(turned s ws t).length=8
  | 0=>hs
  | _+1=>rfl
def added(v s:List UInt32):List UInt32:=List.zipWith (· + ·) v s
def rounds(s:List UInt32)(b:List UInt8):List UInt32:=added (turned s (sched b 64) 64) s
theorem rounds_length(s:List UInt32)(b:List UInt8)(hs:s.length=8):(rounds s b).length=8:=by
  simp[rounds,added,turned_length _ _ hs,hs]
def blocks(s:List UInt32)(b:List UInt8):Nat→List UInt32
  | 0=>s
  | n+1=>blocks (rounds s (b.take 64)) (b.drop 64) n
theorem blocks_length(n:Nat):∀(s:List UInt32) (b:List UInt8),s.length=8→(blocks s b n).length=8:=by
  induction n with
  | zero=>exact fun s b h=>h
  | succ n ih=>exact fun s b h=>ih _ _ (rounds_length _ _ h)
def be64(n:Nat):List UInt8:=(List.range 8).map fun i=>UInt8.ofNat (n/2^(56-8*i))
def tail(n:Nat):List UInt8:=128 :: (List.replicate ((119-n%64)%64) 0++be64 (8*n))
def out(s:List UInt32):List UInt8:=s.flatMap fun(w:UInt32)=> [(w>>>24).toUInt8,(w>>>16).toUInt8,(w>>>8).toUInt8,w.toUInt8]
def sum(b:List UInt8):List UInt8:=out (blocks first (b++tail b.length) ((b++tail b.length).length/64))
end Sha
end Go.Proofs.YtcegdjpdnlaleaaDoor
