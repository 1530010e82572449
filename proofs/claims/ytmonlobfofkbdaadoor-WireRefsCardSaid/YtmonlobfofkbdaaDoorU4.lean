/- Part 4 of what stands behind these statements: laws and walks of the functions that are reached. Conditions: those that each theorem names. -/
import Derived.Test.YtmonlobfofkbdaaDoorU3
set_option linter.unusedVariables false
set_option linter.unusedSimpArgs false
namespace Go.Proofs.YtmonlobfofkbdaaDoor
open Go.RowKit
set_option maxRecDepth 100000
theorem Pd(r:Nat):((decide (0≤r)&&decide (r<55296))||(decide (57343<r)&&decide (r≤1114111)))=C6 r:=by
 unfold C6
 rw[Bool.eq_iff_iff]
 simp only[Bool.or_eq_true,Bool.and_eq_true,decide_eq_true_eq]
 omega
theorem PN{a b:Bool}(h:(a&&b)=false):a=false∨b=false:=by cases a <;> simp_all
abbrev runeC(r:Nat):List Value:= [.int .i32 (r:Int)]
theorem Of(r:Nat):∀v∈runeC r,v.oneCell' =true:=by intro v hv;simp only[List.mem_singleton]at hv;subst hv;rfl
theorem wr25_l1_26(z:Int)(w:World):(Instr.buildSlice 26 1 #[(0, .int .u8 z)]).run Tryd.prog w = .ok (.slice (some ⟨w.heap.size,0,none⟩) 1 1) (w.alloc (.cells #[.int .u8 z] 5)):=by kernel_rfl
theorem LS(z0 z1:Int)(w:World):(Instr.buildSlice 26 2 #[(0, .int .u8 z0),(1, .int .u8 z1)]).run Tryd.prog w = .ok (.slice (some ⟨w.heap.size,0,none⟩) 2 2) (w.alloc (.cells #[.int .u8 z0, .int .u8 z1] 5)):=by kernel_rfl
theorem LT(z0 z1 z2:Int)(w:World):(Instr.buildSlice 26 3 #[(0, .int .u8 z0),(1, .int .u8 z1),(2, .int .u8 z2)]).run Tryd.prog w = .ok (.slice (some ⟨w.heap.size,0,none⟩) 3 3) (w.alloc (.cells #[.int .u8 z0, .int .u8 z1, .int .u8 z2] 5)):=by kernel_rfl
theorem LU(z0 z1 z2 z3:Int)(w:World):(Instr.buildSlice 26 4 #[(0, .int .u8 z0),(1, .int .u8 z1),(2, .int .u8 z2),(3, .int .u8 z3)]).run Tryd.prog w = .ok (.slice (some ⟨w.heap.size,0,none⟩) 4 4) (w.alloc (.cells #[.int .u8 z0, .int .u8 z1, .int .u8 z2, .int .u8 z3] 5)):=by kernel_rfl
theorem LV:AG Tryd.prog 177:=fun _ _=>by kernel_rfl
theorem LW:AG Tryd.prog 178:=fun _ _=>by kernel_rfl
theorem LX:AG Tryd.prog 165:=fun _ _=>by kernel_rfl
theorem LY(z:Int)(w:World):(Instr.buildSlice 189 1 #[(0, .int .i32 z)]).run Tryd.prog w = .ok (.slice (some ⟨w.heap.size,0,none⟩) 1 1) (w.alloc (.cells #[.int .i32 z] 21)):=by kernel_rfl
theorem wr25_ig21:∃z,(Tryd.prog.info? 21).map (fun i=>(i.zero,i.size,i.bytes))=some (some z,1,4)∧z.cells.size=1:=Fu (by kernel_rfl)
theorem H4:Tryd.prog.underlying 189=some (.slice 21):=by kernel_rfl
theorem H5:AG Tryd.prog 150:=fun _ _=>by kernel_rfl
theorem LZ:AG Tryd.prog 125:=fun _ _=>by kernel_rfl
set_option maxHeartbeats 1600000
theorem L0(w:World)(r:Nat):
  Calls Tryd.prog 177 #[.int .i32 (r:Int)] w fun e w' =>e = .returned (.bool (C6 r))∧Ext w w' :=by
 refine calls_of_wpF (args:= [.int .i32 ((r:Nat):Int)]) Tryd.func177 rfl 17 rfl (Nat.le_of_ble_eq_true rfl) ?_
 intro f hb
 have c:f 0=(.int .i32 ((r:Nat):Int):Value):=hb.get 0
 clear hb
 have hE:=Ext.refl w
 refine sk fun i g=>(wt (oA rfl (oZ (tN (g _ _ (sk fun j h=>(wt (oM rfl (oS rfl (Yk.eqI (a:=(r:Nat)) (b:=(0:Nat)) c rfl (Dr _ _ _ _) (oM rfl (Ab (.int .i32 ((r:Nat):Int)) rfl rfl (gT (vr (.bool (decide ((0)≤(r)))) rfl)) (fun hG3=>Yk.move c ⟨rfl,rfl⟩) (Ab (.bool (decide ((r)<(55296)))) rfl rfl (gT (vr (.bool (decide ((0)≤(r)))) rfl)) (fun hG4=>Yk.eqI (a:=((r:Nat):Int)) (b:=((55296:Nat):Int)) (mayT (vr (cond ((decide ((0)≤(r)))) (.int .i32 ((r:Nat):Int)) undef) rfl) hG4) (vr (.int .i32 ((55296:Nat):Int)) rfl) (AZ _ .i32 (r) (55296)) ⟨rfl,rfl⟩) (oS rfl (Yk.pickAndN (vr (.bool (decide ((0)≤(r)))) rfl) (fun hA=>(mayT (vr (cond ((decide ((0)≤(r)))) (.bool (decide ((r)<(55296)))) undef) rfl) hA)) (vr (.bool (false)) rfl) fun bb5 hbb6=>(oM rfl (Ab (.int .i32 ((r:Nat):Int)) rfl rfl (gF (vr (.bool (bb5)) rfl)) (fun hG7=>Yk.move c ⟨rfl,rfl⟩) (Ab (.bool (decide ((57343)<(r)))) rfl rfl (gF (vr (.bool (bb5)) rfl)) (fun hG8=>Yk.eqI (a:=((r:Nat):Int)) (b:=((57343:Nat):Int)) (mayT (vr (cond (!bb5) (.int .i32 ((r:Nat):Int)) undef) rfl) hG8) (vr (.int .i32 ((57343:Nat):Int)) rfl) (Ce _ .i32 (r) (57343)) ⟨rfl,rfl⟩) ?_))))))))))))))))))
 refine Ab (.bool (decide ((57343)<(r)))) rfl rfl (gF (vr (.bool (bb5)) rfl)) (fun hG9=>Yk.move (mayT (vr (cond (!bb5) (.bool (decide ((57343)<(r)))) undef) rfl) hG9) ⟨rfl,rfl⟩) (Ab (.int .i32 ((r:Nat):Int)) rfl rfl (geT (vr (cond (!bb5) (.bool (decide ((57343)<(r)))) undef) rfl)) (fun hG10=>Yk.move c ⟨rfl,rfl⟩) (Ab (.bool (decide ((r)≤(1114111)))) rfl rfl (geT (vr (cond (!bb5) (.bool (decide ((57343)<(r)))) undef) rfl)) (fun hG11=>Yk.eqI (a:=((r:Nat):Int)) (b:=((1114111:Nat):Int)) (mayT (vr (cond ((!bb5)&&(decide ((57343)<(r)))) (.int .i32 ((r:Nat):Int)) undef) rfl) hG11) (vr (.int .i32 ((1114111:Nat):Int)) rfl) (Cl _ .i32 (r) (1114111)) ⟨rfl,rfl⟩) (A7 ((decide ((57343)<(r)))&&(decide ((r)≤(1114111)))) rfl rfl (gF (vr (.bool (bb5)) rfl)) (fun hG12=>Yk.pickAnd (mayT (vr (cond (!bb5) (.bool (decide ((57343)<(r)))) undef) rfl) hG12) (fun hA=>(mayT (vr (cond ((!bb5)&&(decide ((57343)<(r)))) (.bool (decide ((r)≤(1114111)))) undef) rfl) (BF hG12 hA))) (vr (.bool (false)) rfl) ⟨rfl,rfl⟩) fun bb13 hbb14=>(oS rfl (Yk.pickOrN (vr (.bool (bb5)) rfl) (vr (.bool (true)) rfl) (fun hA=>(mayT (vr (cond (!bb5) (.bool (bb13)) undef) rfl) (not_i hA))) fun bb15 hbb16=>(oA rfl (oZ (tN (h _ _ (Ap (Ao (fn:=Tryd.f177) _ rfl [.bool (bb15)] (.bool (bb15)) rfl ⟨rfl,trivial⟩ ?_)))))))))))
 subst hbb6 hbb14 hbb16
 exact⟨by rw[←Pd],hE⟩

theorem JW(w:World)(r:Nat)(hr:r≤1114111):
  Calls Tryd.prog 178 #[.int .i32 (r:Int)] w fun e w' =>∃v,e = .returned v∧RB w' v (bytesR r)∧Ext w w' :=by
 refine calls_of_wpF (args:= [.int .i32 ((r:Nat):Int)]) Tryd.func178 rfl 57 rfl (Nat.le_of_ble_eq_true rfl) ?_
 intro p hb
 have q:p 0=(.int .i32 ((r:Nat):Int):Value):=hb.get 0
 clear hb
 have hE:=Ext.refl w
 refine sk fun K1 s=>(wt (oA rfl (oZ (tN (s _ _ (sk fun K2 t=>(wt (oM rfl (oS rfl (Yk.convI D5 Fs q (B4 (r) (by omega)) (oA rfl (oZ (tN (t _ _ (sk fun K3 u=>(sk fun K4 x=>(wt (oM rfl ?_))))))))))))))))))
 refine oS rfl (Yk.eqI (a:=(r:Nat)) (b:=(128:Nat)) rfl rfl (AZ _ _ _ _) (oZ (tN (x _ _ ?_))))
 refine A2 ((r)<(128)) (vr (.bool (decide ((r)<(128)))) rfl) (fun c=> ?_) (fun c=> ?_)
 ·refine sk fun K5 y=>(wt (oM rfl (oS rfl (Yk.convI Fs u5 (vr (NI r) rfl) (Do (r)) (oS rfl (Yk.lit1 (b:=UInt8.ofNat (r)) wr25_l1_26 (vr (B8 (UInt8.ofNat (r))) rfl) fun l w7 g=> ?_))))))
  have hE:=hE.trans g.ext
  have z:=g.own;clear g
  refine oA rfl (oZ (tN (y _ _ (Ap (As (Ao (fn:=Tryd.f178) _ rfl [l] (l) rfl ⟨rfl,trivial⟩ ?_))))))
  exact⟨_,rfl,RB.ofOwn (DG z (by unfold bytesR;rw[if_pos c])),hE⟩
 refine Ak (tN (u _ _ (sk fun aq aa=>(sk fun ar ab=>(wt (oM rfl (oS rfl (Yk.eqI (a:=(r:Nat)) (b:=(2048:Nat)) rfl rfl (AZ _ _ _ _) (oZ (tN (ab _ _ ?_)))))))))))
 refine A2 ((r)<(2048)) (vr (.bool (decide ((r)<(2048)))) rfl) (fun f=> ?_) (fun f=> ?_)
 ·refine sk fun au ac=>(wt (oM rfl (oS rfl (Yk.bin (xv:=NI r) (yv:=NI 64) rfl rfl rfl (Et _ _ _ (by omega) (by omega)) (oS rfl (Yk.bin (xv:=NI 192) (yv:=NI ((r)/(64))) rfl rfl rfl (AN _ _ _ (by omega)) (oS rfl (Yk.convI Fs u5 (vr (NI ((192)+((r)/(64)))) rfl) (Do ((192)+((r)/(64)))) (oM rfl (oS rfl (Yk.bin (xv:=NI r) (yv:=NI 64) rfl rfl rfl (Eu _ _ _ (by omega)) (oS rfl (Yk.bin (xv:=NI 128) (yv:=NI ((r)%(64))) rfl rfl rfl (AN _ _ _ (by omega)) (oS rfl (Yk.convI Fs u5 (vr (NI ((128)+((r)%(64)))) rfl) (Do ((128)+((r)%(64)))) (oS rfl (Yk.lit2 (b0:=UInt8.ofNat ((192)+((r)/(64)))) (b1:=UInt8.ofNat ((128)+((r)%(64)))) LS (vr (B8 (UInt8.ofNat ((192)+((r)/(64))))) rfl) (vr (B8 (UInt8.ofNat ((128)+((r)%(64))))) rfl) fun m av h=> ?_)))))))))))))))))
  have hE:=hE.trans h.ext
  have ad:=h.own;clear h
  refine oA rfl (oZ (tN (ac _ _ (Ap (As (Ao (fn:=Tryd.f178) _ rfl [m] (m) rfl ⟨rfl,trivial⟩ ?_))))))
  exact⟨_,rfl,RB.ofOwn (DG ad (by unfold bytesR;rw[if_neg c,if_pos f])),hE⟩
 refine Ak (tN (aa _ _ (sk fun aw ae=>(sk fun ax af=>(wt (oM rfl (oS rfl (Yk.eqI (a:=(r:Nat)) (b:=(65536:Nat)) rfl rfl (AZ _ _ _ _) (oZ (tN (af _ _ ?_)))))))))))
 refine A2 ((r)<(65536)) (vr (.bool (decide ((r)<(65536)))) rfl) (fun i=> ?_) (fun i=> ?_)
 ·refine sk fun ay ag=>(wt (oM rfl (oS rfl (Yk.bin (xv:=NI r) (yv:=NI 4096) rfl rfl rfl (Et _ _ _ (by omega) (by omega)) (oS rfl (Yk.bin (xv:=NI 224) (yv:=NI ((r)/(4096))) rfl rfl rfl (AN _ _ _ (by omega)) (oS rfl (Yk.convI Fs u5 (vr (NI ((224)+((r)/(4096)))) rfl) (Do ((224)+((r)/(4096)))) (oM rfl (oS rfl (Yk.bin (xv:=NI r) (yv:=NI 64) rfl rfl rfl (Et _ _ _ (by omega) (by omega)) (oS rfl (Yk.bin (xv:=NI ((r)/(64))) (yv:=NI 64) rfl rfl rfl (Eu _ _ _ (by omega)) (oS rfl (Yk.bin (xv:=NI 128) (yv:=NI (((r)/(64))%(64))) rfl rfl rfl (AN _ _ _ (by omega)) (oS rfl (Yk.convI Fs u5 (vr (NI ((128)+(((r)/(64))%(64)))) rfl) (Do ((128)+(((r)/(64))%(64)))) (oM rfl (oS rfl (Yk.bin (xv:=NI r) (yv:=NI 64) rfl rfl rfl (Eu _ _ _ (by omega)) (oS rfl (Yk.bin (xv:=NI 128) (yv:=NI ((r)%(64))) rfl rfl rfl (AN _ _ _ (by omega)) (oS rfl (Yk.convI Fs u5 (vr (NI ((128)+((r)%(64)))) rfl) (Do ((128)+((r)%(64)))) (oS rfl (Yk.lit3 (b0:=UInt8.ofNat ((224)+((r)/(4096)))) (b1:=UInt8.ofNat ((128)+(((r)/(64))%(64)))) (b2:=UInt8.ofNat ((128)+((r)%(64)))) LT (vr (B8 (UInt8.ofNat ((224)+((r)/(4096))))) rfl) (vr (B8 (UInt8.ofNat ((128)+(((r)/(64))%(64))))) rfl) (vr (B8 (UInt8.ofNat ((128)+((r)%(64))))) rfl) fun n az j=> ?_))))))))))))))))))))))))))
  have hE:=hE.trans j.ext
  have ah:=j.own;clear j
  refine oA rfl (oZ (tN (ag _ _ (Ap (As (Ao (fn:=Tryd.f178) _ rfl [n] (n) rfl ⟨rfl,trivial⟩ ?_))))))
  exact⟨_,rfl,RB.ofOwn (DG ah (by unfold bytesR;rw[if_neg c,if_neg f,if_pos i])),hE⟩
 refine Ak (tN (ae _ _ (sk fun a0 ai=>(wt (oM rfl (oS rfl (Yk.bin (xv:=NI r) (yv:=NI 262144) rfl rfl rfl (Et _ _ _ (by omega) (by omega)) (oS rfl (Yk.bin (xv:=NI 240) (yv:=NI ((r)/(262144))) rfl rfl rfl (AN _ _ _ (by omega)) (oS rfl (Yk.convI Fs u5 (vr (NI ((240)+((r)/(262144)))) rfl) (Do ((240)+((r)/(262144)))) (oM rfl (oS rfl (Yk.bin (xv:=NI r) (yv:=NI 4096) rfl rfl rfl (Et _ _ _ (by omega) (by omega)) (oS rfl (Yk.bin (xv:=NI ((r)/(4096))) (yv:=NI 64) rfl rfl rfl (Eu _ _ _ (by omega)) (oS rfl (Yk.bin (xv:=NI 128) (yv:=NI (((r)/(4096))%(64))) rfl rfl rfl (AN _ _ _ (by omega)) (oS rfl (Yk.convI Fs u5 (vr (NI ((128)+(((r)/(4096))%(64)))) rfl) (Do ((128)+(((r)/(4096))%(64)))) (oM rfl (oS rfl (Yk.bin (xv:=NI r) (yv:=NI 64) rfl rfl rfl (Et _ _ _ (by omega) (by omega)) (oS rfl (Yk.bin (xv:=NI ((r)/(64))) (yv:=NI 64) rfl rfl rfl (Eu _ _ _ (by omega)) ?_)))))))))))))))))))))))))
 refine oS rfl (Yk.bin (xv:=NI 128) (yv:=NI (((r)/(64))%(64))) rfl rfl rfl (AN _ _ _ (by omega)) (oS rfl (Yk.convI Fs u5 (vr (NI ((128)+(((r)/(64))%(64)))) rfl) (Do ((128)+(((r)/(64))%(64)))) (oM rfl (oS rfl (Yk.bin (xv:=NI r) (yv:=NI 64) rfl rfl rfl (Eu _ _ _ (by omega)) (oS rfl (Yk.bin (xv:=NI 128) (yv:=NI ((r)%(64))) rfl rfl rfl (AN _ _ _ (by omega)) (oS rfl (Yk.convI Fs u5 (vr (NI ((128)+((r)%(64)))) rfl) (Do ((128)+((r)%(64)))) (oS rfl (Yk.lit4 (b0:=UInt8.ofNat ((240)+((r)/(262144)))) (b1:=UInt8.ofNat ((128)+(((r)/(4096))%(64)))) (b2:=UInt8.ofNat ((128)+(((r)/(64))%(64)))) (b3:=UInt8.ofNat ((128)+((r)%(64)))) LU (vr (B8 (UInt8.ofNat ((240)+((r)/(262144))))) rfl) (vr (B8 (UInt8.ofNat ((128)+(((r)/(4096))%(64))))) rfl) (vr (B8 (UInt8.ofNat ((128)+(((r)/(64))%(64))))) rfl) (vr (B8 (UInt8.ofNat ((128)+((r)%(64))))) rfl) fun o a1 k=> ?_))))))))))))
 have hE:=hE.trans k.ext
 have aj:=k.own;clear k
 refine oA rfl (oZ (tN (ai _ _ (Ap (Ao (fn:=Tryd.f178) _ rfl [o] (o) rfl ⟨rfl,trivial⟩ ?_)))))
 exact⟨_,rfl,RB.ofOwn (DG aj (by unfold bytesR;rw[if_neg c,if_neg f,if_neg i])),hE⟩

theorem L1(w:World)(l:Bs)(a:Nat)(ha:a<l.length)(hl:l.length≤4611686018427387904):
  Calls Tryd.prog 165 #[St l,NI a] w fun e w' =>(∃r n,e = .returned (.tuple #[.int .i32 ((r:Nat):Int),NI n])∧(CQ l a=if n=0 then none else some (a+n))∧a+n≤l.length)∧Ext w w' :=by
 refine calls_of_wpF (args:= [St (l),NI a]) Tryd.func165 rfl 122 rfl (Nat.le_of_ble_eq_true rfl) ?_
 intro aa hb
 have g:aa 0=(St (l):Value):=hb.get 0
 have f:aa 1=(NI a:Value):=hb.get 1
 clear hb
 have hE:=Ext.refl w
 refine sk fun K1 ag=>(wt (oA rfl (oA rfl (oZ (tN (ag _ _ (sk fun K2 ah=>(sk fun K3 ai=>(wt (oA rfl (Be [(0,St (l)),(1,NI a),(4, .int .i32 ((0:Nat):Int)),(5,NI 0),(6,NI 1)] ⟨g,f,rfl,rfl,rfl,trivial⟩ fun du ⟨g,f,T4,T5,c,_⟩=>(tN (ai _ _ (Ax (Bc (fun(ρ:At) (wz:World)=>∃n:Nat,ρ 0=(St (l):Value)∧ρ 1=(NI a:Value)∧ρ 6=(NI n:Value)∧Ext w wz∧(1≤n)∧(n≤5)∧(∀m,1≤m→m<n→a+m≤l.length→¬Ee l a m)∧True) (fun ρ _=>6-(intOf (ρ 6)).toNat) ⟨1,g,f,c,hE,Nat.le_refl _,by omega,fun m h1 h2=>by omega,trivial⟩ ?_)))))))))))))))
 clear hE
 rintro q w6 ⟨n,g,f,c,hE,aj,dy,hno,-⟩
 have q6:=c
 refine sk fun K7 ak=>(sk fun K8 al=>(wt (oM rfl (oS rfl (Yk.eqI (a:=(n:Nat)) (b:=(4:Nat)) c rfl (Cl _ _ _ _) (oM rfl (Ab (NI n) rfl rfl (gT (vr (.bool (decide ((n)≤(4)))) rfl)) (fun hG9=>Yk.move c ⟨rfl,rfl⟩) (Ab (St (l)) rfl rfl (gT (vr (.bool (decide ((n)≤(4)))) rfl)) (fun hG10=>Yk.move g ⟨rfl,rfl⟩) (Ab (NI l.length) rfl rfl (gT (vr (.bool (decide ((n)≤(4)))) rfl)) (fun hG11=>Yk.lenSt (l:=l) Dx (mayT (vr (cond ((decide ((n)≤(4)))) (St (l)) undef) rfl) hG11) ⟨rfl,rfl⟩) (Ab (NI a) rfl rfl (gT (vr (.bool (decide ((n)≤(4)))) rfl)) (fun hG12=>Yk.move f ⟨rfl,rfl⟩) (Ab (NI ((l.length)-(a))) rfl rfl (gT (vr (.bool (decide ((n)≤(4)))) rfl)) (fun hG13=>Yk.bin (xv:=NI l.length) (yv:=NI a) (mayT (vr (cond ((decide ((n)≤(4)))) (NI l.length) undef) rfl) hG13) (mayT (vr (cond ((decide ((n)≤(4)))) (NI a) undef) rfl) hG13) rfl (CM _ (l.length) (a) (by omega) (by omega)) ⟨rfl,rfl⟩) (Ab (.bool (decide ((n)≤((l.length)-(a))))) rfl rfl (gT (vr (.bool (decide ((n)≤(4)))) rfl)) (fun hG14=>Yk.eqI (a:=((n:Nat):Int)) (b:=(((l.length)-(a):Nat):Int)) (mayT (vr (cond ((decide ((n)≤(4)))) (NI n) undef) rfl) hG14) (mayT (vr (cond ((decide ((n)≤(4)))) (NI ((l.length)-(a))) undef) rfl) hG14) (Cl _ .i64 (n) ((l.length)-(a))) ⟨rfl,rfl⟩) (oS rfl (Yk.pickAndN (vr (.bool (decide ((n)≤(4)))) rfl) (fun hA=>(mayT (vr (cond ((decide ((n)≤(4)))) (.bool (decide ((n)≤((l.length)-(a))))) undef) rfl) hA)) (vr (.bool (false)) rfl) fun bb15 hbb16=>(oZ (tN (al _ _ ?_)))))))))))))))))
 refine A0 (bb15) (vr (.bool (bb15)) rfl) (fun t=> ?_) (fun t=> ?_)
 ·subst hbb16
  have hb:n≤4∧n≤l.length-a:=by simpa using t
  have d1:=(l.getD a 0).toNat_lt
  have d2:=(l.getD (a+1) 0).toNat_lt
  have d3:=(l.getD (a+2) 0).toNat_lt
  have d4:=(l.getD (a+3) 0).toNat_lt
  refine Ak (tN (ak _ _ (sk fun d5 s=>(Ax (sk fun d6 am=>(wt (oA rfl (oZ (tN (am _ _ (sk fun an ab=> ?_)))))))))))
  have hJK19:∀(ρ:At) (wz:World),(∃v:Int,ρ 0=(St (l):Value)∧ρ 1=(NI a:Value)∧ρ 6=(NI n:Value)∧ρ 7=(.int .i64 (v:Int):Value)∧Ext w wz∧(v=vN l a n)∧True)→an ρ wz:=by
   clear hE
   rintro d7 d8 ⟨v,g,f,c,j,hE,hv,-⟩
   refine ab _ _ ?_
   by_cases q1:v<0
   ·have hnk:¬Ee l a n:=fun h=>by have:=h.1;omega
    refine sk fun d9 ea=>(sk fun ec ao=>(wt (oM rfl (oS rfl (Yk.eqI j (vr (NI 0) rfl) (Lc _ .i64 (v:Int) ((0:Nat):Int)) (oM rfl (oN (d:=98) rfl rfl rfl (vr (.bool (true)) (congrArg Value.bool (decide_eq_true (q1)))) rfl (oN (d:=98) rfl rfl rfl (vr (.bool (true)) (congrArg Value.bool (decide_eq_true (q1)))) rfl (oS rfl (Yk.pickT (vr (.bool (true)) (congrArg Value.bool (decide_eq_true (q1)))) (vr (.bool (true)) rfl) (oM rfl (oN (d:=102) rfl rfl rfl (vr (.bool (true)) rfl) rfl (oN (d:=102) rfl rfl rfl (vr (.bool (true)) rfl) rfl (oN (d:=102) rfl rfl rfl (vr (.bool (true)) rfl) rfl (oN (d:=102) rfl rfl rfl (vr (.bool (true)) rfl) rfl (oS rfl (Yk.pickT (vr (.bool (true)) rfl) (vr (.bool (true)) rfl) (oZ ?_))))))))))))))))))
    refine tN (ao _ _ (AE (vr (.bool (true)) rfl) (A6 (Aw (AM (tN (s _ _ (wt (oM rfl (oS rfl (Yk.bin (xv:=NI n) (yv:=NI 1) c rfl rfl (AN _ _ _ (by omega)) (oA rfl (Be [(0,St (l)),(1,NI a),(6,NI ((n)+(1))),(7, .int .i64 (v:Int)),(107, .bool (true))] ⟨g,f,rfl,j,rfl,trivial⟩ fun ap ⟨g,f,c,j,aq,_⟩=>(tN (And.intro ⟨n+1,g,f,c,hE,by omega,by omega,fun m h1 h2 h3=>(Nat.lt_succ_iff_lt_or_eq.1 h2).elim (fun h=>hno m h1 h h3) (fun h=>h▸hnk),trivial⟩ ?_)))))))))))))))
    show 6-(intOf (ap 6)).toNat<6-(intOf (q 6)).toNat
    rw[c,q6]
    simp only[intOf,Int.toNat_natCast];omega
   by_cases q2:1114111<v
   ·have hnk:¬Ee l a n:=fun h=>by have:=h.2.1;omega
    refine sk fun ed ee=>(sk fun ef ar=>(wt (oM rfl (oS rfl (Yk.eqI j (vr (NI 0) rfl) (Lc _ .i64 (v:Int) ((0:Nat):Int)) (oM rfl (oY (d:=98) rfl rfl (vr (.bool (false)) (congrArg Value.bool (decide_eq_false (q1)))) (Yk.move j (oY (d:=98) rfl rfl (vr (.bool (false)) (congrArg Value.bool (decide_eq_false (q1)))) (Yk.eqI (vr (.int .i64 (v:Int)) rfl) (vr (NI 1114111) rfl) (P1 _ .i64 (v:Int) ((1114111:Nat):Int)) (oS rfl (Yk.pickF (vr (.bool (false)) (congrArg Value.bool (decide_eq_false (q1)))) (vr (.bool (true)) (congrArg Value.bool (decide_eq_true (q2)))) (oM rfl (oN (d:=102) rfl rfl rfl (vr (.bool (true)) rfl) rfl (oN (d:=102) rfl rfl rfl (vr (.bool (true)) rfl) rfl (oN (d:=102) rfl rfl rfl (vr (.bool (true)) rfl) rfl (oN (d:=102) rfl rfl rfl (vr (.bool (true)) rfl) rfl (oS rfl (Yk.pickT (vr (.bool (true)) rfl) (vr (.bool (true)) rfl) (oZ ?_))))))))))))))))))))
    refine tN (ar _ _ (AE (vr (.bool (true)) rfl) (A6 (Aw (AM (tN (s _ _ (wt (oM rfl (oS rfl (Yk.bin (xv:=NI n) (yv:=NI 1) c rfl rfl (AN _ _ _ (by omega)) (oA rfl (Be [(0,St (l)),(1,NI a),(6,NI ((n)+(1))),(7, .int .i64 (v:Int)),(107, .bool (true))] ⟨g,f,rfl,j,rfl,trivial⟩ fun au ⟨g,f,c,j,aq,_⟩=>(tN (And.intro ⟨n+1,g,f,c,hE,by omega,by omega,fun m h1 h2 h3=>(Nat.lt_succ_iff_lt_or_eq.1 h2).elim (fun h=>hno m h1 h h3) (fun h=>h▸hnk),trivial⟩ ?_)))))))))))))))
    show 6-(intOf (au 6)).toNat<6-(intOf (q 6)).toNat
    rw[c,q6]
    simp only[intOf,Int.toNat_natCast];omega
   obtain⟨k,rfl⟩:=Int.eq_ofNat_of_zero_le (Int.not_lt.1 q1)
   refine sk fun eg av=>(sk fun eh aw=>(wt (oM rfl (oS rfl (Yk.eqI (a:=(k:Nat)) (b:=(0:Nat)) j rfl (AZ _ _ _ _) (oM rfl (oY (d:=98) rfl rfl (vr (.bool (false)) (congrArg Value.bool (decide_eq_false (by omega)))) (Yk.move j (oY (d:=98) rfl rfl (vr (.bool (false)) (congrArg Value.bool (decide_eq_false (by omega)))) (Yk.eqI (a:=(k:Nat)) (b:=(1114111:Nat)) rfl rfl (Ce _ _ _ _) (oS rfl (Yk.pickF (vr (.bool (false)) (congrArg Value.bool (decide_eq_false (by omega)))) (vr (.bool (false)) (congrArg Value.bool (decide_eq_false (by omega)))) (oM rfl (oY (d:=102) rfl rfl (vr (.bool (false)) rfl) (Yk.move j (oY (d:=102) rfl rfl (vr (.bool (false)) rfl) (Yk.convI Fs D5 (vr (NI k) rfl) (CE (k) (by omega)) (oY (d:=102) rfl rfl (vr (.bool (false)) rfl) (Yk.callA1 LV (vr (.int .i32 ((k:Nat):Int)) rfl) ((L0 _ k).mono ?_))))))))))))))))))))
   rintro e ei ⟨rfl,ax⟩
   refine⟨_,rfl,?_⟩
   have hE:=hE.trans ax
   refine oY (d:=102) rfl rfl (vr (.bool (false)) rfl) (Yk.notB (vr (.bool (C6 k)) rfl) (oS rfl (Yk.pickF (vr (.bool (false)) rfl) (vr (.bool (!(C6 k))) rfl) (oZ (tN (aw _ _ ?_))))))
   refine A0 (!(C6 k)) (vr (.bool (!(C6 k))) rfl) (fun u=> ?_) (fun u=> ?_)
   ·have hm:C6 k=false:=by simpa using u
    have hnk:¬Ee l a n:=fun h=>by have h3:=h.2.2.1;rw[←hv,Int.toNat_natCast,hm]at h3;cases h3
    refine A6 (Aw (AM (tN (s _ _ (wt (oM rfl (oS rfl (Yk.bin (xv:=NI n) (yv:=NI 1) c rfl rfl (AN _ _ _ (by omega)) (oA rfl (Be [(0,St (l)),(1,NI a),(6,NI ((n)+(1))),(7,NI k)] ⟨g,f,rfl,j,trivial⟩ fun ay ⟨g,f,c,j,_⟩=>(tN (And.intro ⟨n+1,g,f,c,hE,by omega,by omega,fun m h1 h2 h3=>(Nat.lt_succ_iff_lt_or_eq.1 h2).elim (fun h=>hno m h1 h h3) (fun h=>h▸hnk),trivial⟩ ?_))))))))))))
    show 6-(intOf (ay 6)).toNat<6-(intOf (q 6)).toNat
    rw[c,q6]
    simp only[intOf,Int.toNat_natCast];omega
   have hm:C6 k=true:=by simpa using u
   refine Ak (tN (av _ _ (sk fun ej az=> ?_)))
   refine Bi [Is (NI k),Is (.int .i32 ((k:Nat):Int)),fun x w' =>RB w' x (bytesR k),Is (St (bytesR k)),Is (St (l)),Is (NI a),Is (NI a),Is (NI n),Is (NI ((a)+(n))),Is (St ((l.drop (a)).take (((a)+(n))-(a)))),Is (.bool (decide ((bytesR k:List UInt8)=((l.drop (a)).take (((a)+(n))-(a)):List UInt8))))] (by kernel_rfl) [108,109,110,111,112,113,114,115,116,117,118] (by kernel_rfl) (by kernel_rfl) (Cz ⟨(fun _ _ _ h k=>RB.keep h k),(Pt trivial)⟩) ?a0 ?hQ1015
   case a0=>
    refine⟨?_,?_,?_,?_,?_,?_,?_,?_,?_,?_,?_,trivial⟩
    ·refine Aa rfl fun σ w1 hC h=> ?_
     have e7:=(Ad (h 7 (by decide))).trans j
     exact Yk.move e7 ⟨Ext.refl _,rfl⟩
    ·refine Aa rfl fun σ w1 hC h=> ?_
     have a2:=Ad (h 108 (by decide))
     exact Yk.convI Fs D5 a2 (CE (k) (by omega)) ⟨Ext.refl _,rfl⟩
    ·refine Aa rfl fun σ w1 hC h=> ?_
     have a3:=Ad (h 109 (by decide))
     refine Yk.callA1 LW a3 ((JW _ k (by omega)).mono ?_)
     rintro e w2 ⟨v,rfl,hR,hx⟩
     exact⟨_,rfl,hx,hR⟩
    ·refine Aa rfl fun σ w1 hC h=> ?_
     have a4:(fun x w' =>RB w' x (bytesR k)) (σ 110) w1:=h 110 (by decide)
     exact Yk.convRB Ff u5 Dx a4 ⟨Ext.refl _,rfl⟩
    ·refine Aa rfl fun σ w1 hC h=> ?_
     have p:=(Ad (h 0 (by decide))).trans g
     exact Yk.move p ⟨Ext.refl _,rfl⟩
    ·refine Aa rfl fun σ w1 hC h=> ?_
     have o:=(Ad (h 1 (by decide))).trans f
     exact Yk.move o ⟨Ext.refl _,rfl⟩
    ·refine Aa rfl fun σ w1 hC h=> ?_
     have o:=(Ad (h 1 (by decide))).trans f
     exact Yk.move o ⟨Ext.refl _,rfl⟩
    ·refine Aa rfl fun σ w1 hC h=> ?_
     have e6:=(Ad (h 6 (by decide))).trans c
     exact Yk.move e6 ⟨Ext.refl _,rfl⟩
    ·refine Aa rfl fun σ w1 hC h=> ?_
     have a6:=Ad (h 114 (by decide))
     have a7:=Ad (h 115 (by decide))
     exact Yk.bin (xv:=NI a) (yv:=NI n) a6 a7 rfl (AN _ _ _ (by omega)) ⟨Ext.refl _,rfl⟩
    ·refine Aa rfl fun σ w1 hC h=> ?_
     have a8:=Ad (h 112 (by decide))
     have a9:=Ad (h 113 (by decide))
     have ba:=Ad (h 116 (by decide))
     exact Yk.sliceSt (l:=l) Dx (a) ((a)+(n)) a8 (.inr ⟨.i64,congrArg some a9⟩) (.inr ⟨.i64,congrArg some ba⟩) (by omega) (by omega) ⟨Ext.refl _,rfl⟩
    ·refine Aa rfl fun σ w1 hC h=> ?_
     have bb:=Ad (h 111 (by decide))
     have bc:=Ad (h 117 (by decide))
     exact Yk.eqSt (l:=bytesR k) (m:=(l.drop (a)).take (((a)+(n))-(a))) (.inl rfl) bb bc (decide ((bytesR k:List UInt8)=((l.drop (a)).take (((a)+(n))-(a)):List UInt8))) rfl ⟨Ext.refl _,rfl⟩
   intro bd em be he hf
   obtain⟨-,-,-,-,-,-,-,-,-,-,k118,-⟩:=hf
   obtain⟨g,f,c,j,-⟩:=he.hold [(0,_),(1,_),(6,_),(7,_)] ⟨g,f,c,j,trivial⟩ rfl
   clear he
   have hE:=hE.trans be
   have bf:bd 118 = .bool (decide ((bytesR k:List UInt8)=((l.drop (a)).take (((a)+(n))-(a)):List UInt8))):=k118
   clear k118
   refine tN (az _ _ ?_)
   refine A2 ((bytesR k:List UInt8)=((l.drop (a)).take (((a)+(n))-(a)):List UInt8)) bf (fun y=> ?_) (fun y=> ?_)
   ·refine sk fun en bg=>(wt (oM rfl (oS rfl (Yk.convI Fs D5 j (CE (k) (by omega)) (oM rfl (oA rfl (oA rfl (oZ (tN (bg _ _ (Ap (AC (As (As (AC (As (Ao (fn:=Tryd.f165) _ rfl [.int .i32 ((k:Nat):Int),NI n] (.tuple #[.int .i32 ((k:Nat):Int),NI n]) rfl ⟨rfl,c,trivial⟩ ?_)))))))))))))))))
    exact⟨⟨_,n,rfl,by rw[if_neg (by omega)];exact LR ha aj hb.1 (by have:=hb.2;omega) ⟨by omega,by omega,by rw[←hv,Int.toNat_natCast];exact hm,by rw[←hv,Int.toNat_natCast];exact y.trans (by rw[Nat.add_sub_cancel_left])⟩,by have:=hb.2;omega⟩,hE⟩
   have hnk:¬Ee l a n:=fun h=>y (by have h4:=h.2.2.2;rw[←hv,Int.toNat_natCast]at h4;rw[h4,Nat.add_sub_cancel_left])
   refine Ak (bN (tN (s _ _ (wt (oM rfl (oS rfl (Yk.bin (xv:=NI n) (yv:=NI 1) c rfl rfl (AN _ _ _ (by omega)) (oA rfl (Be [(0,St (l)),(1,NI a),(6,NI ((n)+(1))),(7,NI k)] ⟨g,f,rfl,j,trivial⟩ fun bh ⟨g,f,c,j,_⟩=>(tN (And.intro ⟨n+1,g,f,c,hE,by omega,by omega,fun m h1 h2 h3=>(Nat.lt_succ_iff_lt_or_eq.1 h2).elim (fun h=>hno m h1 h h3) (fun h=>h▸hnk),trivial⟩ ?_)))))))))))
   show 6-(intOf (bh 6)).toNat<6-(intOf (q 6)).toNat
   rw[c,q6]
   simp only[intOf,Int.toNat_natCast];omega
  clear ab
  refine sk fun eo bi=>(wt (oM rfl (oZ (tN (bi _ _ (Ax (sk fun ep bj=>(wt (oS rfl (Yk.eqI (a:=(n:Nat)) (b:=(1:Nat)) c rfl (k_eql _ _ _ _) (oA rfl (oZ (tN (bj _ _ ?_))))))))))))))
  refine A2 ((n:Nat)=(1)) (vr (.bool (decide ((n:Nat)=(1)))) rfl) (fun ac=> ?_) (fun ac=> ?_)
  ·refine wt (oM rfl (oM rfl (oS rfl (Yk.idxSt (l:=l) (i:=a) Dx g f (by omega) (oS rfl (Yk.convI u5 Fs (vr (B8 (l.getD (a) 0)) rfl) (C9 .i64 (l.getD (a) 0) (fun n hn=>B4 n (by omega))) (oA rfl (Be [(0,St (l)),(1,NI a),(6,NI n),(7,NI ((l.getD (a) 0).toNat)),(20,NI n)] ⟨g,f,c,rfl,c,trivial⟩ fun eq ⟨g,f,c,j,z,_⟩=>(bN ?_)))))))))
   exact tN (hJK19 _ _ ⟨(((l.getD (a) 0).toNat:Nat):Int),g,f,c,j,hE,by rw[show n=1 from ac];rfl,trivial⟩)
  refine sk fun er bk=>(wt (oS rfl (Yk.eqI (a:=(n:Nat)) (b:=(2:Nat)) c rfl (k_eql _ _ _ _) (oA rfl (oZ (tN (bk _ _ ?_)))))))
  refine A2 ((n:Nat)=(2)) (vr (.bool (decide ((n:Nat)=(2)))) rfl) (fun ad=> ?_) (fun ad=> ?_)
  ·refine Bi [Is (St (l)),Is (NI a),Is (B8 (l.getD (a) 0)),Is (NI ((l.getD (a) 0).toNat)),Is (.int .i64 ((((((l.getD (a) 0).toNat:Nat):Int))-(((192:Nat):Int))):Int)),Is (.int .i64 ((((((((l.getD (a) 0).toNat:Nat):Int))-(((192:Nat):Int))))*(((64:Nat):Int))):Int)),Is (St (l)),Is (NI a),Is (NI ((a)+(1))),Is (B8 (l.getD ((a)+(1)) 0)),Is (NI ((l.getD ((a)+(1)) 0).toNat)),Is (.int .i64 ((((((((((l.getD (a) 0).toNat:Nat):Int))-(((192:Nat):Int))))*(((64:Nat):Int))))+((((l.getD ((a)+(1)) 0).toNat:Nat):Int))):Int)),Is (.int .i64 ((((((((((((l.getD (a) 0).toNat:Nat):Int))-(((192:Nat):Int))))*(((64:Nat):Int))))+((((l.getD ((a)+(1)) 0).toNat:Nat):Int))))-(((128:Nat):Int))):Int)),Is (.int .i64 ((((((((((((l.getD (a) 0).toNat:Nat):Int))-(((192:Nat):Int))))*(((64:Nat):Int))))+((((l.getD ((a)+(1)) 0).toNat:Nat):Int))))-(((128:Nat):Int))):Int))] (by kernel_rfl) [29,30,31,32,33,34,35,36,37,38,39,40,41,7] (by kernel_rfl) (by kernel_rfl) (Cz (Cc trivial)) ?bm ?hQ2009
   case bm=>
    refine⟨?_,?_,?_,?_,?_,?_,?_,?_,?_,?_,?_,?_,?_,?_,trivial⟩
    ·refine Aa rfl fun σ w1 hC h=> ?_
     have p:=(Ad (h 0 (by decide))).trans g
     exact Yk.move p ⟨Ext.refl _,rfl⟩
    ·refine Aa rfl fun σ w1 hC h=> ?_
     have o:=(Ad (h 1 (by decide))).trans f
     exact Yk.move o ⟨Ext.refl _,rfl⟩
    ·refine Aa rfl fun σ w1 hC h=> ?_
     have bn:=Ad (h 29 (by decide))
     have bo:=Ad (h 30 (by decide))
     exact Yk.idxSt (l:=l) (i:=a) Dx bn bo (by omega) ⟨Ext.refl _,rfl⟩
    ·refine Aa rfl fun σ w1 hC h=> ?_
     have bp:=Ad (h 31 (by decide))
     exact Yk.convI u5 Fs bp (C9 .i64 (l.getD (a) 0) (fun n hn=>B4 n (by omega))) ⟨Ext.refl _,rfl⟩
    ·refine Aa rfl fun σ w1 hC h=> ?_
     have bq:=Ad (h 32 (by decide))
     exact Yk.bin (xv:= .int .i64 ((((l.getD (a) 0).toNat:Nat):Int))) (yv:= .int .i64 (((192:Nat):Int))) bq rfl rfl (DL _ ((((l.getD (a) 0).toNat:Nat):Int)) (((192:Nat):Int)) (by omega)) ⟨Ext.refl _,rfl⟩
    ·refine Aa rfl fun σ w1 hC h=> ?_
     have br:=Ad (h 33 (by decide))
     exact Yk.bin (xv:= .int .i64 ((((((l.getD (a) 0).toNat:Nat):Int))-(((192:Nat):Int))))) (yv:= .int .i64 (((64:Nat):Int))) br rfl rfl (Fx _ ((((((l.getD (a) 0).toNat:Nat):Int))-(((192:Nat):Int)))) (((64:Nat):Int)) (by omega)) ⟨Ext.refl _,rfl⟩
    ·refine Aa rfl fun σ w1 hC h=> ?_
     have p:=(Ad (h 0 (by decide))).trans g
     exact Yk.move p ⟨Ext.refl _,rfl⟩
    ·refine Aa rfl fun σ w1 hC h=> ?_
     have o:=(Ad (h 1 (by decide))).trans f
     exact Yk.move o ⟨Ext.refl _,rfl⟩
    ·refine Aa rfl fun σ w1 hC h=> ?_
     have bs:=Ad (h 36 (by decide))
     exact Yk.bin (xv:=NI a) (yv:=NI 1) bs rfl rfl (AN _ _ _ (by omega)) ⟨Ext.refl _,rfl⟩
    ·refine Aa rfl fun σ w1 hC h=> ?_
     have bt:=Ad (h 35 (by decide))
     have bu:=Ad (h 37 (by decide))
     exact Yk.idxSt (l:=l) (i:=(a)+(1)) Dx bt bu (by omega) ⟨Ext.refl _,rfl⟩
    ·refine Aa rfl fun σ w1 hC h=> ?_
     have bv:=Ad (h 38 (by decide))
     exact Yk.convI u5 Fs bv (C9 .i64 (l.getD ((a)+(1)) 0) (fun n hn=>B4 n (by omega))) ⟨Ext.refl _,rfl⟩
    ·refine Aa rfl fun σ w1 hC h=> ?_
     have bw:=Ad (h 34 (by decide))
     have bx:=Ad (h 39 (by decide))
     exact Yk.bin (xv:= .int .i64 ((((((((l.getD (a) 0).toNat:Nat):Int))-(((192:Nat):Int))))*(((64:Nat):Int))))) (yv:= .int .i64 ((((l.getD ((a)+(1)) 0).toNat:Nat):Int))) bw bx rfl (Fw _ ((((((((l.getD (a) 0).toNat:Nat):Int))-(((192:Nat):Int))))*(((64:Nat):Int)))) ((((l.getD ((a)+(1)) 0).toNat:Nat):Int)) (by omega)) ⟨Ext.refl _,rfl⟩
    ·refine Aa rfl fun σ w1 hC h=> ?_
     have bz:=Ad (h 40 (by decide))
     exact Yk.bin (xv:= .int .i64 ((((((((((l.getD (a) 0).toNat:Nat):Int))-(((192:Nat):Int))))*(((64:Nat):Int))))+((((l.getD ((a)+(1)) 0).toNat:Nat):Int))))) (yv:= .int .i64 (((128:Nat):Int))) bz rfl rfl (DL _ ((((((((((l.getD (a) 0).toNat:Nat):Int))-(((192:Nat):Int))))*(((64:Nat):Int))))+((((l.getD ((a)+(1)) 0).toNat:Nat):Int)))) (((128:Nat):Int)) (by omega)) ⟨Ext.refl _,rfl⟩
    ·refine Aa rfl fun σ w1 hC h=> ?_
     have b0:=Ad (h 41 (by decide))
     exact Yk.assign b0 ⟨Ext.refl _,rfl⟩
   intro b1 es b2 he hf
   obtain⟨-,-,-,-,-,-,-,-,-,-,-,-,-,k7,-⟩:=hf
   obtain⟨g,f,c,z,-⟩:=he.hold [(0,_),(1,_),(6,_),(20,_)] ⟨g,f,c,c,trivial⟩ rfl
   clear he
   have hE:=hE.trans b2
   have j:b1 7 = .int .i64 ((((((((((((l.getD (a) 0).toNat:Nat):Int))-(((192:Nat):Int))))*(((64:Nat):Int))))+((((l.getD ((a)+(1)) 0).toNat:Nat):Int))))-(((128:Nat):Int))):Int):=k7
   clear k7
   refine bN ?_
   exact tN (hJK19 _ _ ⟨(((((((((((l.getD (a) 0).toNat:Nat):Int))-(((192:Nat):Int))))*(((64:Nat):Int))))+((((l.getD ((a)+(1)) 0).toNat:Nat):Int))))-(((128:Nat):Int))),g,f,c,j,hE,by rw[show n=2 from ad];rfl,trivial⟩)
  refine sk fun et b3=>(wt (oS rfl (Yk.eqI (a:=(n:Nat)) (b:=(3:Nat)) c rfl (k_eql _ _ _ _) (oA rfl (oZ (tN (b3 _ _ ?_)))))))
  refine A2 ((n:Nat)=(3)) (vr (.bool (decide ((n:Nat)=(3)))) rfl) (fun ae=> ?_) (fun ae=> ?_)
  ·refine Bi [Is (St (l)),Is (NI a),Is (B8 (l.getD (a) 0)),Is (NI ((l.getD (a) 0).toNat)),Is (.int .i64 ((((((l.getD (a) 0).toNat:Nat):Int))-(((224:Nat):Int))):Int)),Is (.int .i64 ((((((((l.getD (a) 0).toNat:Nat):Int))-(((224:Nat):Int))))*(((4096:Nat):Int))):Int)),Is (St (l)),Is (NI a),Is (NI ((a)+(1))),Is (B8 (l.getD ((a)+(1)) 0)),Is (NI ((l.getD ((a)+(1)) 0).toNat)),Is (.int .i64 ((((((l.getD ((a)+(1)) 0).toNat:Nat):Int))-(((128:Nat):Int))):Int)),Is (.int .i64 ((((((((l.getD ((a)+(1)) 0).toNat:Nat):Int))-(((128:Nat):Int))))*(((64:Nat):Int))):Int)),Is (.int .i64 ((((((((((l.getD (a) 0).toNat:Nat):Int))-(((224:Nat):Int))))*(((4096:Nat):Int))))+((((((((l.getD ((a)+(1)) 0).toNat:Nat):Int))-(((128:Nat):Int))))*(((64:Nat):Int))))):Int)),Is (St (l)),Is (NI a),Is (NI ((a)+(2))),Is (B8 (l.getD ((a)+(2)) 0)),Is (NI ((l.getD ((a)+(2)) 0).toNat)),Is (.int .i64 ((((((((((((l.getD (a) 0).toNat:Nat):Int))-(((224:Nat):Int))))*(((4096:Nat):Int))))+((((((((l.getD ((a)+(1)) 0).toNat:Nat):Int))-(((128:Nat):Int))))*(((64:Nat):Int))))))+((((l.getD ((a)+(2)) 0).toNat:Nat):Int))):Int)),Is (.int .i64 ((((((((((((((l.getD (a) 0).toNat:Nat):Int))-(((224:Nat):Int))))*(((4096:Nat):Int))))+((((((((l.getD ((a)+(1)) 0).toNat:Nat):Int))-(((128:Nat):Int))))*(((64:Nat):Int))))))+((((l.getD ((a)+(2)) 0).toNat:Nat):Int))))-(((128:Nat):Int))):Int)),Is (.int .i64 ((((((((((((((l.getD (a) 0).toNat:Nat):Int))-(((224:Nat):Int))))*(((4096:Nat):Int))))+((((((((l.getD ((a)+(1)) 0).toNat:Nat):Int))-(((128:Nat):Int))))*(((64:Nat):Int))))))+((((l.getD ((a)+(2)) 0).toNat:Nat):Int))))-(((128:Nat):Int))):Int))] (by kernel_rfl) [44,45,46,47,48,49,50,51,52,53,54,55,56,57,58,59,60,61,62,63,64,7] (by kernel_rfl) (by kernel_rfl) (Lb (Cc trivial)) ?b4 ?hQ3011
   case b4=>
    refine⟨?_,?_,?_,?_,?_,?_,?_,?_,?_,?_,?_,?_,?_,?_,?_,?_,?_,?_,?_,?_,?_,?_,trivial⟩
    ·refine Aa rfl fun σ w1 hC h=> ?_
     have p:=(Ad (h 0 (by decide))).trans g
     exact Yk.move p ⟨Ext.refl _,rfl⟩
    ·refine Aa rfl fun σ w1 hC h=> ?_
     have o:=(Ad (h 1 (by decide))).trans f
     exact Yk.move o ⟨Ext.refl _,rfl⟩
    ·refine Aa rfl fun σ w1 hC h=> ?_
     have b5:=Ad (h 44 (by decide))
     have b6:=Ad (h 45 (by decide))
     exact Yk.idxSt (l:=l) (i:=a) Dx b5 b6 (by omega) ⟨Ext.refl _,rfl⟩
    ·refine Aa rfl fun σ w1 hC h=> ?_
     have b7:=Ad (h 46 (by decide))
     exact Yk.convI u5 Fs b7 (C9 .i64 (l.getD (a) 0) (fun n hn=>B4 n (by omega))) ⟨Ext.refl _,rfl⟩
    ·refine Aa rfl fun σ w1 hC h=> ?_
     have b8:=Ad (h 47 (by decide))
     exact Yk.bin (xv:= .int .i64 ((((l.getD (a) 0).toNat:Nat):Int))) (yv:= .int .i64 (((224:Nat):Int))) b8 rfl rfl (DL _ ((((l.getD (a) 0).toNat:Nat):Int)) (((224:Nat):Int)) (by omega)) ⟨Ext.refl _,rfl⟩
    ·refine Aa rfl fun σ w1 hC h=> ?_
     have b9:=Ad (h 48 (by decide))
     exact Yk.bin (xv:= .int .i64 ((((((l.getD (a) 0).toNat:Nat):Int))-(((224:Nat):Int))))) (yv:= .int .i64 (((4096:Nat):Int))) b9 rfl rfl (Fx _ ((((((l.getD (a) 0).toNat:Nat):Int))-(((224:Nat):Int)))) (((4096:Nat):Int)) (by omega)) ⟨Ext.refl _,rfl⟩
    ·refine Aa rfl fun σ w1 hC h=> ?_
     have p:=(Ad (h 0 (by decide))).trans g
     exact Yk.move p ⟨Ext.refl _,rfl⟩
    ·refine Aa rfl fun σ w1 hC h=> ?_
     have o:=(Ad (h 1 (by decide))).trans f
     exact Yk.move o ⟨Ext.refl _,rfl⟩
    ·refine Aa rfl fun σ w1 hC h=> ?_
     have ca:=Ad (h 51 (by decide))
     exact Yk.bin (xv:=NI a) (yv:=NI 1) ca rfl rfl (AN _ _ _ (by omega)) ⟨Ext.refl _,rfl⟩
    ·refine Aa rfl fun σ w1 hC h=> ?_
     have cb:=Ad (h 50 (by decide))
     have cc:=Ad (h 52 (by decide))
     exact Yk.idxSt (l:=l) (i:=(a)+(1)) Dx cb cc (by omega) ⟨Ext.refl _,rfl⟩
    ·refine Aa rfl fun σ w1 hC h=> ?_
     have cd:=Ad (h 53 (by decide))
     exact Yk.convI u5 Fs cd (C9 .i64 (l.getD ((a)+(1)) 0) (fun n hn=>B4 n (by omega))) ⟨Ext.refl _,rfl⟩
    ·refine Aa rfl fun σ w1 hC h=> ?_
     have ce:=Ad (h 54 (by decide))
     exact Yk.bin (xv:= .int .i64 ((((l.getD ((a)+(1)) 0).toNat:Nat):Int))) (yv:= .int .i64 (((128:Nat):Int))) ce rfl rfl (DL _ ((((l.getD ((a)+(1)) 0).toNat:Nat):Int)) (((128:Nat):Int)) (by omega)) ⟨Ext.refl _,rfl⟩
    ·refine Aa rfl fun σ w1 hC h=> ?_
     have cf:=Ad (h 55 (by decide))
     exact Yk.bin (xv:= .int .i64 ((((((l.getD ((a)+(1)) 0).toNat:Nat):Int))-(((128:Nat):Int))))) (yv:= .int .i64 (((64:Nat):Int))) cf rfl rfl (Fx _ ((((((l.getD ((a)+(1)) 0).toNat:Nat):Int))-(((128:Nat):Int)))) (((64:Nat):Int)) (by omega)) ⟨Ext.refl _,rfl⟩
    ·refine Aa rfl fun σ w1 hC h=> ?_
     have cg:=Ad (h 49 (by decide))
     have ch:=Ad (h 56 (by decide))
     exact Yk.bin (xv:= .int .i64 ((((((((l.getD (a) 0).toNat:Nat):Int))-(((224:Nat):Int))))*(((4096:Nat):Int))))) (yv:= .int .i64 ((((((((l.getD ((a)+(1)) 0).toNat:Nat):Int))-(((128:Nat):Int))))*(((64:Nat):Int))))) cg ch rfl (Fw _ ((((((((l.getD (a) 0).toNat:Nat):Int))-(((224:Nat):Int))))*(((4096:Nat):Int)))) ((((((((l.getD ((a)+(1)) 0).toNat:Nat):Int))-(((128:Nat):Int))))*(((64:Nat):Int)))) (by omega)) ⟨Ext.refl _,rfl⟩
    ·refine Aa rfl fun σ w1 hC h=> ?_
     have p:=(Ad (h 0 (by decide))).trans g
     exact Yk.move p ⟨Ext.refl _,rfl⟩
    ·refine Aa rfl fun σ w1 hC h=> ?_
     have o:=(Ad (h 1 (by decide))).trans f
     exact Yk.move o ⟨Ext.refl _,rfl⟩
    ·refine Aa rfl fun σ w1 hC h=> ?_
     have ci:=Ad (h 59 (by decide))
     exact Yk.bin (xv:=NI a) (yv:=NI 2) ci rfl rfl (AN _ _ _ (by omega)) ⟨Ext.refl _,rfl⟩
    ·refine Aa rfl fun σ w1 hC h=> ?_
     have cj:=Ad (h 58 (by decide))
     have ck:=Ad (h 60 (by decide))
     exact Yk.idxSt (l:=l) (i:=(a)+(2)) Dx cj ck (by omega) ⟨Ext.refl _,rfl⟩
    ·refine Aa rfl fun σ w1 hC h=> ?_
     have cl:=Ad (h 61 (by decide))
     exact Yk.convI u5 Fs cl (C9 .i64 (l.getD ((a)+(2)) 0) (fun n hn=>B4 n (by omega))) ⟨Ext.refl _,rfl⟩
    ·refine Aa rfl fun σ w1 hC h=> ?_
     have cm:=Ad (h 57 (by decide))
     have cn:=Ad (h 62 (by decide))
     exact Yk.bin (xv:= .int .i64 ((((((((((l.getD (a) 0).toNat:Nat):Int))-(((224:Nat):Int))))*(((4096:Nat):Int))))+((((((((l.getD ((a)+(1)) 0).toNat:Nat):Int))-(((128:Nat):Int))))*(((64:Nat):Int))))))) (yv:= .int .i64 ((((l.getD ((a)+(2)) 0).toNat:Nat):Int))) cm cn rfl (Fw _ ((((((((((l.getD (a) 0).toNat:Nat):Int))-(((224:Nat):Int))))*(((4096:Nat):Int))))+((((((((l.getD ((a)+(1)) 0).toNat:Nat):Int))-(((128:Nat):Int))))*(((64:Nat):Int)))))) ((((l.getD ((a)+(2)) 0).toNat:Nat):Int)) (by omega)) ⟨Ext.refl _,rfl⟩
    ·refine Aa rfl fun σ w1 hC h=> ?_
     have co:=Ad (h 63 (by decide))
     exact Yk.bin (xv:= .int .i64 ((((((((((((l.getD (a) 0).toNat:Nat):Int))-(((224:Nat):Int))))*(((4096:Nat):Int))))+((((((((l.getD ((a)+(1)) 0).toNat:Nat):Int))-(((128:Nat):Int))))*(((64:Nat):Int))))))+((((l.getD ((a)+(2)) 0).toNat:Nat):Int))))) (yv:= .int .i64 (((128:Nat):Int))) co rfl rfl (DL _ ((((((((((((l.getD (a) 0).toNat:Nat):Int))-(((224:Nat):Int))))*(((4096:Nat):Int))))+((((((((l.getD ((a)+(1)) 0).toNat:Nat):Int))-(((128:Nat):Int))))*(((64:Nat):Int))))))+((((l.getD ((a)+(2)) 0).toNat:Nat):Int)))) (((128:Nat):Int)) (by omega)) ⟨Ext.refl _,rfl⟩
    ·refine Aa rfl fun σ w1 hC h=> ?_
     have cp:=Ad (h 64 (by decide))
     exact Yk.assign cp ⟨Ext.refl _,rfl⟩
   intro cq eu cr he hf
   obtain⟨-,-,-,-,-,-,-,-,-,-,-,-,-,-,-,-,-,-,-,-,-,k7,-⟩:=hf
   obtain⟨g,f,c,z,-⟩:=he.hold [(0,_),(1,_),(6,_),(20,_)] ⟨g,f,c,c,trivial⟩ rfl
   clear he
   have hE:=hE.trans cr
   have j:cq 7 = .int .i64 ((((((((((((((l.getD (a) 0).toNat:Nat):Int))-(((224:Nat):Int))))*(((4096:Nat):Int))))+((((((((l.getD ((a)+(1)) 0).toNat:Nat):Int))-(((128:Nat):Int))))*(((64:Nat):Int))))))+((((l.getD ((a)+(2)) 0).toNat:Nat):Int))))-(((128:Nat):Int))):Int):=k7
   clear k7
   refine bN ?_
   exact tN (hJK19 _ _ ⟨(((((((((((((l.getD (a) 0).toNat:Nat):Int))-(((224:Nat):Int))))*(((4096:Nat):Int))))+((((((((l.getD ((a)+(1)) 0).toNat:Nat):Int))-(((128:Nat):Int))))*(((64:Nat):Int))))))+((((l.getD ((a)+(2)) 0).toNat:Nat):Int))))-(((128:Nat):Int))),g,f,c,j,hE,by rw[show n=3 from ae];rfl,trivial⟩)
  refine sk fun ew cs=>(wt (oS rfl (Yk.eqI (a:=(n:Nat)) (b:=(4:Nat)) c rfl (k_eql _ _ _ _) (oA rfl (oZ (tN (cs _ _ ?_)))))))
  refine A2 ((n:Nat)=(4)) (vr (.bool (decide ((n:Nat)=(4)))) rfl) (fun af=> ?_) (fun af=> ?_)
  ·refine Bi [Is (St (l)),Is (NI a),Is (B8 (l.getD (a) 0)),Is (NI ((l.getD (a) 0).toNat)),Is (.int .i64 ((((((l.getD (a) 0).toNat:Nat):Int))-(((240:Nat):Int))):Int)),Is (.int .i64 ((((((((l.getD (a) 0).toNat:Nat):Int))-(((240:Nat):Int))))*(((262144:Nat):Int))):Int)),Is (St (l)),Is (NI a),Is (NI ((a)+(1))),Is (B8 (l.getD ((a)+(1)) 0)),Is (NI ((l.getD ((a)+(1)) 0).toNat)),Is (.int .i64 ((((((l.getD ((a)+(1)) 0).toNat:Nat):Int))-(((128:Nat):Int))):Int)),Is (.int .i64 ((((((((l.getD ((a)+(1)) 0).toNat:Nat):Int))-(((128:Nat):Int))))*(((4096:Nat):Int))):Int)),Is (.int .i64 ((((((((((l.getD (a) 0).toNat:Nat):Int))-(((240:Nat):Int))))*(((262144:Nat):Int))))+((((((((l.getD ((a)+(1)) 0).toNat:Nat):Int))-(((128:Nat):Int))))*(((4096:Nat):Int))))):Int)),Is (St (l)),Is (NI a),Is (NI ((a)+(2))),Is (B8 (l.getD ((a)+(2)) 0)),Is (NI ((l.getD ((a)+(2)) 0).toNat)),Is (.int .i64 ((((((l.getD ((a)+(2)) 0).toNat:Nat):Int))-(((128:Nat):Int))):Int)),Is (.int .i64 ((((((((l.getD ((a)+(2)) 0).toNat:Nat):Int))-(((128:Nat):Int))))*(((64:Nat):Int))):Int)),Is (.int .i64 ((((((((((((l.getD (a) 0).toNat:Nat):Int))-(((240:Nat):Int))))*(((262144:Nat):Int))))+((((((((l.getD ((a)+(1)) 0).toNat:Nat):Int))-(((128:Nat):Int))))*(((4096:Nat):Int))))))+((((((((l.getD ((a)+(2)) 0).toNat:Nat):Int))-(((128:Nat):Int))))*(((64:Nat):Int))))):Int)),Is (St (l)),Is (NI a),Is (NI ((a)+(3))),Is (B8 (l.getD ((a)+(3)) 0)),Is (NI ((l.getD ((a)+(3)) 0).toNat)),Is (.int .i64 ((((((((((((((l.getD (a) 0).toNat:Nat):Int))-(((240:Nat):Int))))*(((262144:Nat):Int))))+((((((((l.getD ((a)+(1)) 0).toNat:Nat):Int))-(((128:Nat):Int))))*(((4096:Nat):Int))))))+((((((((l.getD ((a)+(2)) 0).toNat:Nat):Int))-(((128:Nat):Int))))*(((64:Nat):Int))))))+((((l.getD ((a)+(3)) 0).toNat:Nat):Int))):Int)),Is (.int .i64 ((((((((((((((((l.getD (a) 0).toNat:Nat):Int))-(((240:Nat):Int))))*(((262144:Nat):Int))))+((((((((l.getD ((a)+(1)) 0).toNat:Nat):Int))-(((128:Nat):Int))))*(((4096:Nat):Int))))))+((((((((l.getD ((a)+(2)) 0).toNat:Nat):Int))-(((128:Nat):Int))))*(((64:Nat):Int))))))+((((l.getD ((a)+(3)) 0).toNat:Nat):Int))))-(((128:Nat):Int))):Int)),Is (.int .i64 ((((((((((((((((l.getD (a) 0).toNat:Nat):Int))-(((240:Nat):Int))))*(((262144:Nat):Int))))+((((((((l.getD ((a)+(1)) 0).toNat:Nat):Int))-(((128:Nat):Int))))*(((4096:Nat):Int))))))+((((((((l.getD ((a)+(2)) 0).toNat:Nat):Int))-(((128:Nat):Int))))*(((64:Nat):Int))))))+((((l.getD ((a)+(3)) 0).toNat:Nat):Int))))-(((128:Nat):Int))):Int))] (by kernel_rfl) [67,68,69,70,71,72,73,74,75,76,77,78,79,80,81,82,83,84,85,86,87,88,89,90,91,92,93,94,95,7] (by kernel_rfl) (by kernel_rfl) (KO (Cc (Cc trivial))) ?ct ?hQ4013
   case ct=>
    refine⟨?_,?_,?_,?_,?_,?_,?_,?_,?_,?_,?_,?_,?_,?_,?_,?_,?_,?_,?_,?_,?_,?_,?_,?_,?_,?_,?_,?_,?_,?_,trivial⟩
    ·refine Aa rfl fun σ w1 hC h=> ?_
     have p:=(Ad (h 0 (by decide))).trans g
     exact Yk.move p ⟨Ext.refl _,rfl⟩
    ·refine Aa rfl fun σ w1 hC h=> ?_
     have o:=(Ad (h 1 (by decide))).trans f
     exact Yk.move o ⟨Ext.refl _,rfl⟩
    ·refine Aa rfl fun σ w1 hC h=> ?_
     have cu:=Ad (h 67 (by decide))
     have cv:=Ad (h 68 (by decide))
     exact Yk.idxSt (l:=l) (i:=a) Dx cu cv (by omega) ⟨Ext.refl _,rfl⟩
    ·refine Aa rfl fun σ w1 hC h=> ?_
     have cw:=Ad (h 69 (by decide))
     exact Yk.convI u5 Fs cw (C9 .i64 (l.getD (a) 0) (fun n hn=>B4 n (by omega))) ⟨Ext.refl _,rfl⟩
    ·refine Aa rfl fun σ w1 hC h=> ?_
     have cx:=Ad (h 70 (by decide))
     exact Yk.bin (xv:= .int .i64 ((((l.getD (a) 0).toNat:Nat):Int))) (yv:= .int .i64 (((240:Nat):Int))) cx rfl rfl (DL _ ((((l.getD (a) 0).toNat:Nat):Int)) (((240:Nat):Int)) (by omega)) ⟨Ext.refl _,rfl⟩
    ·refine Aa rfl fun σ w1 hC h=> ?_
     have cy:=Ad (h 71 (by decide))
     exact Yk.bin (xv:= .int .i64 ((((((l.getD (a) 0).toNat:Nat):Int))-(((240:Nat):Int))))) (yv:= .int .i64 (((262144:Nat):Int))) cy rfl rfl (Fx _ ((((((l.getD (a) 0).toNat:Nat):Int))-(((240:Nat):Int)))) (((262144:Nat):Int)) (by omega)) ⟨Ext.refl _,rfl⟩
    ·refine Aa rfl fun σ w1 hC h=> ?_
     have p:=(Ad (h 0 (by decide))).trans g
     exact Yk.move p ⟨Ext.refl _,rfl⟩
    ·refine Aa rfl fun σ w1 hC h=> ?_
     have o:=(Ad (h 1 (by decide))).trans f
     exact Yk.move o ⟨Ext.refl _,rfl⟩
    ·refine Aa rfl fun σ w1 hC h=> ?_
     have cz:=Ad (h 74 (by decide))
     exact Yk.bin (xv:=NI a) (yv:=NI 1) cz rfl rfl (AN _ _ _ (by omega)) ⟨Ext.refl _,rfl⟩
    ·refine Aa rfl fun σ w1 hC h=> ?_
     have c0:=Ad (h 73 (by decide))
     have c1:=Ad (h 75 (by decide))
     exact Yk.idxSt (l:=l) (i:=(a)+(1)) Dx c0 c1 (by omega) ⟨Ext.refl _,rfl⟩
    ·refine Aa rfl fun σ w1 hC h=> ?_
     have c2:=Ad (h 76 (by decide))
     exact Yk.convI u5 Fs c2 (C9 .i64 (l.getD ((a)+(1)) 0) (fun n hn=>B4 n (by omega))) ⟨Ext.refl _,rfl⟩
    ·refine Aa rfl fun σ w1 hC h=> ?_
     have c3:=Ad (h 77 (by decide))
     exact Yk.bin (xv:= .int .i64 ((((l.getD ((a)+(1)) 0).toNat:Nat):Int))) (yv:= .int .i64 (((128:Nat):Int))) c3 rfl rfl (DL _ ((((l.getD ((a)+(1)) 0).toNat:Nat):Int)) (((128:Nat):Int)) (by omega)) ⟨Ext.refl _,rfl⟩
    ·refine Aa rfl fun σ w1 hC h=> ?_
     have c4:=Ad (h 78 (by decide))
     exact Yk.bin (xv:= .int .i64 ((((((l.getD ((a)+(1)) 0).toNat:Nat):Int))-(((128:Nat):Int))))) (yv:= .int .i64 (((4096:Nat):Int))) c4 rfl rfl (Fx _ ((((((l.getD ((a)+(1)) 0).toNat:Nat):Int))-(((128:Nat):Int)))) (((4096:Nat):Int)) (by omega)) ⟨Ext.refl _,rfl⟩
    ·refine Aa rfl fun σ w1 hC h=> ?_
     have c5:=Ad (h 72 (by decide))
     have c6:=Ad (h 79 (by decide))
     exact Yk.bin (xv:= .int .i64 ((((((((l.getD (a) 0).toNat:Nat):Int))-(((240:Nat):Int))))*(((262144:Nat):Int))))) (yv:= .int .i64 ((((((((l.getD ((a)+(1)) 0).toNat:Nat):Int))-(((128:Nat):Int))))*(((4096:Nat):Int))))) c5 c6 rfl (Fw _ ((((((((l.getD (a) 0).toNat:Nat):Int))-(((240:Nat):Int))))*(((262144:Nat):Int)))) ((((((((l.getD ((a)+(1)) 0).toNat:Nat):Int))-(((128:Nat):Int))))*(((4096:Nat):Int)))) (by omega)) ⟨Ext.refl _,rfl⟩
    ·refine Aa rfl fun σ w1 hC h=> ?_
     have p:=(Ad (h 0 (by decide))).trans g
     exact Yk.move p ⟨Ext.refl _,rfl⟩
    ·refine Aa rfl fun σ w1 hC h=> ?_
     have o:=(Ad (h 1 (by decide))).trans f
     exact Yk.move o ⟨Ext.refl _,rfl⟩
    ·refine Aa rfl fun σ w1 hC h=> ?_
     have c7:=Ad (h 82 (by decide))
     exact Yk.bin (xv:=NI a) (yv:=NI 2) c7 rfl rfl (AN _ _ _ (by omega)) ⟨Ext.refl _,rfl⟩
    ·refine Aa rfl fun σ w1 hC h=> ?_
     have c8:=Ad (h 81 (by decide))
     have c9:=Ad (h 83 (by decide))
     exact Yk.idxSt (l:=l) (i:=(a)+(2)) Dx c8 c9 (by omega) ⟨Ext.refl _,rfl⟩
    ·refine Aa rfl fun σ w1 hC h=> ?_
     have da:=Ad (h 84 (by decide))
     exact Yk.convI u5 Fs da (C9 .i64 (l.getD ((a)+(2)) 0) (fun n hn=>B4 n (by omega))) ⟨Ext.refl _,rfl⟩
    ·refine Aa rfl fun σ w1 hC h=> ?_
     have db:=Ad (h 85 (by decide))
     exact Yk.bin (xv:= .int .i64 ((((l.getD ((a)+(2)) 0).toNat:Nat):Int))) (yv:= .int .i64 (((128:Nat):Int))) db rfl rfl (DL _ ((((l.getD ((a)+(2)) 0).toNat:Nat):Int)) (((128:Nat):Int)) (by omega)) ⟨Ext.refl _,rfl⟩
    ·refine Aa rfl fun σ w1 hC h=> ?_
     have dc:=Ad (h 86 (by decide))
     exact Yk.bin (xv:= .int .i64 ((((((l.getD ((a)+(2)) 0).toNat:Nat):Int))-(((128:Nat):Int))))) (yv:= .int .i64 (((64:Nat):Int))) dc rfl rfl (Fx _ ((((((l.getD ((a)+(2)) 0).toNat:Nat):Int))-(((128:Nat):Int)))) (((64:Nat):Int)) (by omega)) ⟨Ext.refl _,rfl⟩
    ·refine Aa rfl fun σ w1 hC h=> ?_
     have dd:=Ad (h 80 (by decide))
     have de:=Ad (h 87 (by decide))
     exact Yk.bin (xv:= .int .i64 ((((((((((l.getD (a) 0).toNat:Nat):Int))-(((240:Nat):Int))))*(((262144:Nat):Int))))+((((((((l.getD ((a)+(1)) 0).toNat:Nat):Int))-(((128:Nat):Int))))*(((4096:Nat):Int))))))) (yv:= .int .i64 ((((((((l.getD ((a)+(2)) 0).toNat:Nat):Int))-(((128:Nat):Int))))*(((64:Nat):Int))))) dd de rfl (Fw _ ((((((((((l.getD (a) 0).toNat:Nat):Int))-(((240:Nat):Int))))*(((262144:Nat):Int))))+((((((((l.getD ((a)+(1)) 0).toNat:Nat):Int))-(((128:Nat):Int))))*(((4096:Nat):Int)))))) ((((((((l.getD ((a)+(2)) 0).toNat:Nat):Int))-(((128:Nat):Int))))*(((64:Nat):Int)))) (by omega)) ⟨Ext.refl _,rfl⟩
    ·refine Aa rfl fun σ w1 hC h=> ?_
     have p:=(Ad (h 0 (by decide))).trans g
     exact Yk.move p ⟨Ext.refl _,rfl⟩
    ·refine Aa rfl fun σ w1 hC h=> ?_
     have o:=(Ad (h 1 (by decide))).trans f
     exact Yk.move o ⟨Ext.refl _,rfl⟩
    ·refine Aa rfl fun σ w1 hC h=> ?_
     have df:=Ad (h 90 (by decide))
     exact Yk.bin (xv:=NI a) (yv:=NI 3) df rfl rfl (AN _ _ _ (by omega)) ⟨Ext.refl _,rfl⟩
    ·refine Aa rfl fun σ w1 hC h=> ?_
     have dg:=Ad (h 89 (by decide))
     have dh:=Ad (h 91 (by decide))
     exact Yk.idxSt (l:=l) (i:=(a)+(3)) Dx dg dh (by omega) ⟨Ext.refl _,rfl⟩
    ·refine Aa rfl fun σ w1 hC h=> ?_
     have di:=Ad (h 92 (by decide))
     exact Yk.convI u5 Fs di (C9 .i64 (l.getD ((a)+(3)) 0) (fun n hn=>B4 n (by omega))) ⟨Ext.refl _,rfl⟩
    ·refine Aa rfl fun σ w1 hC h=> ?_
     have dj:=Ad (h 88 (by decide))
     have dk:=Ad (h 93 (by decide))
     exact Yk.bin (xv:= .int .i64 ((((((((((((l.getD (a) 0).toNat:Nat):Int))-(((240:Nat):Int))))*(((262144:Nat):Int))))+((((((((l.getD ((a)+(1)) 0).toNat:Nat):Int))-(((128:Nat):Int))))*(((4096:Nat):Int))))))+((((((((l.getD ((a)+(2)) 0).toNat:Nat):Int))-(((128:Nat):Int))))*(((64:Nat):Int))))))) (yv:= .int .i64 ((((l.getD ((a)+(3)) 0).toNat:Nat):Int))) dj dk rfl (Fw _ ((((((((((((l.getD (a) 0).toNat:Nat):Int))-(((240:Nat):Int))))*(((262144:Nat):Int))))+((((((((l.getD ((a)+(1)) 0).toNat:Nat):Int))-(((128:Nat):Int))))*(((4096:Nat):Int))))))+((((((((l.getD ((a)+(2)) 0).toNat:Nat):Int))-(((128:Nat):Int))))*(((64:Nat):Int)))))) ((((l.getD ((a)+(3)) 0).toNat:Nat):Int)) (by omega)) ⟨Ext.refl _,rfl⟩
    ·refine Aa rfl fun σ w1 hC h=> ?_
     have dl:=Ad (h 94 (by decide))
     exact Yk.bin (xv:= .int .i64 ((((((((((((((l.getD (a) 0).toNat:Nat):Int))-(((240:Nat):Int))))*(((262144:Nat):Int))))+((((((((l.getD ((a)+(1)) 0).toNat:Nat):Int))-(((128:Nat):Int))))*(((4096:Nat):Int))))))+((((((((l.getD ((a)+(2)) 0).toNat:Nat):Int))-(((128:Nat):Int))))*(((64:Nat):Int))))))+((((l.getD ((a)+(3)) 0).toNat:Nat):Int))))) (yv:= .int .i64 (((128:Nat):Int))) dl rfl rfl (DL _ ((((((((((((((l.getD (a) 0).toNat:Nat):Int))-(((240:Nat):Int))))*(((262144:Nat):Int))))+((((((((l.getD ((a)+(1)) 0).toNat:Nat):Int))-(((128:Nat):Int))))*(((4096:Nat):Int))))))+((((((((l.getD ((a)+(2)) 0).toNat:Nat):Int))-(((128:Nat):Int))))*(((64:Nat):Int))))))+((((l.getD ((a)+(3)) 0).toNat:Nat):Int)))) (((128:Nat):Int)) (by omega)) ⟨Ext.refl _,rfl⟩
    ·refine Aa rfl fun σ w1 hC h=> ?_
     have dm:=Ad (h 95 (by decide))
     exact Yk.assign dm ⟨Ext.refl _,rfl⟩
   intro dn ex dp he hf
   obtain⟨-,-,-,-,-,-,-,-,-,-,-,-,-,-,-,-,-,-,-,-,-,-,-,-,-,-,-,-,-,k7,-⟩:=hf
   obtain⟨g,f,c,z,-⟩:=he.hold [(0,_),(1,_),(6,_),(20,_)] ⟨g,f,c,c,trivial⟩ rfl
   clear he
   have hE:=hE.trans dp
   have j:dn 7 = .int .i64 ((((((((((((((((l.getD (a) 0).toNat:Nat):Int))-(((240:Nat):Int))))*(((262144:Nat):Int))))+((((((((l.getD ((a)+(1)) 0).toNat:Nat):Int))-(((128:Nat):Int))))*(((4096:Nat):Int))))))+((((((((l.getD ((a)+(2)) 0).toNat:Nat):Int))-(((128:Nat):Int))))*(((64:Nat):Int))))))+((((l.getD ((a)+(3)) 0).toNat:Nat):Int))))-(((128:Nat):Int))):Int):=k7
   clear k7
   refine bN ?_
   exact tN (hJK19 _ _ ⟨(((((((((((((((l.getD (a) 0).toNat:Nat):Int))-(((240:Nat):Int))))*(((262144:Nat):Int))))+((((((((l.getD ((a)+(1)) 0).toNat:Nat):Int))-(((128:Nat):Int))))*(((4096:Nat):Int))))))+((((((((l.getD ((a)+(2)) 0).toNat:Nat):Int))-(((128:Nat):Int))))*(((64:Nat):Int))))))+((((l.getD ((a)+(3)) 0).toNat:Nat):Int))))-(((128:Nat):Int))),g,f,c,j,hE,by rw[show n=4 from af];rfl,trivial⟩)
  omega
 subst hbb16
 refine A6 (Aw (Aw (AM (tN (ah _ _ (sk fun ey dq=>(wt (oA rfl (oA rfl (oZ (tN (dq _ _ (Ap (Ao (fn:=Tryd.f165) _ rfl [.int .i32 ((0:Nat):Int),NI 0] (.tuple #[.int .i32 ((0:Nat):Int),NI 0]) rfl ⟨rfl,rfl,trivial⟩ ?_))))))))))))))
 exact⟨⟨0,0,rfl,by rw[if_pos rfl];exact Pc ha (fun m h1 h4 h5=>hno m h1 (by rcases PN t with h | h <;> (have:=of_decide_eq_false h;omega)) h5),by omega⟩,hE⟩

theorem Gp(w:World)(l:Bs)(hl:l.length≤1000):
  Calls Tryd.prog 150 #[St l] w fun e w' =>(∃v p,e = .returned (.tuple #[v,NI p,NI (if Cw l 0=true then 0 else 5)]))∧Ext w w' :=by
 refine calls_of_wpF (args:= [St (l)]) Tryd.func150 rfl 30 rfl (Nat.le_of_ble_eq_true rfl) ?_
 intro t hb
 have f:t 0=(St (l):Value):=hb.get 0
 clear hb
 have hE:=Ext.refl w
 refine sk fun K1 u=>(wt (oA rfl (oA rfl (oA rfl (oZ (tN (u _ _ (sk fun K2 x=>(wt (oA rfl (oZ ?_)))))))))))
 have k:OG w.heap.size 21 1 (runeC) w (Value.slice none 0 0) ([]:List Nat):=OG.nil _ _ _ _ _
 refine tN (x _ _ (sk fun K4 y=>(sk fun K5 z=>(wt (oA rfl (Be [(0,St (l)),(2,(Value.slice none 0 0)),(3,NI 0),(4,NI 0),(5,(Value.slice none 0 0)),(6,NI 0)] ⟨f,rfl,rfl,rfl,rfl,rfl,trivial⟩ fun au ⟨f,T2,T3,T4,g,c,_⟩=>(tN (z _ _ (Ax (Bc (fun(ρ:At) (wz:World)=>∃p:Nat,∃ls:List Nat,∃vb:Value,ρ 0=(St (l):Value)∧ρ 6=(NI p:Value)∧ρ 5=(vb:Value)∧Ext w wz∧OG w.heap.size 21 1 (runeC) wz vb (ls)∧(p≤l.length)∧(ls.length≤p)∧(Cw l 0=Cw l p)∧True) (fun ρ _=>l.length-(intOf (ρ 6)).toNat) ⟨0,[],(Value.slice none 0 0),f,c,g,hE,CL k (rfl),Nat.zero_le _,Nat.le_refl _,rfl,trivial⟩ ?_))))))))))
 clear k
 clear hE
 rintro aa w8 ⟨p,ls,vb,f,c,g,hE,hr_vb,hp,hls,ht,-⟩
 have q6:=c
 refine sk fun K9 ab=>(sk fun a0 ac=>(wt (oM rfl (oM rfl (oS rfl (Yk.lenSt (l:=l) Dx f (oS rfl (Yk.eqI (a:=(p:Nat)) (b:=(l.length:Nat)) c rfl (AZ _ _ _ _) (oZ (tN (ac _ _ ?_)))))))))))
 refine A2 ((p)<(l.length)) (vr (.bool (decide ((p)<(l.length)))) rfl) (fun m=> ?_) (fun m=> ?_)
 ·have hlt:p<l.length:=m
  refine Ak (tN (ab _ _ (Ax (sk fun a1 ad=>(wt (oM rfl (oM rfl (oS rfl (Yk.callA2 LX f c ((L1 _ l p hlt (by omega)).mono ?_))))))))))
  rintro e a2 ⟨⟨r,n,rfl,hd,hpn⟩,o⟩
  refine⟨_,rfl,?_⟩
  have hE:=hE.trans o
  have hr_vb:=hr_vb.keep o
  refine oM rfl (oS rfl (Yk.extract (vs:= [.int .i32 ((r:Nat):Int),NI n]) (vr (.tuple #[.int .i32 ((r:Nat):Int),NI n]) rfl) (show _=some (.int .i32 ((r:Nat):Int):Value)from rfl) (oS rfl (Yk.extract (vs:= [.int .i32 ((r:Nat):Int),NI n]) (vr (.tuple #[.int .i32 ((r:Nat):Int),NI n]) rfl) (show _=some (NI n:Value)from rfl) (oA rfl (oA rfl (oZ (tN (ad _ _ (sk fun a3 ae=>(sk fun a4 af=>(wt (oM rfl (oS rfl (Yk.eqI (a:=(n:Nat)) (b:=(0:Nat)) rfl rfl (k_eql _ _ _ _) (oZ (tN (af _ _ ?_))))))))))))))))))
  refine A2 ((n:Nat)=(0)) (vr (.bool (decide ((n:Nat)=(0)))) rfl) (fun h=> ?_) (fun h=> ?_)
  ·refine sk fun a5 ag=>(wt (oM rfl (oA rfl (oA rfl (oA rfl (oZ (tN (ag _ _ (Ap (As (AC (As (AC (As (Ao (fn:=Tryd.f150) _ rfl [(Value.slice none 0 0),NI p,NI 5] (.tuple #[(Value.slice none 0 0),NI p,NI 5]) rfl ⟨rfl,c,rfl,trivial⟩ ?_)))))))))))))))
   exact⟨⟨_,_,by rw[ht,Ix hlt (by rw[hd,if_pos h])];rfl⟩,hE⟩
  refine Ak (tN (ae _ _ (sk fun a6 ah=>(wt (oM rfl (oM rfl (oS rfl (Yk.lit1S (a:=r) (enc:=runeC) (vr (.int .i32 ((r:Nat):Int)) rfl) rfl (fun w=>LY _ w) fun ai aj q s=> ?_))))))))
  have hE:=hE.trans s
  have hr_vb:=hr_vb.keep s
  refine oS rfl (Yk.appendRG _ _ w.heap.size _ 4 H4 wr25_ig21.choose_spec.1 wr25_ig21.choose_spec.2 H4 (ls) ([r]) (OG.of hr_vb g) (RG.of q (vr ai rfl)) (fun _ _=>Of _) (by simp only[List.length_cons,List.length_nil];omega) (by simp only[List.length_cons,List.length_nil];omega) hE.size fun i ak al j=> ?_)
  have j:Grew aj ak vb i:= .eqv g j
  have hE:=BG hE j hr_vb.2 (Nat.le_refl _)
  clear hr_vb
  clear q
  refine oA rfl (oZ (tN (ah _ _ (wt (oM rfl (oM rfl (oS rfl (Yk.bin (xv:=NI p) (yv:=NI n) c rfl rfl (AN _ _ _ (by omega)) (oA rfl (Be [(0,St (l)),(5,i),(6,NI ((p)+(n))),(7, .int .i32 ((r:Nat):Int)),(8,NI n)] ⟨f,rfl,rfl,rfl,rfl,trivial⟩ fun am ⟨f,g,c,T7,T8,_⟩=>(bN (tN (And.intro ⟨p+n,(ls)++ [r],i,f,c,g,hE,CL al (rfl),hpn,by rw[List.length_append,List.length_singleton];omega,ht.trans (Iy hlt (by rw[hd,if_neg h])),trivial⟩ ?_)))))))))))))
  show l.length-(intOf (am 6)).toNat<l.length-(intOf (aa 6)).toNat
  rw[c,q6]
  simp only[intOf,Int.toNat_natCast];omega
 refine A6 (Aw (Aw (AM (tN (y _ _ (sk fun a9 an=>(wt (oM rfl (oA rfl (oA rfl (oA rfl (oZ (tN (an _ _ (Ap (Ao (fn:=Tryd.f150) _ rfl [vb,NI 0,NI 0] (.tuple #[vb,NI 0,NI 0]) rfl ⟨g,rfl,rfl,trivial⟩ ?_))))))))))))))))
 exact⟨⟨_,_,by rw[ht,Jv (show ¬p<l.length by omega)];rfl⟩,hE⟩

theorem M7(w:World)(l:Bs)(hl:l.length≤1000):
  Calls Tryd.prog 125 #[St l] w fun e w' =>e = .returned (.bool (Cw l 0))∧Ext w w' :=by
 refine calls_of_wpF (args:= [St (l)]) Tryd.func125 rfl 14 rfl (Nat.le_of_ble_eq_true rfl) ?_
 intro j hb
 have g:j 0=(St (l):Value):=hb.get 0
 clear hb
 have hE:=Ext.refl w
 refine sk fun s i=>(wt (oA rfl (oZ ?_)))
 rcases hT:Cw l 0 with _ | _
 ·refine tN (i _ _ (sk fun t k=>(wt (oM rfl (oS rfl (Yk.callA1 H5 g (((show Calls _ _ _ _ (fun e f=>(∃v p,e = .returned (.tuple #[v,NI p,NI 5]))∧Ext w f)from by have h:=Gp w l hl;rw[hT]at h;exact h)).mono ?_)))))))
  rintro e u ⟨⟨c,p0,rfl⟩,m⟩
  refine⟨_,rfl,?_⟩
  have hE:=hE.trans m
  refine oM rfl (oS rfl (Yk.extract (vs:= [c,NI p0,NI 5]) (vr (.tuple #[c,NI p0,NI 5]) rfl) (show _=some (c:Value)from rfl) (oS rfl (Yk.extract (vs:= [c,NI p0,NI 5]) (vr (.tuple #[c,NI p0,NI 5]) rfl) (show _=some (NI p0:Value)from rfl) (oS rfl (Yk.extract (vs:= [c,NI p0,NI 5]) (vr (.tuple #[c,NI p0,NI 5]) rfl) (show _=some (NI 5:Value)from rfl) (oA rfl (oA rfl (oA rfl (oZ (tN (k _ _ (sk fun x n=>(wt (oM rfl (oS rfl (Yk.eqI (a:=(5:Nat)) (b:=(0:Nat)) rfl rfl (k_eql _ _ _ _) (oA rfl (oZ (tN (n _ _ ?_)))))))))))))))))))))
  refine Ap (Ao (fn:=Tryd.f125) _ rfl [.bool (false)] (.bool (false)) rfl ⟨(congrArg Value.bool (decide_eq_false (by decide))),trivial⟩ ?_)
  exact⟨by rw[hT],hE⟩
 refine tN (i _ _ (sk fun y o=>(wt (oM rfl (oS rfl (Yk.callA1 H5 g (((show Calls _ _ _ _ (fun e f=>(∃v p,e = .returned (.tuple #[v,NI p,NI 0]))∧Ext w f)from by have h:=Gp w l hl;rw[hT]at h;exact h)).mono ?_)))))))
 rintro e z ⟨⟨c,p0,rfl⟩,q⟩
 refine⟨_,rfl,?_⟩
 have hE:=hE.trans q
 refine oM rfl (oS rfl (Yk.extract (vs:= [c,NI p0,NI 0]) (vr (.tuple #[c,NI p0,NI 0]) rfl) (show _=some (c:Value)from rfl) (oS rfl (Yk.extract (vs:= [c,NI p0,NI 0]) (vr (.tuple #[c,NI p0,NI 0]) rfl) (show _=some (NI p0:Value)from rfl) (oS rfl (Yk.extract (vs:= [c,NI p0,NI 0]) (vr (.tuple #[c,NI p0,NI 0]) rfl) (show _=some (NI 0:Value)from rfl) (oA rfl (oA rfl (oA rfl (oZ (tN (o _ _ (sk fun K9 r=>(wt (oM rfl (oS rfl (Yk.eqI (a:=(0:Nat)) (b:=(0:Nat)) rfl rfl (k_eql _ _ _ _) (oA rfl (oZ (tN (r _ _ ?_)))))))))))))))))))))
 refine Ap (Ao (fn:=Tryd.f125) _ rfl [.bool (true)] (.bool (true)) rfl ⟨(congrArg Value.bool (decide_eq_true (by decide))),trivial⟩ ?_)
 exact⟨by rw[hT],hE⟩

theorem KG(w:World)(l:Bs):
  Calls Tryd.prog 78 #[St l] w fun e w' =>e = .returned (.bool (Dt l))∧Ext w w' :=by
 refine calls_of_wpF (args:= [St (l)]) Tryd.func78 rfl 10 rfl (Nat.le_of_ble_eq_true rfl) ?_
 intro f hb
 have c:f 0=(St (l):Value):=hb.get 0
 clear hb
 have hE:=Ext.refl w
 refine sk fun j g=>(wt (oA rfl (oZ (tN (g _ _ (sk fun k h=>(wt (oM rfl (oS rfl (Yk.lenSt (l:=l) Dx c (oS rfl (Yk.eqI (a:=(l.length:Nat)) (b:=(256:Nat)) rfl rfl (Cl _ _ _ _) (oM rfl (Ab (St (l)) rfl rfl (gT (vr (.bool (decide ((l.length)≤(256)))) rfl)) (fun hG3=>Yk.move c ⟨rfl,rfl⟩) (AP (.bool (Cw l 0)) rfl rfl (gT (vr (.bool (decide ((l.length)≤(256)))) rfl)) (fun hG4=>Yk.callA1 LZ (mayT (vr (cond ((decide ((l.length)≤(256)))) (St (l)) undef) rfl) hG4) ((M7 _ l (by simp only[gA,gB,gC,gD,gE]at hG4;omega)).mono (by rintro e m ⟨rfl,hx⟩;exact⟨_,rfl,rfl,hx⟩))) fun n i=> ?_)))))))))))))))
 have hE:=hE.trans i
 refine oS rfl (Yk.pickAndN (vr (.bool (decide ((l.length)≤(256)))) rfl) (fun hA=>(mayT (vr (cond ((decide ((l.length)≤(256)))) (.bool (Cw l 0)) undef) rfl) hA)) (vr (.bool (false)) rfl) fun bb8 hbb9=>(oA rfl (oZ (tN (h _ _ (Ap (Ao (fn:=Tryd.f78) _ rfl [.bool (bb8)] (.bool (bb8)) rfl ⟨rfl,trivial⟩ ?_)))))))
 subst hbb9
 exact⟨rfl,hE⟩
open Go.RowKit
def PO(f:Field)(x:Nat × Nat):Bool:=f.name != "_" && (f.type==x.1&&f.offset==x.2)
def H6:List Field→List (Nat × Nat)→Bool
  | [],[]=>true
  | f :: fs,x :: r=>PO f x&&H6 fs r
  | _,_=>false
section
variable {P : Program} {w : World} {d : Nat} {xs ys : Array Value}
theorem Pe{fs:List Field}(h:H6 fs []=true):(Op.eqFields d xs ys fs).run P w = .ok true w:=by
  cases fs with
  | nil=>simp[Op.eqFields,Sem.run_pure]
  | cons f fs=>cases h
theorem FL{fs:List Field}{t o:Nat}{r:List (Nat × Nat)}{a b:Value}{q q2:Bool}(h:H6 fs ((t,o) :: r)=true)(ha:(part t xs o).run P w = .ok a w)(hb:(part t ys o).run P w = .ok b w)(he:(Op.equalIn d t a b).run P w = .ok q w) 
    (hr:∀fs',H6 fs' r=true→(Op.eqFields d xs ys fs').run P w = .ok q2 w):(Op.eqFields d xs ys fs).run P w = .ok (q&&q2) w:=by
  cases fs with
  | nil=>cases h
  | cons f fs=>
    simp only[H6,PO,Bool.and_eq_true,bne_iff_ne,beq_iff_eq]at h
    obtain⟨⟨hn,ht,ho⟩,h2⟩:=h
    have hr:=hr fs h2
    simp only[Op.eqFields,if_pos hn,Sem.run_bind,ht,ho,ha,hb,he,Result.andThen_ok]
    cases q
    · simp[Sem.run_pure]
    · simpa using hr
theorem FM{t o:Nat}{cs:List Value}{v:Value}(h:(isAgg t).run P w = .ok false w)(hv:cs[o]? =some v):(part t cs.toArray o).run P w = .ok v w:=by
  unfold part
  rw[Sem.run_bind,h]
  simp[hv,Sem.run_pure]
theorem GI{t o:Nat}{cs a z:List Value}{l:List UInt8}(h:(isAgg t).run P w = .ok true w)(hs:(sizeOf t).run P w = .ok 32 w)(hc:cs=a++Lib.byteCells l++z)(ha:a.length=o)(hl:l.length=32):(part t cs.toArray o).run P w = .ok (.agg (Lib.byteCells l).toArray) w:=by
  unfold part
  have e:(cs.drop o).take 32=Lib.byteCells l:=by
    rw[hc,List.append_assoc,←ha,List.drop_left,List.take_left' (by rw[Lib.byteCells_length,hl])]
  rw[Sem.run_bind,h]
  simp[hs,e]
theorem PP{t:Nat}{a b:UInt8}(h:P.underlying t=some (.int .u8)):(Op.equalIn (d+1) t (B8 a) (B8 b)).run P w = .ok (decide (a=b)) w:=by
  rw[run_equalIn_int w d t .u8 .u8 _ _ h,byte_eq]
theorem Pf{t:Nat}{a b:Bs}(h:P.underlying t=some .string):(Op.equalIn (d+1) t (St a) (St b)).run P w = .ok (decide (a=b)) w:=by
  have e:=run_equalIn_string (P:=P) w d t ⟨a.toArray⟩ ⟨b.toArray⟩ h
  rw[Ev,Ev]at e
  refine e.trans ?_
  congr 1
  rw[Bool.eq_iff_iff]
  simp
theorem M8{t e:Nat}{a b:BZ}(ht:P.underlying t=some (.array 32 e))(he:P.underlying e=some (.int .u8))(hs:(sizeOf e).run P w = .ok 1 w):(Op.equalIn (d+1+1) t (.agg (Lib.byteCells a.1).toArray) (.agg (Lib.byteCells b.1).toArray)).run P w = .ok (decide (a=b)) w:=by
  rw[run_eqArray w ht he hs a.1 b.1 a.2 b.2]
  congr 1
  exact decide_eq_decide.2 ⟨fun h=>Subtype.ext h,fun h=>by rw[h]⟩
end
section
variable {P : Program} {K : Value → World → Prop} {ρ : At} {w : World} {d : Option Tmp} {ty : TypeId} {pos : String} {af : Array Edge} {gd : Option (Nat × Bool)}
theorem Yk.neStr{t ty2:TypeId}{x y:Operand}{cx cy:Array Value}{b:Bool}(hg:P.eqGuardType P.depth t=false)(hx:Ai ρ x = .agg cx)(hy:Ai ρ y = .agg cy)(h:(Op.equalIn 10000 t (.agg cx) (.agg cy)).run P w = .ok b w)(hk:K (.bool (!b)) w):Yk P K ((execOp (Ai ρ) ⟨d, .binOp .neq t x y ty2,ty,pos,af,gd⟩).run P w):=by
  refine Yk.value (v:= .bool (!b)) (w' :=w) ?_ hk
  unfold execOp
  simp only[hx,hy,Sem.run_bind,run_eqGuard_agg w .neq t x y cx cy hg,Result.andThen_ok,run_neq_struct,h]
  rfl
end
open Go.RowKit
set_option maxRecDepth 100000
theorem M9:AG Tryd.prog 100:=fun _ _=>by kernel_rfl
theorem Og:AG Tryd.prog 48:=fun _ _=>by kernel_rfl
theorem IQ:(Tryd.prog.info? 26).map (·.size)=some 1:=by kernel_rfl
theorem Oh:Tryd.prog.underlying 89=some (.func #[3] #[] false):=by kernel_rfl
theorem Oi:AG Tryd.prog 47:=fun _ _=>by kernel_rfl
set_option maxHeartbeats 1600000
theorem D9(w:World)(v:Value)(l:Bs)(hr:RB w v l)(hl:l.length+64≤140737488355328)(id:BZ):
  Calls Tryd.prog 51 #[v,AB id.1] w fun e w' =>∃v',e = .returned v' ∧NewB 5 w w' v' (l++id.1):=by
 refine calls_of_wpF (args:= [v,AB id.1]) Tryd.func51 rfl 9 rfl (Nat.le_of_ble_eq_true rfl) ?_
 intro m hb
 have q:m 0=(v:Value):=hb.get 0
 have r:m 1=(AB id.1:Value):=hb.get 1
 clear hb
 have hE:=Ext.refl w
 refine sk fun K1 s=>(wt (oS rfl (Yk.box (cs:=(Lib.byteCells id.1:List Value).toArray) r fun b c ac n t ad=> ?_)))
 have hE:=hE.trans t
 have a:=n;clear n
 have ae:b<c.heap.size:=by omega
 refine oA rfl (oZ (tN (s _ _ (sk fun af u=> ?_))))
 have o:Ext c (World.drew c):=(Below.refl _ _).drew
 have hE:=hE.trans o
 have a:=eb o a
 refine D8 [(2,7, .slice (some ⟨b,0,none⟩) 32 32)] [0,1,3,4] (fun wz=>Ext w wz∧wz.heap[b]? =some (.cells (Lib.byteCells id.1).toArray 25 (0,0))∧True) (by kernel_rfl) (by kernel_rfl) (by kernel_rfl) ⟨hE,a,trivial⟩ ⟨fun ag ⟨hE,a,_⟩=>Yk.sliceArr OA Lm (vr (PQ b 0) rfl) ⟨rfl,rfl⟩,trivial⟩ (Bm rfl (Yk.move q ?_))
 refine⟨.inr ⟨hE,a,trivial⟩,?_⟩
 refine Bm rfl (Yk.callA1 M9 (vr v rfl) ((If _ v (l) (hr.keep hE) (by omega)).mono ?_))
 rintro e x ⟨k,rfl,f⟩
 refine⟨_,rfl,?_⟩
 have h:=Ext.refl (World.drew c)
 have ah:=hE
 have y:w.heap.size≤(World.drew c).heap.size:=hE.size
 have p:OB k b:=Bj f.own (bl a)
 have hE:=hE.trans f.ext
 have a:=eb f.ext a
 have h:=h.trans f.ext
 have j:=f.own;clear f
 refine⟨.inr ⟨hE,a,trivial⟩,?_⟩
 refine Bm rfl (Yk.appendRB _ _ (World.drew c).heap.size (.int .u8 0) Ff Lf rfl Ff (l) (id.1) (F4 j (vr k rfl)) (RB.of (RB.ofBlkN a id.2 (by decide)) (vr (.slice (some ⟨b,0,none⟩) 32 32) rfl)) (by rw[id.2];omega) h.size fun i z aa g=> ?_)
 have g:Grew x z k i:=g
 have ai:OB i b:=AV g p (bl a)
 have hE:=BG hE g j y
 have a:=AR a g p
 have h:=BG h g j (Nat.le_refl _)
 clear j
 refine⟨.inr ⟨hE,a,trivial⟩,?_⟩
 refine Bm rfl (Yk.assign (vr i rfl) ?_)
 refine⟨.inl rfl,?_⟩
 refine Ft (tN (u _ _ (Ap (Ao (fn:=Tryd.f51) _ rfl [i] (i) rfl ⟨rfl,trivial⟩ ?_))))
 exact⟨_,rfl,⟨AL aa (by omega),hE.grown⟩⟩

theorem B0(w0 w:World)(c:Ext w0 w)(gb:Nat)(hgb:w0.heap.size≤gb)(vb:Value)(l:Bs)(hb:w.heap[gb]? =some (.cells ([vb]).toArray 26 (0,0)))(hr:RB w vb l)(hl:l.length+64≤140737488355328)(z:Int)(o:0≤z)(t:z≤9223372036854775807):
  Calls Tryd.prog 47 #[.int .i64 z,PQ gb 0] w fun e w' =>∃v',e = .returned (.tuple #[])∧w'.heap[gb]? =some (.cells ([v']).toArray 26 (0,0))∧w'.ownsRow w.heap.size 5 1 v' (l++Lib.uvarint z.toNat).length (Lib.byteCells (l++Lib.uvarint z.toNat))∧w.grownBy w' (some gb):=by
 obtain⟨n,rfl⟩:=Int.eq_ofNat_of_zero_le o
 have hgl:=(bl hb)
 have hgr:=World.grownBy.refl w (some gb)
 refine calls_of_wpF (args:= [NI n,PQ gb 0]) Tryd.func47 rfl 9 rfl (Nat.le_of_ble_eq_true rfl) ?_
 intro j hb
 have p:j 0=(NI n:Value):=hb.get 0
 have k:j 1=(PQ gb 0:Value):=hb.get 1
 clear hb
 have hE:=Ext.refl w
 refine wt (oS rfl (Yk.cell1 Ff rfl k (Ac hb (show _=some (vb:Value)from rfl)) (oM rfl (oS rfl (Yk.callA2 Og (vr vb rfl) p ((OU _ vb (l) (hr.keep hE) (by omega) n (by omega)).mono ?_))))))
 rintro e q ⟨a,rfl,b⟩
 refine⟨_,rfl,?_⟩
 have g:=Ext.refl w
 have u:=hE
 have x:=c
 have y:=hE.size
 have aa:=c.size
 have r:OB a gb:=Bj b.own (bl hb)
 have hb:=eb b.ext hb
 have hgr:w.grownBy q (some gb):=An hgr b.ext.grown (fun _ e=>by cases e)
 have hE:=hE.trans b.ext
 have c:=c.trans b.ext
 have g:=g.trans b.ext
 have f:=b.own;clear b
 refine oM rfl (oS rfl (Yk.extract (vs:= [a,NI 0]) (vr (.tuple #[a,NI 0]) rfl) (show _=some (a:Value)from rfl) (oS rfl (Yk.extract (vs:= [a,NI 0]) (vr (.tuple #[a,NI 0]) rfl) (show _=some (NI 0:Value)from rfl) (oS rfl (Yk.storeC (i:=0) (v:=a) k (vr a rfl) hb (Nat.le_of_ble_eq_true rfl) IQ (AY f).1 (AY f).2 fun s m h ab=> ?_))))))
 clear hb
 have hgr:w.grownBy s (some gb):=An hgr h (fun _ e=> .inl e)
 clear hE
 have c:=Ae c h (Nat.le_trans (Nat.le_refl _) (by omega))
 clear g
 have f:=AS f h r
 have hb:=m;clear m
 have ac:=bl hb
 refine oZ (F3 (fn:=Tryd.f47) [] rfl [] (.tuple #[]) rfl trivial ?_)
 exact⟨_,rfl,hb,AL f (by omega),hgr⟩

theorem enc2_any(w0 w:World)(c:Ext w0 w)(gb gn:Nat)(hgb:w0.heap.size≤gb)(hgn:w0.heap.size≤gn)(hne:gn≠gb)(vb:Value)(l:Bs)(hb:w.heap[gb]? =some (.cells ([vb]).toArray 26 (0,0)))(hr:RB w vb l)(hn:w.heap[gn]? =some (.cells ([.func (.func 47) #[] #[PQ gb 0]]).toArray 89 (0,0)))(v:Value)(ids:List Bs)(hq:RG 32 Lib.byteCells w0 v ids)(hil:ids.length≤65536)(hl:l.length≤34359738368):
  Calls Tryd.prog 49 #[v,PQ gn 0,PQ gb 0] w fun e w' =>∃v',e = .returned (.tuple #[])∧w'.heap[gb]? =some (.cells ([v']).toArray 26 (0,0))∧w'.ownsRow w.heap.size 5 1 v' (l++CY ids).length (Lib.byteCells (l++CY ids))∧OB v' gb∧w.grownBy w' (some gb):=by
 have hgl:=(bl hb)
 have hgnl:=(bl hn)
 have huv:=Cj (n:=ids.length) (by omega)
 have hsz0:=c.size
 have hgr:=World.grownBy.refl w (some gb)
 refine calls_of_wpF (args:= [v,PQ gn 0,PQ gb 0]) Tryd.func49 rfl 20 rfl (Nat.le_of_ble_eq_true rfl) ?_
 intro af hb
 have j:af 0=(v:Value):=hb.get 0
 have p:af 1=(PQ gn 0:Value):=hb.get 1
 have k:af 2=(PQ gb 0:Value):=hb.get 2
 clear hb
 have hE:=Ext.refl w
 refine sk fun K1 ax=>(wt (oS rfl (Yk.cell1 Oh rfl p (Ac hn (show _=some (.func (.func 47) #[] #[PQ gb 0]:Value)from rfl)) (oM rfl (oS rfl (Yk.lenRG BT (RG.of (hq.keep c) j) (oS rfl (Yk.clo Oi (caps:= #[PQ gb 0]) (vr (.func (.func 47) #[] #[PQ gb 0]) rfl) #[NI ids.length,PQ gb 0] (by simp only[List.map_toArray,List.map_cons,List.map_nil,List.append_toArray,List.cons_append,List.nil_append];exact congrArg List.toArray (BO (vr (NI ids.length) rfl) rfl)) ((B0 w0 _ c gb hgb vb (l) hb (hr.keep hE) (by simp only[List.length_append]at *;omega) ((ids.length:Nat):Int) (by omega) (by omega)).mono ?_)))))))))
 rintro e w6 ⟨v2,rfl,aj,r,ah⟩
 refine⟨_,rfl,?_⟩
 have az:OB v2 gb:=Bj r (bl hb)
 have a0:OB v2 gn:=Bj r (bl hn)
 have r:=AL r hgr.size
 clear hb
 have hgr:w.grownBy w6 (some gb):=An hgr ah (fun _ e=> .inl e)
 have hn:=kb ah hn (by omega)
 clear hE
 have c:=Ae c ah (Nat.le_trans (Nat.le_refl _) (by omega))
 have hb:=aj;clear aj
 have bd:=bl hb
 refine oZ (tN (ax _ _ (sk fun be a1=>(wt (oM rfl (oS rfl (Yk.lenRG BT (RG.of (hq.keep c) j) (oM rfl (Be [(0,v),(1,PQ gn 0),(2,PQ gb 0),(10,v),(11,NI ids.length),(12,NI 0)] ⟨j,p,k,j,rfl,rfl,trivial⟩ fun bf ⟨j,p,k,s,t,m,_⟩=>(tN (a1 _ _ (Ax (Bc (fun(ρ:At) (wz:World)=>∃i:Nat,∃vb1:Value,ρ 0=(v:Value)∧ρ 1=(PQ gn 0:Value)∧ρ 2=(PQ gb 0:Value)∧ρ 10=(v:Value)∧ρ 11=(NI ids.length:Value)∧ρ 12=(NI i:Value)∧w.grownBy wz (some gb)∧wz.heap[gn]? =some (.cells ([.func (.func 47) #[] #[PQ gb 0]]).toArray 89 (0,0))∧Ext w0 wz∧wz.heap[gb]? =some (.cells ([vb1]).toArray 26 (0,0))∧wz.ownsRow w.heap.size 5 1 vb1 (l++Lib.uvarint ids.length++(ids.take i).flatMap fun x=>x:List UInt8).length (Lib.byteCells (l++Lib.uvarint ids.length++(ids.take i).flatMap fun x=>x))∧(i≤ids.length)∧(OB vb1 gb)∧(OB vb1 gn)∧True) (fun ρ _=>ids.length-(intOf (ρ 12)).toNat) ⟨0,v2,j,p,k,s,t,m,hgr,hn,c,hb,DG r (by simp),Nat.zero_le _,az,a0,trivial⟩ ?_)))))))))))))
 clear hb
 clear r
 clear hgr hn c
 rintro a2 bg ⟨i,vb1,j,p,k,s,t,m,hgr,hn,c,f,g,hi,ai,ak,-⟩
 have q12:=m
 have hgl:=(bl f)
 refine sk fun bh a3=>(wt (oS rfl (Yk.eqI (a:=(i:Nat)) (b:=(ids.length:Nat)) m t (AZ _ _ _ _) (oZ (tN (a3 _ _ (sk fun bi a4=> ?_)))))))
 refine A2 ((i)<(ids.length)) (vr (.bool (decide ((i)<(ids.length)))) rfl) (fun al=> ?_) (fun al=> ?_)
 ·have hlt:i<ids.length:=al
  have hel:(ids.getD i []).length=32:=Bp (RG.elem (hq.keep c) [] hlt)
  have hLl:=Jf (RG.lens hq) i (by omega)
  refine Ak (tN (a4 _ _ (sk fun bj a5=>(Ax (sk fun bk a6=>(wt ?_))))))
  have ad:(Lib.byteCells (ids.getD (i) ([]:List UInt8))).length=32:=(RG.elem (hq.keep c) ([]:List UInt8) (by omega))
  refine oS rfl (Yk.atRG BT CV (by decide) ([]:List UInt8) (RG.of (hq.keep c) s) m (by omega) fun a7 am=>(oS rfl (Yk.loadPR (PR.of am (vr a7 rfl)) OA rfl (by rw[ad];exact Mx) (oS rfl (Yk.alloc (cs:=(Lib.byteCells (List.replicate 32 0)).toArray) G8 fun q an ao ap z bm=> ?_)))))
  have bn:=hgr.size
  have a8:=c.size
  have bo:=Bn (bl hn) ao
  have bp:=Bn (bl f) ao
  have aq:OB vb1 q:=AW g (by omega)
  have hgr:w.grownBy an (some gb):=An hgr z.grown (fun _ e=>by cases e)
  have hn:=eb z hn
  have c:=c.trans z
  have f:=eb z f
  have g:=Stab.own _ _ _ _ _ _ _ _ g z
  have h:=ap;clear ap
  have bq:q<an.heap.size:=by omega
  refine oS rfl (Yk.storeAll (vr (PQ q 0) rfl) (vr (AB (ids.getD (i) ([]:List UInt8))) rfl) h (by exact EJ (Bp (ad)) List.length_replicate) (by exact AH (Bp (ad))) (AI _) fun aa ar ab br=> ?_)
  have hgr:w.grownBy aa (some gb):=An hgr ab (fun _ e=> .inr (by cases e;omega))
  have hn:=kb ab hn (by omega)
  have c:=Ae c ab (Nat.le_trans a8 (by omega))
  have f:=kb ab f (by omega)
  have g:=AS g ab aq
  clear h
  have h:=ar;clear ar
  have bs:=bl h
  refine oZ ?_
  clear am
  refine tN (a6 _ _ ?_)
  have u:Ext aa (World.drew aa):=(Below.refl _ _).drew
  have hgr:w.grownBy (World.drew aa) (some gb):=An hgr u.grown (fun _ e=>by cases e)
  have hn:=eb u hn
  have c:=c.trans u
  have f:=eb u f
  have g:=Stab.own _ _ _ _ _ _ _ _ g u
  have h:=eb u h
  refine D8 [(1,17, .slice (some ⟨q,0,none⟩) 32 32)] [0,2,3] (fun wz=>wz.heap[gn]? =some (.cells ([.func (.func 47) #[] #[PQ gb 0]]).toArray 89 (0,0))∧Ext w0 wz∧wz.heap[gb]? =some (.cells ([vb1]).toArray 26 (0,0))∧wz.heap[q]? =some (.cells (Lib.byteCells (ids.getD (i) ([]:List UInt8))).toArray 25 (0,0))∧True) (by kernel_rfl) (by kernel_rfl) (by kernel_rfl) ⟨hn,c,f,h,trivial⟩ ⟨fun bt ⟨hn,c,f,h,_⟩=>Yk.sliceArr OA Lm (vr (PQ q 0) rfl) ⟨rfl,rfl⟩,trivial⟩ (Bm rfl (Yk.cell1 Ff rfl k (Ac f (show _=some (vb1:Value)from rfl)) ?_))
  refine⟨.inr ⟨hn,c,f,h,trivial⟩,?_⟩
  refine Bm rfl (Yk.appendRB _ _ w.heap.size (.int .u8 0) Ff Lf rfl Ff (l++Lib.uvarint ids.length++(ids.take i).flatMap fun x=>x) (ids.getD (i) ([]:List UInt8)) (F4 g (vr vb1 rfl)) (RB.of (RB.ofBlkN h (Bp (ad)) (by decide)) (vr (.slice (some ⟨q,0,none⟩) 32 32) rfl)) (by simp only[List.length_append,hel];omega) hgr.size fun y au ac o=> ?_)
  have o:Grew (World.drew aa) au vb1 y:=o
  have av:OB y gb:=AV o ai (bl f)
  have a9:OB y gn:=AV o ak (bl hn)
  have hgr:w.grownBy au (some gb):=An hgr o.by_ (fun _ e=> .inr (g.lt _ e).1)
  have hn:=AR hn o ak
  have c:=BG c o g hsz0
  have f:=AR f o ai
  clear g
  have h:=AR h o aq
  refine⟨.inr ⟨hn,c,f,h,trivial⟩,?_⟩
  refine Bm rfl (Yk.storeC (i:=0) (v:=y) k (vr y rfl) f (Nat.le_of_ble_eq_true rfl) IQ (AY ac).1 (AY ac).2 fun ba aw ae bu=> ?_)
  have hgr:w.grownBy ba (some gb):=An hgr ae (fun _ e=> .inl e)
  have hn:=kb ae hn (by omega)
  have c:=Ae c ae (Nat.le_trans (Nat.le_refl _) (by omega))
  clear f
  have ac:=AS ac ae av
  have f:=aw;clear aw
  have bv:=bl f
  refine⟨.inl rfl,?_⟩
  refine Ft (bN (tN (a5 _ _ (wt (oS rfl (Yk.bin (xv:=NI i) (yv:=NI 1) m rfl rfl (AN _ _ _ (by omega)) (oM rfl (Be [(0,v),(1,PQ gn 0),(2,PQ gb 0),(5,PQ q 0),(10,v),(11,NI ids.length),(12,NI ((i)+(1)))] ⟨j,p,k,rfl,s,t,rfl,trivial⟩ fun bb ⟨j,p,k,T5,s,t,m,_⟩=>(tN (And.intro ⟨i+1,y,j,p,k,s,t,m,hgr,hn,c,f,DG ac (by rw[MT hlt];simp only[List.append_assoc]),by omega,av,a9,trivial⟩ ?_))))))))))
  show ids.length-(intOf (bb 12)).toNat<ids.length-(intOf (a2 12)).toNat
  rw[m,q12]
  simp only[intOf,Int.toNat_natCast];omega
 refine A6 (Aw (Aw (AM (F3 (fn:=Tryd.f49) [] rfl [] (.tuple #[]) rfl trivial ?_))))
 refine⟨_,rfl,f,?_,ai,hgr⟩
 have hie:i=ids.length:=by omega
 rw[hie,List.take_length]at g
 exact DG g (by unfold CY;simp only[List.append_assoc])
open Go.RowKit
set_option maxRecDepth 100000
theorem Hg{s:Bs}(h:s.length≤4611686018427387904):(Bz s).length≤s.length+9:=by
 have:=Cj (n:=s.length) (by omega)
 unfold Bz;rw[List.length_append];omega
theorem Oj:AG Tryd.prog 19:=fun _ _=>by kernel_rfl
theorem Dd{d:Option Tmp}{ty:TypeId}{pos:String}{af:Array Edge}{gd:Option (Nat × Bool)}(σ:Operand→Value)(w:World):(execOp σ ⟨d, .alloc 26,ty,pos,af,gd⟩).run Tryd.prog w = .ok (.value (PQ w.heap.size 0)) (w.alloc (.cells ([(Value.slice none 0 0)]).toArray 26)):=by kernel_rfl
theorem De{d:Option Tmp}{ty:TypeId}{pos:String}{af:Array Edge}{gd:Option (Nat × Bool)}(σ:Operand→Value)(w:World):(execOp σ ⟨d, .alloc 89,ty,pos,af,gd⟩).run Tryd.prog w = .ok (.value (PQ w.heap.size 0)) (w.alloc (.cells ([Value.nilFunc]).toArray 89)):=by kernel_rfl
theorem wr6_isz89:(Tryd.prog.info? 89).map (·.size)=some 1:=by kernel_rfl
theorem Hh:AG Tryd.prog 52:=fun _ _=>by kernel_rfl
theorem ER:AG Tryd.prog 51:=fun _ _=>by kernel_rfl
theorem JX:AG Tryd.prog 49:=fun _ _=>by kernel_rfl
set_option maxHeartbeats 3200000
theorem L2(w:World)(x:Am)(hm:MsgAt w x)(hL:CX x.1):
  Calls Tryd.prog 16 #[.agg (msgC x).toArray] w fun e w' =>∃v,e = .returned (.tuple #[v,NI (if rightB x.1=true then 0 else 1)])∧RB w' v (if rightB x.1=true then BM x.1 else [])∧Ext w w' :=by
 have hmr:=hm.refs
 have hmw:=hm.wants
 have hmh:=hm.haves
 have hmb:=hm.bytes
 refine calls_of_wpF (args:= [.agg (msgC x).toArray]) Tryd.func16 rfl 113 rfl (Nat.le_of_ble_eq_true rfl) ?_
 intro lt hb
 have T0:lt 0=(.agg (msgC x).toArray:Value):=hb.get 0
 clear hb
 have hE:=Ext.refl w
 refine sk fun K1 lu=>(wt (oS rfl (Yk.box (cs:=(msgC x:List Value).toArray) T0 fun j w3 wm iv lw wn=> ?_)))
 have hE:=hE.trans lw
 have c:=iv;clear iv
 have wo:j<w3.heap.size:=by omega
 refine oA rfl (oA rfl (oZ (tN (lu _ _ (sk fun wp c8=>(sk fun wq lx=>(wt (oS rfl (Yk.loadAll (vr (PQ j 0) rfl) c (N6).choose_spec rfl (AF (Az x) MQ) (oS rfl (Yk.callA1 Oj (vr (.agg (msgC x).toArray) rfl) ((CC _ x (MsgAt.mk (hmr.keep hE) (hmw.keep hE) (hmh.keep hE) (hmb.keep hE)) hL).mono ?_))))))))))))
 rintro e c9 ⟨rfl,iw⟩
 refine⟨_,rfl,?_⟩
 have hE:=hE.trans iw
 have c:=eb iw c
 refine oS rfl (Yk.notB (vr (.bool (rightB x.1)) rfl) (oZ (tN (lx _ _ ?_))))
 refine A0 (!(rightB x.1)) (vr (.bool (!(rightB x.1))) rfl) (fun ho=> ?_) (fun ho=> ?_)
 ·refine sk fun wr ly=>(wt (oA rfl (oA rfl (oZ (tN (ly _ _ (Ap (As (Ao (fn:=Tryd.f16) _ rfl [(Value.slice none 0 0),NI 1] (.tuple #[(Value.slice none 0 0),NI 1]) rfl ⟨rfl,rfl,trivial⟩ ?_)))))))))
  have hR:rightB x.1=false:=Lk ho
  exact⟨.slice none 0 0,by rw[hR];rfl,by rw[hR];exact RB.nil _,hE⟩
 have hR:rightB x.1=true:=Lj ho
 obtain⟨p,hK,hP⟩:=En hR
 have hF:=DK hP
 obtain⟨ws,wu⟩:=hF.session
 obtain⟨wv,ww⟩:=hF.size
 obtain⟨ha0,ha1⟩:=hF.at_
 obtain⟨hd0,hd1⟩:=hF.code
 obtain⟨wx,hp⟩:=hF.refs
 have hw1:=hF.wants
 have hh1:=hF.haves
 have aa:=hF.bytes
 have lz:=hF.name
 have hdl:x.1.id.1.length=32:=x.1.id.2
 have hol:x.1.old.1.length=32:=x.1.old.2
 have hnl2:x.1.new.1.length=32:=x.1.new.2
 have wy:=Cj (n:=x.1.session.toNat) (by omega)
 have w0:=Cj (n:=x.1.size.toNat) (by omega)
 have w4:=Cj (n:=x.1.at_.toNat) (by omega)
 have w5:=Cj (n:=x.1.code.toNat) (by omega)
 have w6:=Cj (n:=x.1.refs.length) (by omega)
 rcases EQ hK with ⟨hk,rfl⟩ | ⟨hk,rfl⟩ | ⟨hk,rfl⟩ | ⟨hk,rfl⟩ | ⟨hk,rfl⟩ | ⟨hk,rfl⟩ | ⟨hk,rfl⟩ | ⟨hk,rfl⟩
 ·refine Ak (tN (c8 _ _ (sk fun w7 l0=>(wt (oS rfl (Yk.fieldAt HW (vr (PQ j 0) rfl) (oS rfl (Yk.cell1 u5 rfl (vr (PQ j 0) rfl) (Ac c (show(msgC x)[0]? =some (B8 (x.1.kind):Value)from BS x)) (oS rfl (Yk.lit1 (b:=x.1.kind) wr25_l1_26 (vr (B8 (x.1.kind)) rfl) fun e4 l1 e5=> ?_))))))))))
  have a9:=Ext.refl c9
  have w8:=hE.size
  have hE:=hE.trans e5.ext
  have c:=eb e5.ext c
  have a9:=a9.trans e5.ext
  have br:=e5.own;clear e5
  refine oS rfl (Yk.alloc (cs:=([(Value.slice none 0 0)]).toArray) Dd fun a5 l2 l3 ix e6 w9=> ?_)
  have cb:=Ext.refl l1
  have iy:=hE.size
  have iz:=a9.size
  have xa:=Bn (bl c) l3
  have l4:OB e4 a5:=AW br (by omega)
  have hE:=hE.trans e6
  have c:=eb e6 c
  have a9:=a9.trans e6
  have br:=Stab.own _ _ _ _ _ _ _ _ br e6
  have cb:=cb.trans e6
  have ax:=ix;clear ix
  have xb:a5<l2.heap.size:=by omega
  refine oS rfl (Yk.storeC (i:=0) (v:=e4) (vr (PQ a5 0) rfl) (vr e4 rfl) ax (Nat.le_of_ble_eq_true rfl) IQ (AY br).1 (AY br).2 fun xc i0 e7 xd=> ?_)
  have hE:=Ae hE e7 (Nat.le_trans iy (by omega))
  have c:=kb e7 c (by omega)
  have a9:=Ae a9 e7 (Nat.le_trans iz (by omega))
  have br:=AS br e7 l4
  have cb:=Ae cb e7 (Nat.le_trans (Nat.le_refl _) (by omega))
  clear ax
  have ax:=i0;clear i0
  have xe:=bl ax
  refine oZ (tN (l0 _ _ (sk fun xf l5=>(wt (oS rfl (Yk.mkFunc (vs:= #[PQ a5 0]) (by simp only[List.map_toArray,List.map_cons,List.map_nil];exact congrArg List.toArray (DX (vr (PQ a5 0) rfl))) (oS rfl (Yk.alloc (cs:=([Value.nilFunc]).toArray) De fun cp l6 i1 i2 d9 xg=> ?_))))))))
  have l7:=hE.size
  have l8:=a9.size
  have l9:=cb.size
  have xh:=Bn (bl c) i1
  have xi:=Bn (bl ax) i1
  have ma:OB e4 cp:=AW br (by omega)
  have hE:=hE.trans d9
  have c:=eb d9 c
  have a9:=a9.trans d9
  have br:=Stab.own _ _ _ _ _ _ _ _ br d9
  have cb:=cb.trans d9
  have ax:=eb d9 ax
  have da:=i2;clear i2
  have xj:cp<l6.heap.size:=by omega
  refine oS rfl (Yk.storeC (i:=0) (v:= .func (.func 47) #[] #[PQ a5 0]) (vr (PQ cp 0) rfl) (vr (.func (.func 47) #[] #[PQ a5 0]) rfl) da (Nat.le_of_ble_eq_true rfl) wr6_isz89 rfl rfl fun xk i3 ea xl=> ?_)
  have hE:=Ae hE ea (Nat.le_trans l7 (by omega))
  have c:=kb ea c (by omega)
  have a9:=Ae a9 ea (Nat.le_trans l8 (by omega))
  have br:=AS br ea ma
  have cb:=Ae cb ea (Nat.le_trans l9 (by omega))
  have ax:=kb ea ax (by omega)
  clear da
  have da:=i3;clear i3
  have xm:=bl da
  refine oZ (tN (l5 _ _ (sk fun xn mb=>(wt (oS rfl (Yk.mkFunc (vs:= #[PQ cp 0,PQ a5 0]) (by simp only[List.map_toArray,List.map_cons,List.map_nil];exact congrArg List.toArray (BO (vr (PQ cp 0) rfl) (vr (PQ a5 0) rfl))) (oA rfl (oZ (tN (mb _ _ (sk fun xo mc=>(wt (oS rfl (Yk.cell1 Oh rfl (vr (PQ cp 0) rfl) (Ac da (show _=some (.func (.func 47) #[] #[PQ a5 0]:Value)from rfl)) (oS rfl (Yk.fieldAt LM (vr (PQ j 0) rfl) (oS rfl (Yk.cell1 Fs rfl (vr (PQ j 1) rfl) (Ac c (show(msgC x)[1]? =some (.int .i64 (x.1.session:Int):Value)from Db x)) (oS rfl (Yk.clo Oi (caps:= #[PQ a5 0]) (vr (.func (.func 47) #[] #[PQ a5 0]) rfl) #[.int .i64 (x.1.session:Int),PQ a5 0] (by simp only[List.map_toArray,List.map_cons,List.map_nil,List.append_toArray,List.cons_append,List.nil_append];exact congrArg List.toArray (BO (vr (.int .i64 (x.1.session:Int)) rfl) rfl)) ((B0 w _ hE a5 (by omega) e4 ([(x.1.kind:UInt8)]) ax (RB.ofOwn br) (by simp only[List.length_append,List.length_cons,List.length_nil];omega) x.1.session (by omega) (by omega)).mono ?_)))))))))))))))))))))
  rintro e dk ⟨ec,rfl,i4,db,e8⟩
  refine⟨_,rfl,?_⟩
  have db:=AL db hE.size
  have hE:=Ae hE e8 (Nat.le_trans iy (by omega))
  have c:=kb e8 c (by omega)
  have a9:=Ae a9 e8 (Nat.le_trans iz (by omega))
  clear br
  have cb:=Ae cb e8 (Nat.le_trans (Nat.le_refl _) (by omega))
  clear ax
  have da:=kb e8 da (by omega)
  have ax:=i4;clear i4
  have xp:=bl ax
  refine oZ (tN (mc _ _ (sk fun xq md=> ?_)))
  have me:=hE.size
  have xr:=a9.size
  have xs:=cb.size
  have xt:j<dk.heap.size:=(bl c)
  have xu:cp<dk.heap.size:=(bl da)
  have xw:a5<dk.heap.size:=(bl ax)
  have mf:∀g,dk.heap.size≤g→OB ec g:=fun g hg=>AW db hg
  refine Ci 5 _ [fun x w' =>∃b,x = .map (some b)∧MapF B8 AA (fun _:UInt8=>True) w' b AT,Is (PQ j 0),Is (B8 (x.1.kind)),Is (.agg (partsC (⟨false,false,false,false,false,false,false,false⟩:Ag)).toArray),fun x w' =>∃g,x=PQ g 0∧w'.heap[g]? =some (.cells (partsC (⟨false,false,false,false,false,false,false,false⟩:Ag)).toArray 92 (0,0))∧dk.heap.size≤g] (by kernel_rfl) [23,24,25,26,7] (by kernel_rfl) (by kernel_rfl) (by kernel_rfl) rfl rfl rfl ⟨(fun _ _ _ ⟨b,h1,h2⟩ k=>⟨b,h1,MapF.keep h2 k⟩),Stab.is _,Stab.is _,Stab.is _,(fun _ _ _ ⟨g,h1,h2,h3⟩ k=>⟨g,h1,eb k h2,h3⟩),trivial⟩ ?mg ?hQ3007
  case mg=>
   refine⟨?_,?_,?_,?_,?_,?_,trivial⟩
   ·refine Ah (Aa rfl fun σ w1 hC h=>(Yk.callA0 JM ((Ca _).mono ?_)))
    rintro e w2 ⟨b,rfl,hmk,hx,hom⟩
    exact⟨_,rfl,hx,⟨b,rfl,hmk⟩⟩
   ·refine Ah (Aa rfl fun σ w1 hC h=> ?_)
    have e1:σ 1=PQ j 0:=(Ad (h 1 (by decide))).trans rfl
    exact Yk.fieldAt HW e1 ⟨Ext.refl _,rfl⟩
   ·refine Ah (Aa rfl fun σ w1 hC h=> ?_)
    have bc:=Ad (h 24 (by decide))
    exact Yk.cell1 u5 rfl bc (Ac (eb hC c) (show(msgC x)[0]? =some (B8 (x.1.kind):Value)from BS x)) ⟨Ext.refl _,rfl⟩
   ·refine Ah (Aa rfl fun σ w1 hC h=> ?_)
    have bd:(fun x w' =>∃b,x = .map (some b)∧MapF B8 AA (fun _:UInt8=>True) w' b AT) (σ 23) w1:=h 23 (by decide)
    have be:=Ad (h 25 (by decide))
    obtain⟨b6,k6,m6⟩:=(show ∃b,σ 23 = .map (some b)∧MapF B8 AA (fun _:UInt8=>True) w1 b AT from bd)
    exact Yk.lookMS (ek:=B8) (ev:=AA) (D:=fun _:UInt8=>True) Cn Co (fun _ _=>C2) CG (z:=AA Bl) B9 k6 be m6 trivial hK ⟨Ext.refl _,rfl⟩
   ·refine Ah (Aa rfl fun σ w1 hC h=> ?_)
    exact Yk.alloc (cs:=(partsC (⟨false,false,false,false,false,false,false,false⟩:Ag)).toArray) JN fun g w2 hn hb hx hs=>⟨hx,g,rfl,hb,Nat.le_trans (show Ext dk w1 from hC).size (Nat.le_of_eq hn)⟩
   ·exact trivial
  intro hq mh gp he hf
  obtain⟨-,-,-,k26,k7,-⟩:=hf
  obtain⟨T0,T1,T2,T3,y,T5,T6,-⟩:=he.hold [(0,_),(1,PQ j 0),(2,(Value.slice none 0 0)),(3,NI 0),(4,PQ a5 0),(5,PQ cp 0),(6, .func (.func 49) #[] #[PQ cp 0,PQ a5 0])] ⟨T0,rfl,rfl,rfl,rfl,rfl,rfl,trivial⟩ rfl
  clear he
  have hE:=hE.trans gp
  have c:=eb gp c
  have ax:=eb gp ax
  have db:=Stab.own _ _ _ _ _ _ _ _ db gp
  have bf:hq 26 = .agg (partsC (⟨false,false,false,false,false,false,false,false⟩:Ag)).toArray:=k26
  have k7:(fun x w' =>∃g,x=PQ g 0∧w'.heap[g]? =some (.cells (partsC (⟨false,false,false,false,false,false,false,false⟩:Ag)).toArray 92 (0,0))∧dk.heap.size≤g) (hq 7) mh:=k7
  obtain⟨xx,f⟩:∃v,hq 7=v:=⟨_,rfl⟩
  rw[f]at k7
  have mi:=k7;clear k7
  obtain⟨ci,rfl,b2,mj⟩:=mi
  have xy:=bl b2
  have ml:OB ec ci:=mf _ mj
  clear k26
  refine(Yk.storeAll f bf b2 (by simp only[List.size_toArray,Bq]) (AF (Bq _) Gj) (B7 (x:=(⟨false,false,false,false,false,false,false,false⟩:Ag))) fun mm i5 gq xz=> ?_)
  have hE:=Ae hE gq (Nat.le_trans me (by omega))
  have c:=kb gq c (by omega)
  have ax:=kb gq ax (by omega)
  have db:=AS db gq ml
  clear b2
  have b2:mm.heap[ci]? =some (.cells (partsC (⟨false,false,false,false,false,false,false,false⟩:Ag)).toArray 92 (0,0)):=i5;clear i5
  have x0:=bl b2
  refine tN (md _ _ (sk fun x1 mn=>(sk fun x2 mo=>(wt (oS rfl (Yk.fieldAt LF f (oS rfl (Yk.cell1 CS rfl (vr (PQ ci 0) rfl) (Ac b2 (show(partsC (⟨false,false,false,false,false,false,false,false⟩:Ag))[0]? =some (.bool (false):Value)from BH (⟨false,false,false,false,false,false,false,false⟩:Ag))) (oZ (tN (mo _ _ (Al (vr (.bool (false)) rfl) (Ak (tN (mn _ _ (sk fun x3 mp=>(sk fun x4 mq=>(wt (oS rfl (Yk.fieldAt LG f (oS rfl (Yk.cell1 CS rfl (vr (PQ ci 1) rfl) (Ac b2 (show(partsC (⟨false,false,false,false,false,false,false,false⟩:Ag))[1]? =some (.bool (false):Value)from BI (⟨false,false,false,false,false,false,false,false⟩:Ag))) ?_))))))))))))))))))))))
  refine oZ (tN (mq _ _ (Al (vr (.bool (false)) rfl) (Ak (tN (mp _ _ (sk fun x5 mr=>(sk fun x6 ms=>(wt (oS rfl (Yk.fieldAt LH f (oS rfl (Yk.cell1 CS rfl (vr (PQ ci 2) rfl) (Ac b2 (show(partsC (⟨false,false,false,false,false,false,false,false⟩:Ag))[2]? =some (.bool (false):Value)from BJ (⟨false,false,false,false,false,false,false,false⟩:Ag))) (oZ (tN (ms _ _ (Al (vr (.bool (false)) rfl) (Ak (tN (mr _ _ (sk fun x7 mt=> ?_)))))))))))))))))))))
  refine sk fun x8 mu=>(wt (oS rfl (Yk.fieldAt LI f (oS rfl (Yk.cell1 CS rfl (vr (PQ ci 3) rfl) (Ac b2 (show(partsC (⟨false,false,false,false,false,false,false,false⟩:Ag))[3]? =some (.bool (false):Value)from BK (⟨false,false,false,false,false,false,false,false⟩:Ag))) (oZ (tN (mu _ _ (Al (vr (.bool (false)) rfl) (Ak (tN (mt _ _ (sk fun x9 mv=>(sk fun ya mw=>(wt (oS rfl (Yk.fieldAt LJ f (oS rfl (Yk.cell1 CS rfl (vr (PQ ci 4) rfl) (Ac b2 (show(partsC (⟨false,false,false,false,false,false,false,false⟩:Ag))[4]? =some (.bool (false):Value)from BL (⟨false,false,false,false,false,false,false,false⟩:Ag))) (oZ (tN (mw _ _ ?_))))))))))))))))))))))
  refine Al (vr (.bool (false)) rfl) (Ak (tN (mv _ _ (sk fun yb mx=>(sk fun yc my=>(wt (oS rfl (Yk.fieldAt HT f (oS rfl (Yk.cell1 CS rfl (vr (PQ ci 5) rfl) (Ac b2 (show(partsC (⟨false,false,false,false,false,false,false,false⟩:Ag))[5]? =some (.bool (false):Value)from Bv (⟨false,false,false,false,false,false,false,false⟩:Ag))) (oZ (tN (my _ _ (Al (vr (.bool (false)) rfl) (Ak (tN (mx _ _ (sk fun yd mz=>(sk fun ye m0=>(wt ?_))))))))))))))))))))
  refine oS rfl (Yk.fieldAt HU f (oS rfl (Yk.cell1 CS rfl (vr (PQ ci 6) rfl) (Ac b2 (show(partsC (⟨false,false,false,false,false,false,false,false⟩:Ag))[6]? =some (.bool (false):Value)from Bw (⟨false,false,false,false,false,false,false,false⟩:Ag))) (oZ (tN (m0 _ _ (Al (vr (.bool (false)) rfl) (Ak (tN (mz _ _ (sk fun yf m1=>(sk fun yg m2=>(wt (oS rfl (Yk.fieldAt LL f (oS rfl (Yk.cell1 CS rfl (vr (PQ ci 7) rfl) (Ac b2 (show(partsC (⟨false,false,false,false,false,false,false,false⟩:Ag))[7]? =some (.bool (false):Value)from Bx (⟨false,false,false,false,false,false,false,false⟩:Ag))) (oZ (tN (m2 _ _ (Al (vr (.bool (false)) rfl) (Ak ?_))))))))))))))))))))))
  refine tN (m1 _ _ (sk fun yh m3=>(wt (oS rfl (Yk.cell1 Ff rfl y (Ac ax (show _=some (ec:Value)from rfl)) (oA rfl (oA rfl (oZ (tN (m3 _ _ (Ap (Ao (fn:=Tryd.f16) _ rfl [ec,NI 0] (.tuple #[ec,NI 0]) rfl ⟨rfl,rfl,trivial⟩ ?_))))))))))))
  have hen:([(x.1.kind:UInt8)]:List UInt8)++Lib.uvarint x.1.session.toNat=BM x.1:=by unfold BM Ba;rw[hk];simp[List.append_assoc]
  exact⟨ec,by rw[hR];rfl,by rw[hR,if_pos rfl,←hen];exact RB.ofOwn db,hE⟩
 ·refine Ak (tN (c8 _ _ (sk fun yi m4=>(wt (oS rfl (Yk.fieldAt HW (vr (PQ j 0) rfl) (oS rfl (Yk.cell1 u5 rfl (vr (PQ j 0) rfl) (Ac c (show(msgC x)[0]? =some (B8 (x.1.kind):Value)from BS x)) (oS rfl (Yk.lit1 (b:=x.1.kind) wr25_l1_26 (vr (B8 (x.1.kind)) rfl) fun e9 m5 fa=> ?_))))))))))
  have bg:=Ext.refl c9
  have yj:=hE.size
  have hE:=hE.trans fa.ext
  have c:=eb fa.ext c
  have bg:=bg.trans fa.ext
  have bs:=fa.own;clear fa
  refine oS rfl (Yk.alloc (cs:=([(Value.slice none 0 0)]).toArray) Dd fun ac m7 m8 i6 fb yk=> ?_)
  have b3:=Ext.refl m5
  have gr:=hE.size
  have i7:=bg.size
  have yl:=Bn (bl c) m8
  have m9:OB e9 ac:=AW bs (by omega)
  have hE:=hE.trans fb
  have c:=eb fb c
  have bg:=bg.trans fb
  have bs:=Stab.own _ _ _ _ _ _ _ _ bs fb
  have b3:=b3.trans fb
  have ak:=i6;clear i6
  have ym:ac<m7.heap.size:=by omega
  refine oS rfl (Yk.storeC (i:=0) (v:=e9) (vr (PQ ac 0) rfl) (vr e9 rfl) ak (Nat.le_of_ble_eq_true rfl) IQ (AY bs).1 (AY bs).2 fun yn i8 fc yo=> ?_)
  have hE:=Ae hE fc (Nat.le_trans gr (by omega))
  have c:=kb fc c (by omega)
  have bg:=Ae bg fc (Nat.le_trans i7 (by omega))
  have bs:=AS bs fc m9
  have b3:=Ae b3 fc (Nat.le_trans (Nat.le_refl _) (by omega))
  clear ak
  have ak:=i8;clear i8
  have yp:=bl ak
  refine oZ (tN (m4 _ _ (sk fun yq na=>(wt (oS rfl (Yk.mkFunc (vs:= #[PQ ac 0]) (by simp only[List.map_toArray,List.map_cons,List.map_nil];exact congrArg List.toArray (DX (vr (PQ ac 0) rfl))) (oS rfl (Yk.alloc (cs:=([Value.nilFunc]).toArray) De fun aw nb i9 ja ed yr=> ?_))))))))
  have nc:=hE.size
  have nd:=bg.size
  have ne:=b3.size
  have ys:=Bn (bl c) i9
  have yt:=Bn (bl ak) i9
  have nf:OB e9 aw:=AW bs (by omega)
  have hE:=hE.trans ed
  have c:=eb ed c
  have bg:=bg.trans ed
  have bs:=Stab.own _ _ _ _ _ _ _ _ bs ed
  have b3:=b3.trans ed
  have ak:=eb ed ak
  have q:=ja;clear ja
  have yu:aw<nb.heap.size:=by omega
  refine oS rfl (Yk.storeC (i:=0) (v:= .func (.func 47) #[] #[PQ ac 0]) (vr (PQ aw 0) rfl) (vr (.func (.func 47) #[] #[PQ ac 0]) rfl) q (Nat.le_of_ble_eq_true rfl) wr6_isz89 rfl rfl fun yw jb ee yx=> ?_)
  have hE:=Ae hE ee (Nat.le_trans nc (by omega))
  have c:=kb ee c (by omega)
  have bg:=Ae bg ee (Nat.le_trans nd (by omega))
  have bs:=AS bs ee nf
  have b3:=Ae b3 ee (Nat.le_trans ne (by omega))
  have ak:=kb ee ak (by omega)
  clear q
  have q:=jb;clear jb
  have yy:=bl q
  refine oZ (tN (na _ _ (sk fun yz ng=>(wt (oS rfl (Yk.mkFunc (vs:= #[PQ aw 0,PQ ac 0]) (by simp only[List.map_toArray,List.map_cons,List.map_nil];exact congrArg List.toArray (BO (vr (PQ aw 0) rfl) (vr (PQ ac 0) rfl))) (oA rfl (oZ (tN (ng _ _ (sk fun y0 nh=>(wt (oS rfl (Yk.cell1 Oh rfl (vr (PQ aw 0) rfl) (Ac q (show _=some (.func (.func 47) #[] #[PQ ac 0]:Value)from rfl)) (oS rfl (Yk.fieldAt LM (vr (PQ j 0) rfl) (oS rfl (Yk.cell1 Fs rfl (vr (PQ j 1) rfl) (Ac c (show(msgC x)[1]? =some (.int .i64 (x.1.session:Int):Value)from Db x)) (oS rfl (Yk.clo Oi (caps:= #[PQ ac 0]) (vr (.func (.func 47) #[] #[PQ ac 0]) rfl) #[.int .i64 (x.1.session:Int),PQ ac 0] (by simp only[List.map_toArray,List.map_cons,List.map_nil,List.append_toArray,List.cons_append,List.nil_append];exact congrArg List.toArray (BO (vr (.int .i64 (x.1.session:Int)) rfl) rfl)) ((B0 w _ hE ac (by omega) e9 ([(x.1.kind:UInt8)]) ak (RB.ofOwn bs) (by simp only[List.length_append,List.length_cons,List.length_nil];omega) x.1.session (by omega) (by omega)).mono ?_)))))))))))))))))))))
  rintro e dl ⟨hr,rfl,jc,cq,fd⟩
  refine⟨_,rfl,?_⟩
  have cq:=AL cq hE.size
  have hE:=Ae hE fd (Nat.le_trans gr (by omega))
  have c:=kb fd c (by omega)
  have bg:=Ae bg fd (Nat.le_trans i7 (by omega))
  clear bs
  have b3:=Ae b3 fd (Nat.le_trans (Nat.le_refl _) (by omega))
  clear ak
  have q:=kb fd q (by omega)
  have ak:=jc;clear jc
  have y1:=bl ak
  refine oZ (tN (nh _ _ (sk fun y2 ni=> ?_)))
  have nj:=hE.size
  have y3:=bg.size
  have y4:=b3.size
  have y5:j<dl.heap.size:=(bl c)
  have y6:aw<dl.heap.size:=(bl q)
  have y7:ac<dl.heap.size:=(bl ak)
  have nk:∀g,dl.heap.size≤g→OB hr g:=fun g hg=>AW cq hg
  refine Ci 5 _ [fun x w' =>∃b,x = .map (some b)∧MapF B8 AA (fun _:UInt8=>True) w' b AT,Is (PQ j 0),Is (B8 (x.1.kind)),Is (.agg (partsC (⟨true,false,false,false,false,false,false,false⟩:Ag)).toArray),fun x w' =>∃g,x=PQ g 0∧w'.heap[g]? =some (.cells (partsC (⟨false,false,false,false,false,false,false,false⟩:Ag)).toArray 92 (0,0))∧dl.heap.size≤g] (by kernel_rfl) [23,24,25,26,7] (by kernel_rfl) (by kernel_rfl) (by kernel_rfl) rfl rfl rfl ⟨(fun _ _ _ ⟨b,h1,h2⟩ k=>⟨b,h1,MapF.keep h2 k⟩),Stab.is _,Stab.is _,Stab.is _,(fun _ _ _ ⟨g,h1,h2,h3⟩ k=>⟨g,h1,eb k h2,h3⟩),trivial⟩ ?nl ?hQ4007
  case nl=>
   refine⟨?_,?_,?_,?_,?_,?_,trivial⟩
   ·refine Ah (Aa rfl fun σ w1 hC h=>(Yk.callA0 JM ((Ca _).mono ?_)))
    rintro e w2 ⟨b,rfl,hmk,hx,hom⟩
    exact⟨_,rfl,hx,⟨b,rfl,hmk⟩⟩
   ·refine Ah (Aa rfl fun σ w1 hC h=> ?_)
    have e1:σ 1=PQ j 0:=(Ad (h 1 (by decide))).trans rfl
    exact Yk.fieldAt HW e1 ⟨Ext.refl _,rfl⟩
   ·refine Ah (Aa rfl fun σ w1 hC h=> ?_)
    have bc:=Ad (h 24 (by decide))
    exact Yk.cell1 u5 rfl bc (Ac (eb hC c) (show(msgC x)[0]? =some (B8 (x.1.kind):Value)from BS x)) ⟨Ext.refl _,rfl⟩
   ·refine Ah (Aa rfl fun σ w1 hC h=> ?_)
    have bd:(fun x w' =>∃b,x = .map (some b)∧MapF B8 AA (fun _:UInt8=>True) w' b AT) (σ 23) w1:=h 23 (by decide)
    have be:=Ad (h 25 (by decide))
    obtain⟨b6,k6,m6⟩:=(show ∃b,σ 23 = .map (some b)∧MapF B8 AA (fun _:UInt8=>True) w1 b AT from bd)
    exact Yk.lookMS (ek:=B8) (ev:=AA) (D:=fun _:UInt8=>True) Cn Co (fun _ _=>C2) CG (z:=AA Bl) B9 k6 be m6 trivial hK ⟨Ext.refl _,rfl⟩
   ·refine Ah (Aa rfl fun σ w1 hC h=> ?_)
    exact Yk.alloc (cs:=(partsC (⟨false,false,false,false,false,false,false,false⟩:Ag)).toArray) JN fun g w2 hn hb hx hs=>⟨hx,g,rfl,hb,Nat.le_trans (show Ext dl w1 from hC).size (Nat.le_of_eq hn)⟩
   ·exact trivial
  intro ht nm fe he hf
  obtain⟨-,-,-,k26,k7,-⟩:=hf
  obtain⟨T0,T1,T2,T3,y,T5,T6,-⟩:=he.hold [(0,_),(1,PQ j 0),(2,(Value.slice none 0 0)),(3,NI 0),(4,PQ ac 0),(5,PQ aw 0),(6, .func (.func 49) #[] #[PQ aw 0,PQ ac 0])] ⟨T0,rfl,rfl,rfl,rfl,rfl,rfl,trivial⟩ rfl
  clear he
  have hE:=hE.trans fe
  have c:=eb fe c
  have q:=eb fe q
  have ak:=eb fe ak
  have cq:=Stab.own _ _ _ _ _ _ _ _ cq fe
  have bf:ht 26 = .agg (partsC (⟨true,false,false,false,false,false,false,false⟩:Ag)).toArray:=k26
  have k7:(fun x w' =>∃g,x=PQ g 0∧w'.heap[g]? =some (.cells (partsC (⟨false,false,false,false,false,false,false,false⟩:Ag)).toArray 92 (0,0))∧dl.heap.size≤g) (ht 7) nm:=k7
  obtain⟨y8,f⟩:∃v,ht 7=v:=⟨_,rfl⟩
  rw[f]at k7
  have nn:=k7;clear k7
  obtain⟨a4,rfl,r,no⟩:=nn
  have y9:=bl r
  have np:OB hr a4:=nk _ no
  clear k26
  refine(Yk.storeAll f bf r (by simp only[List.size_toArray,Bq]) (AF (Bq _) Gj) (B7 (x:=(⟨true,false,false,false,false,false,false,false⟩:Ag))) fun nq jd ff za=> ?_)
  have hE:=Ae hE ff (Nat.le_trans nj (by omega))
  have c:=kb ff c (by omega)
  have q:=kb ff q (by omega)
  have ak:=kb ff ak (by omega)
  have cq:=AS cq ff np
  clear r
  have r:nq.heap[a4]? =some (.cells (partsC (⟨true,false,false,false,false,false,false,false⟩:Ag)).toArray 92 (0,0)):=jd;clear jd
  have zb:=bl r
  refine tN (ni _ _ (sk fun zc nr=>(sk fun zd ns=>(wt (oS rfl (Yk.fieldAt LF f (oS rfl (Yk.cell1 CS rfl (vr (PQ a4 0) rfl) (Ac r (show(partsC (⟨true,false,false,false,false,false,false,false⟩:Ag))[0]? =some (.bool (true):Value)from BH (⟨true,false,false,false,false,false,false,false⟩:Ag))) (oZ (tN (ns _ _ (AE (vr (.bool (true)) rfl) (sk fun ze nt=>(wt (oS rfl (Yk.cell1 Oh rfl T5 (Ac q (show _=some (.func (.func 47) #[] #[PQ ac 0]:Value)from rfl)) (oS rfl (Yk.fieldAt HK T1 (oS rfl (Yk.cell1 DS rfl (vr (PQ j 2) rfl) (Ac c (show(msgC x)[2]? =some (x.2.refs:Value)from Cp x)) (oS rfl (Yk.lenRG DS (RG.of (hmr.keep hE) (vr x.2.refs rfl)) (oS rfl (Yk.clo Oi (caps:= #[PQ ac 0]) (vr (.func (.func 47) #[] #[PQ ac 0]) rfl) #[NI ((x.1.refs).length),PQ ac 0] (by simp only[List.map_toArray,List.map_cons,List.map_nil,List.append_toArray,List.cons_append,List.nil_append];exact congrArg List.toArray (BO (vr (NI ((x.1.refs).length)) rfl) rfl)) ?_))))))))))))))))))))))))
  refine(B0 w _ hE ac (by omega) hr (([(x.1.kind:UInt8)]:List UInt8)++Lib.uvarint x.1.session.toNat) ak (RB.ofOwn cq) (by simp only[List.length_append,List.length_cons,List.length_nil];omega) (((x.1.refs).length:Nat):Int) (by omega) (by omega)).mono ?_
  rintro e zf ⟨fg,rfl,je,dc,gs⟩
  refine⟨_,rfl,?_⟩
  have nu:OB fg j:=Bj dc (bl c)
  have nv:OB fg aw:=Bj dc (bl q)
  have nw:OB fg ac:=Bj dc (bl ak)
  have nx:OB fg a4:=Bj dc (bl r)
  have dc:=AL dc hE.size
  have hE:=Ae hE gs (Nat.le_trans gr (by omega))
  have c:=kb gs c (by omega)
  have q:=kb gs q (by omega)
  clear ak
  clear cq
  have r:=kb gs r (by omega)
  have ak:=je;clear je
  have zg:=bl ak
  refine oZ (tN (nt _ _ (sk fun zh ny=>(wt (oS rfl (Yk.fieldAt HK T1 (oS rfl (Yk.cell1 DS rfl (vr (PQ j 2) rfl) (Ac c (show(msgC x)[2]? =some (x.2.refs:Value)from Cp x)) (oS rfl (Yk.lenRG DS (RG.of (hmr.keep hE) (vr x.2.refs rfl)) (oM rfl (Be [(0, .agg (msgC x).toArray),(1,PQ j 0),(2,(Value.slice none 0 0)),(3,NI 0),(4,PQ ac 0),(5,PQ aw 0),(6, .func (.func 49) #[] #[PQ aw 0,PQ ac 0]),(7,PQ a4 0),(28, .bool (true)),(35,x.2.refs),(36,NI ((x.1.refs).length)),(37,NI 0)] ⟨T0,T1,T2,T3,y,T5,T6,f,rfl,rfl,rfl,rfl,trivial⟩ fun zi ⟨T0,T1,T2,T3,y,T5,T6,f,dm,ef,eg,cr,_⟩=>(tN (ny _ _ (Ax (Bc (fun(ρ:At) (wz:World)=>∃i:Nat,∃vb1:Value,ρ 0=(.agg (msgC x).toArray:Value)∧ρ 1=(PQ j 0:Value)∧ρ 2=((Value.slice none 0 0):Value)∧ρ 3=(NI 0:Value)∧ρ 4=(PQ ac 0:Value)∧ρ 5=(PQ aw 0:Value)∧ρ 6=(.func (.func 49) #[] #[PQ aw 0,PQ ac 0]:Value)∧ρ 7=(PQ a4 0:Value)∧ρ 28=(.bool (true):Value)∧ρ 35=(x.2.refs:Value)∧ρ 36=(NI ((x.1.refs).length):Value)∧ρ 37=(NI i:Value)∧Ext w wz∧wz.heap[j]? =some (.cells (msgC x).toArray 29 (0,0))∧wz.heap[aw]? =some (.cells ([.func (.func 47) #[] #[PQ ac 0]]).toArray 89 (0,0))∧wz.heap[a4]? =some (.cells (partsC (⟨true,false,false,false,false,false,false,false⟩:Ag)).toArray 92 (0,0))∧wz.heap[ac]? =some (.cells ([vb1]).toArray 26 (0,0))∧wz.ownsRow w.heap.size 5 1 vb1 (((([(x.1.kind:UInt8)]:List UInt8)++Lib.uvarint x.1.session.toNat:List UInt8)++Lib.uvarint ((x.1.refs).length):List UInt8)++(x.1.refs.take i).flatMap Cf:List UInt8).length (Lib.byteCells (((([(x.1.kind:UInt8)]:List UInt8)++Lib.uvarint x.1.session.toNat:List UInt8)++Lib.uvarint ((x.1.refs).length):List UInt8)++(x.1.refs.take i).flatMap Cf))∧(i≤x.1.refs.length)∧(OB vb1 j)∧(OB vb1 aw)∧(OB vb1 a4)∧(OB vb1 ac)∧True) (fun ρ _=>x.1.refs.length-(intOf (ρ 37)).toNat) ⟨0,fg,T0,T1,T2,T3,y,T5,T6,f,dm,ef,eg,cr,hE,c,q,r,ak,DG dc (by simp),Nat.zero_le _,nu,nv,nx,nw,trivial⟩ ?_))))))))))))))))
  clear b3
  clear ak
  clear dc
  clear hE c q r
  rintro nz jf ⟨i,vb1,T0,T1,T2,T3,y,T5,T6,f,dm,ef,eg,cr,hE,c,q,r,aa,b4,hi,hap_n2,hap_n153,hap_n204,hap_n132,-⟩
  have q37:=cr
  have hgl:=(bl aa)
  refine sk fun zj n0=>(wt (oS rfl (Yk.eqI (a:=(i:Nat)) (b:=((x.1.refs).length:Nat)) cr eg (AZ _ _ _ _) (oZ (tN (n0 _ _ (sk fun zk n1=> ?_)))))))
  refine A2 ((i)<((x.1.refs).length)) (vr (.bool (decide ((i)<((x.1.refs).length)))) rfl) (fun jg=> ?_) (fun jg=> ?_)
  ·have hlt:i<x.1.refs.length:=jg
   have hul:=hp _ (FF Aj hlt)
   have hLl:=Gm (l:=x.1.refs.take i) (fun u hu=>hp u (List.mem_of_mem_take hu))
   rw[List.length_take]at hLl
   have huu:=Cj (n:=(x.1.refs.getD i Aj).name.length) (by omega)
   have htu:=Hg (s:=(x.1.refs.getD i Aj).name) (by omega)
   have hnu:(x.1.refs.getD i Aj).new.1.length=32:=(x.1.refs.getD i Aj).new.2
   refine Ak (tN (n1 _ _ (sk fun zl n3=>(Ax (sk fun zm n4=>(wt ?_))))))
   have zn:(updC ((x.1.refs).getD (i) Aj)).length=66:=(RG.elem (hmr.keep hE) Aj (by omega))
   refine oS rfl (Yk.atRG DS E2 (by decide) Aj (RG.of (hmr.keep hE) ef) cr (by omega) fun n5 jh=>(oS rfl (Yk.loadPR (PR.of jh (vr n5 rfl)) (N2).choose_spec rfl (by rw[BW];exact IE) (oS rfl (Yk.alloc (cs:=(updC (⟨0,[],zid,zid⟩:AO)).toArray) N3 fun bt n6 gt ji dn zo=> ?_)))))
   have dd:=Ext.refl jf
   have n7:=hE.size
   have zp:=Bn (bl c) gt
   have zq:=Bn (bl q) gt
   have zr:=Bn (bl r) gt
   have zs:=Bn (bl aa) gt
   have jj:OB vb1 bt:=AW b4 (by omega)
   have hE:=hE.trans dn
   have c:=eb dn c
   have q:=eb dn q
   have r:=eb dn r
   have aa:=eb dn aa
   have b4:=Stab.own _ _ _ _ _ _ _ _ b4 dn
   have dd:=dd.trans dn
   have ah:=ji;clear ji
   have zt:bt<n6.heap.size:=by omega
   refine oS rfl (Yk.storeAll (vr (PQ bt 0) rfl) (vr (.agg (updC ((x.1.refs).getD (i) Aj)).toArray) rfl) ah (by simp only[List.size_toArray,BW]) (AF (BW _) IE) (DM (x:=((x.1.refs).getD (i) Aj))) fun fh jk dp zu=> ?_)
   have hE:=Ae hE dp (Nat.le_trans n7 (by omega))
   have c:=kb dp c (by omega)
   have q:=kb dp q (by omega)
   have r:=kb dp r (by omega)
   have aa:=kb dp aa (by omega)
   have b4:=AS b4 dp jj
   have dd:=Ae dd dp (Nat.le_trans (Nat.le_refl _) (by omega))
   clear ah
   have ah:fh.heap[bt]? =some (.cells (updC ((x.1.refs).getD (i) Aj)).toArray 67 (0,0)):=jk;clear jk
   have zv:=bl ah
   refine oZ ?_
   clear jh
   refine tN (n4 _ _ ?_)
   have de:Ext fh (World.drew fh):=(Below.refl _ _).drew
   have hE:=hE.trans de
   have c:=eb de c
   have q:=eb de q
   have r:=eb de r
   have aa:=eb de aa
   have b4:=Stab.own _ _ _ _ _ _ _ _ b4 de
   have dd:=dd.trans de
   have ah:=eb de ah
   refine D8 [(0,41,vb1),(5,46,PQ bt 1),(6,47,St ((((x.1.refs).getD (i) Aj)).name)),(8,49,PQ bt 34),(9,50,AB ((((x.1.refs).getD (i) Aj)).new.1))] [1,2,3,4,7,10,11] (fun wz=>Ext w wz∧wz.heap[j]? =some (.cells (msgC x).toArray 29 (0,0))∧wz.heap[aw]? =some (.cells ([.func (.func 47) #[] #[PQ ac 0]]).toArray 89 (0,0))∧wz.heap[a4]? =some (.cells (partsC (⟨true,false,false,false,false,false,false,false⟩:Ag)).toArray 92 (0,0))∧wz.heap[ac]? =some (.cells ([vb1]).toArray 26 (0,0))∧wz.heap[bt]? =some (.cells (updC ((x.1.refs).getD (i) Aj)).toArray 67 (0,0))∧True) (by kernel_rfl) (by kernel_rfl) (by kernel_rfl) ⟨hE,c,q,r,aa,ah,trivial⟩ ⟨fun gu ⟨hE,c,q,r,aa,ah,_⟩=>Yk.cell1 Ff rfl y (Ac aa (show _=some (vb1:Value)from rfl)) ⟨rfl,rfl⟩,fun gu ⟨hE,c,q,r,aa,ah,_⟩=>Yk.fieldAt FG (vr (PQ bt 0) rfl) ⟨rfl,rfl⟩,fun gu ⟨hE,c,q,r,aa,ah,_⟩=>Yk.cell1 Dx rfl (vr (PQ bt 1) rfl) (Ac ah (show(updC ((x.1.refs).getD (i) Aj))[1]? =some (St ((((x.1.refs).getD (i) Aj)).name):Value)from Fg ((x.1.refs).getD (i) Aj))) ⟨rfl,rfl⟩,fun gu ⟨hE,c,q,r,aa,ah,_⟩=>Yk.fieldAt Lx (vr (PQ bt 0) rfl) ⟨rfl,rfl⟩,fun gu ⟨hE,c,q,r,aa,ah,_⟩=>Yk.loadPR (PR.blk ah (Fi ((x.1.refs).getD (i) Aj)) (F7 ((x.1.refs).getD (i) Aj)) (vr (PQ bt 34) rfl)) OA rfl (AH (((x.1.refs).getD (i) Aj)).new.2) ⟨rfl,rfl⟩,trivial⟩ (Bm rfl (Yk.fieldAt Di (vr (PQ bt 0) rfl) ?_))
   refine⟨.inr ⟨hE,c,q,r,aa,ah,trivial⟩,?_⟩
   refine Bm rfl (Yk.cell1 u5 rfl (vr (PQ bt 0) rfl) (Ac ah (show(updC ((x.1.refs).getD (i) Aj))[0]? =some (B8 ((((x.1.refs).getD (i) Aj)).kind):Value)from D2 ((x.1.refs).getD (i) Aj))) ?_)
   refine⟨.inr ⟨hE,c,q,r,aa,ah,trivial⟩,?_⟩
   refine Bm rfl (Yk.lit1 (b:=(((x.1.refs).getD (i) Aj)).kind) wr25_l1_26 (vr (B8 ((((x.1.refs).getD (i) Aj)).kind)) rfl) fun n8 n9 ct=> ?_)
   have zw:w.heap.size≤(World.drew fh).heap.size:=hE.size
   have zx:jf.heap.size≤(World.drew fh).heap.size:=dd.size
   have hE:=hE.trans ct.ext
   have c:=eb ct.ext c
   have q:=eb ct.ext q
   have r:=eb ct.ext r
   have aa:=eb ct.ext aa
   have b4:=Stab.own _ _ _ _ _ _ _ _ b4 ct.ext
   have ah:=eb ct.ext ah
   have jl:=ct.own;clear ct
   refine⟨.inr ⟨hE,c,q,r,aa,ah,trivial⟩,?_⟩
   refine Bm rfl (Yk.appendRB _ _ w.heap.size (.int .u8 0) Ff Lf rfl Ff (((([(x.1.kind:UInt8)]:List UInt8)++Lib.uvarint x.1.session.toNat:List UInt8)++Lib.uvarint ((x.1.refs).length):List UInt8)++(x.1.refs.take i).flatMap Cf) ([((((x.1.refs).getD (i) Aj)).kind:UInt8)]) (F4 b4 (vr vb1 rfl)) (RB.of (RB.ofOwn jl) (vr n8 rfl)) (by simp only[List.length_append,List.length_cons,List.length_nil];omega) hE.size fun hv jm jn df=> ?_)
   have df:Grew n9 jm vb1 hv:=df
   have hE:=BG hE df b4 (Nat.le_refl _)
   have c:=AR c df hap_n2
   have q:=AR q df hap_n153
   have r:=AR r df hap_n204
   have aa:=AR aa df hap_n132
   clear b4
   clear dd
   have ah:=AR ah df jj
   refine⟨.inr ⟨hE,c,q,r,aa,ah,trivial⟩,?_⟩
   refine Bm rfl (Yk.callA2 Hh (vr hv rfl) (vr (St ((((x.1.refs).getD (i) Aj)).name)) rfl) ((He _ hv (((([(x.1.kind:UInt8)]:List UInt8)++Lib.uvarint x.1.session.toNat:List UInt8)++Lib.uvarint ((x.1.refs).length):List UInt8)++(x.1.refs.take i).flatMap Cf++ [((((x.1.refs).getD (i) Aj)).kind:UInt8)]) (RB.ofOwn jn) ((((x.1.refs).getD (i) Aj)).name) (by simp only[List.length_append,List.length_cons,List.length_nil];omega)).mono ?_))
   rintro e zy ⟨jo,rfl,cu⟩
   refine⟨_,rfl,?_⟩
   have oa:=hE.size
   have hw:=Ext.refl jm
   have zz:=hE.size
   have hE:=hE.trans cu.ext
   have c:=eb cu.ext c
   have q:=eb cu.ext q
   have r:=eb cu.ext r
   have aa:=eb cu.ext aa
   have ah:=eb cu.ext ah
   have hw:=hw.trans cu.ext
   have gv:=cu.own;clear cu
   have gv:=AL gv oa
   refine⟨.inr ⟨hE,c,q,r,aa,ah,trivial⟩,?_⟩
   refine Bm rfl (Yk.callA2 ER (vr jo rfl) (vr (AB ((((x.1.refs).getD (i) Aj)).new.1)) rfl) ((D9 _ jo ((((([(x.1.kind:UInt8)]:List UInt8)++Lib.uvarint x.1.session.toNat:List UInt8)++Lib.uvarint ((x.1.refs).length):List UInt8)++(x.1.refs.take i).flatMap Cf++ [((((x.1.refs).getD (i) Aj)).kind:UInt8)]:List UInt8)++Bz ((((x.1.refs).getD (i) Aj)).name)) (RB.ofOwn gv) (by simp only[List.length_append,List.length_cons,List.length_nil];omega) ((((x.1.refs).getD (i) Aj)).new)).mono ?_))
   rintro e z0 ⟨dq,rfl,cc⟩
   refine⟨_,rfl,?_⟩
   have ob:=hE.size
   have z1:=hE.size
   have z2:=hw.size
   have oc:OB dq j:=Bj cc.own (bl c)
   have od:OB dq aw:=Bj cc.own (bl q)
   have oe:OB dq a4:=Bj cc.own (bl r)
   have jp:OB dq ac:=Bj cc.own (bl aa)
   have hE:=hE.trans cc.ext
   have c:=eb cc.ext c
   have q:=eb cc.ext q
   have r:=eb cc.ext r
   have aa:=eb cc.ext aa
   have ah:=eb cc.ext ah
   have dr:=cc.own;clear cc
   have dr:=AL dr ob
   refine⟨.inr ⟨hE,c,q,r,aa,ah,trivial⟩,?_⟩
   refine Bm rfl (Yk.storeC (i:=0) (v:=dq) y (vr dq rfl) aa (Nat.le_of_ble_eq_true rfl) IQ (AY dr).1 (AY dr).2 fun z3 jq fi z4=> ?_)
   have hE:=Ae hE fi (Nat.le_trans gr (by omega))
   have c:=kb fi c (by omega)
   have q:=kb fi q (by omega)
   have r:=kb fi r (by omega)
   clear aa
   have dr:=AS dr fi jp
   have aa:=jq;clear jq
   have z5:=bl aa
   refine⟨.inl rfl,?_⟩
   refine Ft (bN (tN (n3 _ _ (wt (oS rfl (Yk.bin (xv:=NI i) (yv:=NI 1) cr rfl rfl (AN _ _ _ (by omega)) (oM rfl (Be [(0, .agg (msgC x).toArray),(1,PQ j 0),(2,(Value.slice none 0 0)),(3,NI 0),(4,PQ ac 0),(5,PQ aw 0),(6, .func (.func 49) #[] #[PQ aw 0,PQ ac 0]),(7,PQ a4 0),(9,PQ bt 0),(28, .bool (true)),(35,x.2.refs),(36,NI ((x.1.refs).length)),(37,NI ((i)+(1)))] ⟨T0,T1,T2,T3,y,T5,T6,f,rfl,dm,ef,eg,rfl,trivial⟩ fun og ⟨T0,T1,T2,T3,y,T5,T6,f,T9,dm,ef,eg,cr,_⟩=> ?_))))))))
   clear jl
   clear jn
   clear gv
   refine tN (And.intro ⟨i+1,dq,T0,T1,T2,T3,y,T5,T6,f,dm,ef,eg,cr,hE,c,q,r,aa,DG (AL dr (by omega)) (by rw[MS hlt];simp only[Cf,List.append_assoc]),by omega,oc,od,oe,jp,trivial⟩ ?_)
   show x.1.refs.length-(intOf (og 37)).toNat<x.1.refs.length-(intOf (nz 37)).toNat
   rw[cr,q37]
   simp only[intOf,Int.toNat_natCast];omega
  have hie:i=x.1.refs.length:=by omega
  have hLl:=Gm hp
  refine A6 (Aw (Aw (AM (tN (nr _ _ (sk fun z7 oh=>(sk fun z8 oi=>(wt (oS rfl (Yk.fieldAt LG f (oS rfl (Yk.cell1 CS rfl (vr (PQ a4 1) rfl) (Ac r (show(partsC (⟨true,false,false,false,false,false,false,false⟩:Ag))[1]? =some (.bool (false):Value)from BI (⟨true,false,false,false,false,false,false,false⟩:Ag))) (oZ (tN (oi _ _ (Al (vr (.bool (false)) rfl) (Ak (tN (oh _ _ (sk fun z9 oj=>(sk fun aaa ok=>(wt (oS rfl (Yk.fieldAt LH f ?_))))))))))))))))))))))))
  refine oS rfl (Yk.cell1 CS rfl (vr (PQ a4 2) rfl) (Ac r (show(partsC (⟨true,false,false,false,false,false,false,false⟩:Ag))[2]? =some (.bool (false):Value)from BJ (⟨true,false,false,false,false,false,false,false⟩:Ag))) (oZ (tN (ok _ _ (Al (vr (.bool (false)) rfl) (Ak (tN (oj _ _ (sk fun aab ol=>(sk fun aac om=>(wt (oS rfl (Yk.fieldAt LI f (oS rfl (Yk.cell1 CS rfl (vr (PQ a4 3) rfl) (Ac r (show(partsC (⟨true,false,false,false,false,false,false,false⟩:Ag))[3]? =some (.bool (false):Value)from BK (⟨true,false,false,false,false,false,false,false⟩:Ag))) (oZ (tN (om _ _ (Al (vr (.bool (false)) rfl) (Ak (tN (ol _ _ ?_))))))))))))))))))))))
  refine sk fun aad on=>(sk fun aae oo=>(wt (oS rfl (Yk.fieldAt LJ f (oS rfl (Yk.cell1 CS rfl (vr (PQ a4 4) rfl) (Ac r (show(partsC (⟨true,false,false,false,false,false,false,false⟩:Ag))[4]? =some (.bool (false):Value)from BL (⟨true,false,false,false,false,false,false,false⟩:Ag))) (oZ (tN (oo _ _ (Al (vr (.bool (false)) rfl) (Ak (tN (on _ _ (sk fun aaf op=>(sk fun aag oq=>(wt (oS rfl (Yk.fieldAt HT f (oS rfl (Yk.cell1 CS rfl (vr (PQ a4 5) rfl) (Ac r (show(partsC (⟨true,false,false,false,false,false,false,false⟩:Ag))[5]? =some (.bool (false):Value)from Bv (⟨true,false,false,false,false,false,false,false⟩:Ag))) (oZ ?_)))))))))))))))))))))
  refine tN (oq _ _ (Al (vr (.bool (false)) rfl) (Ak (tN (op _ _ (sk fun aah os=>(sk fun aai ot=>(wt (oS rfl (Yk.fieldAt HU f (oS rfl (Yk.cell1 CS rfl (vr (PQ a4 6) rfl) (Ac r (show(partsC (⟨true,false,false,false,false,false,false,false⟩:Ag))[6]? =some (.bool (false):Value)from Bw (⟨true,false,false,false,false,false,false,false⟩:Ag))) (oZ (tN (ot _ _ (Al (vr (.bool (false)) rfl) (Ak (tN (os _ _ (sk fun aaj ou=>(sk fun aak ov=> ?_)))))))))))))))))))))
  refine wt (oS rfl (Yk.fieldAt LL f (oS rfl (Yk.cell1 CS rfl (vr (PQ a4 7) rfl) (Ac r (show(partsC (⟨true,false,false,false,false,false,false,false⟩:Ag))[7]? =some (.bool (false):Value)from Bx (⟨true,false,false,false,false,false,false,false⟩:Ag))) (oZ (tN (ov _ _ (Al (vr (.bool (false)) rfl) (Ak (tN (ou _ _ (sk fun aal ow=>(wt (oS rfl (Yk.cell1 Ff rfl y (Ac aa (show _=some (vb1:Value)from rfl)) (oA rfl (oA rfl (oZ (tN (ow _ _ (Ap ?_)))))))))))))))))))))
  refine Ao (fn:=Tryd.f16) _ rfl [vb1,NI 0] (.tuple #[vb1,NI 0]) rfl ⟨rfl,rfl,trivial⟩ ?_
  have hen:((([(x.1.kind:UInt8)]:List UInt8)++Lib.uvarint x.1.session.toNat:List UInt8)++Lib.uvarint ((x.1.refs).length):List UInt8)++(x.1.refs.take i).flatMap Cf=BM x.1:=by unfold BM Ba;rw[hk];simp[List.append_assoc,hie]
  exact⟨vb1,by rw[hR];rfl,by rw[hR,if_pos rfl,←hen];exact RB.ofOwn b4,hE⟩
 ·refine Ak (tN (c8 _ _ (sk fun aam ox=>(wt (oS rfl (Yk.fieldAt HW (vr (PQ j 0) rfl) (oS rfl (Yk.cell1 u5 rfl (vr (PQ j 0) rfl) (Ac c (show(msgC x)[0]? =some (B8 (x.1.kind):Value)from BS x)) (oS rfl (Yk.lit1 (b:=x.1.kind) wr25_l1_26 (vr (B8 (x.1.kind)) rfl) fun fj oy fk=> ?_))))))))))
  have bh:=Ext.refl c9
  have aan:=hE.size
  have hE:=hE.trans fk.ext
  have c:=eb fk.ext c
  have bh:=bh.trans fk.ext
  have bu:=fk.own;clear fk
  refine oS rfl (Yk.alloc (cs:=([(Value.slice none 0 0)]).toArray) Dd fun am oz o0 jr fl aao=> ?_)
  have cd:=Ext.refl oy
  have gw:=hE.size
  have js:=bh.size
  have aap:=Bn (bl c) o0
  have o1:OB fj am:=AW bu (by omega)
  have hE:=hE.trans fl
  have c:=eb fl c
  have bh:=bh.trans fl
  have bu:=Stab.own _ _ _ _ _ _ _ _ bu fl
  have cd:=cd.trans fl
  have aj:=jr;clear jr
  have aaq:am<oz.heap.size:=by omega
  refine oS rfl (Yk.storeC (i:=0) (v:=fj) (vr (PQ am 0) rfl) (vr fj rfl) aj (Nat.le_of_ble_eq_true rfl) IQ (AY bu).1 (AY bu).2 fun aar jt fm aas=> ?_)
  have hE:=Ae hE fm (Nat.le_trans gw (by omega))
  have c:=kb fm c (by omega)
  have bh:=Ae bh fm (Nat.le_trans js (by omega))
  have bu:=AS bu fm o1
  have cd:=Ae cd fm (Nat.le_trans (Nat.le_refl _) (by omega))
  clear aj
  have aj:=jt;clear jt
  have aat:=bl aj
  refine oZ (tN (ox _ _ (sk fun aau o2=>(wt (oS rfl (Yk.mkFunc (vs:= #[PQ am 0]) (by simp only[List.map_toArray,List.map_cons,List.map_nil];exact congrArg List.toArray (DX (vr (PQ am 0) rfl))) (oS rfl (Yk.alloc (cs:=([Value.nilFunc]).toArray) De fun bi o3 ju jv eh aav=> ?_))))))))
  have o4:=hE.size
  have o5:=bh.size
  have o6:=cd.size
  have aaw:=Bn (bl c) ju
  have aax:=Bn (bl aj) ju
  have o7:OB fj bi:=AW bu (by omega)
  have hE:=hE.trans eh
  have c:=eb eh c
  have bh:=bh.trans eh
  have bu:=Stab.own _ _ _ _ _ _ _ _ bu eh
  have cd:=cd.trans eh
  have aj:=eb eh aj
  have a7:=jv;clear jv
  have aay:bi<o3.heap.size:=by omega
  refine oS rfl (Yk.storeC (i:=0) (v:= .func (.func 47) #[] #[PQ am 0]) (vr (PQ bi 0) rfl) (vr (.func (.func 47) #[] #[PQ am 0]) rfl) a7 (Nat.le_of_ble_eq_true rfl) wr6_isz89 rfl rfl fun aaz jw ei aa0=> ?_)
  have hE:=Ae hE ei (Nat.le_trans o4 (by omega))
  have c:=kb ei c (by omega)
  have bh:=Ae bh ei (Nat.le_trans o5 (by omega))
  have bu:=AS bu ei o7
  have cd:=Ae cd ei (Nat.le_trans o6 (by omega))
  have aj:=kb ei aj (by omega)
  clear a7
  have a7:=jw;clear jw
  have aa1:=bl a7
  refine oZ (tN (o2 _ _ (sk fun aa2 o8=>(wt (oS rfl (Yk.mkFunc (vs:= #[PQ bi 0,PQ am 0]) (by simp only[List.map_toArray,List.map_cons,List.map_nil];exact congrArg List.toArray (BO (vr (PQ bi 0) rfl) (vr (PQ am 0) rfl))) (oA rfl (oZ (tN (o8 _ _ (sk fun aa3 o9=>(wt (oS rfl (Yk.cell1 Oh rfl (vr (PQ bi 0) rfl) (Ac a7 (show _=some (.func (.func 47) #[] #[PQ am 0]:Value)from rfl)) (oS rfl (Yk.fieldAt LM (vr (PQ j 0) rfl) (oS rfl (Yk.cell1 Fs rfl (vr (PQ j 1) rfl) (Ac c (show(msgC x)[1]? =some (.int .i64 (x.1.session:Int):Value)from Db x)) (oS rfl (Yk.clo Oi (caps:= #[PQ am 0]) (vr (.func (.func 47) #[] #[PQ am 0]) rfl) #[.int .i64 (x.1.session:Int),PQ am 0] (by simp only[List.map_toArray,List.map_cons,List.map_nil,List.append_toArray,List.cons_append,List.nil_append];exact congrArg List.toArray (BO (vr (.int .i64 (x.1.session:Int)) rfl) rfl)) ((B0 w _ hE am (by omega) fj ([(x.1.kind:UInt8)]) aj (RB.ofOwn bu) (by simp only[List.length_append,List.length_cons,List.length_nil];omega) x.1.session (by omega) (by omega)).mono ?_)))))))))))))))))))))
  rintro e ds ⟨hy,rfl,jx,cv,fo⟩
  refine⟨_,rfl,?_⟩
  have cv:=AL cv hE.size
  have hE:=Ae hE fo (Nat.le_trans gw (by omega))
  have c:=kb fo c (by omega)
  have bh:=Ae bh fo (Nat.le_trans js (by omega))
  clear bu
  have cd:=Ae cd fo (Nat.le_trans (Nat.le_refl _) (by omega))
  clear aj
  have a7:=kb fo a7 (by omega)
  have aj:=jx;clear jx
  have aa4:=bl aj
  refine oZ (tN (o9 _ _ (sk fun aa5 pa=> ?_)))
  have pb:=hE.size
  have aa6:=bh.size
  have aa7:=cd.size
  have aa8:j<ds.heap.size:=(bl c)
  have aa9:bi<ds.heap.size:=(bl a7)
  have aba:am<ds.heap.size:=(bl aj)
  have pc:∀g,ds.heap.size≤g→OB hy g:=fun g hg=>AW cv hg
  refine Ci 5 _ [fun x w' =>∃b,x = .map (some b)∧MapF B8 AA (fun _:UInt8=>True) w' b AT,Is (PQ j 0),Is (B8 (x.1.kind)),Is (.agg (partsC (⟨false,true,false,false,false,false,false,false⟩:Ag)).toArray),fun x w' =>∃g,x=PQ g 0∧w'.heap[g]? =some (.cells (partsC (⟨false,false,false,false,false,false,false,false⟩:Ag)).toArray 92 (0,0))∧ds.heap.size≤g] (by kernel_rfl) [23,24,25,26,7] (by kernel_rfl) (by kernel_rfl) (by kernel_rfl) rfl rfl rfl ⟨(fun _ _ _ ⟨b,h1,h2⟩ k=>⟨b,h1,MapF.keep h2 k⟩),Stab.is _,Stab.is _,Stab.is _,(fun _ _ _ ⟨g,h1,h2,h3⟩ k=>⟨g,h1,eb k h2,h3⟩),trivial⟩ ?pd ?hQ5007
  case pd=>
   refine⟨?_,?_,?_,?_,?_,?_,trivial⟩
   ·refine Ah (Aa rfl fun σ w1 hC h=>(Yk.callA0 JM ((Ca _).mono ?_)))
    rintro e w2 ⟨b,rfl,hmk,hx,hom⟩
    exact⟨_,rfl,hx,⟨b,rfl,hmk⟩⟩
   ·refine Ah (Aa rfl fun σ w1 hC h=> ?_)
    have e1:σ 1=PQ j 0:=(Ad (h 1 (by decide))).trans rfl
    exact Yk.fieldAt HW e1 ⟨Ext.refl _,rfl⟩
   ·refine Ah (Aa rfl fun σ w1 hC h=> ?_)
    have bc:=Ad (h 24 (by decide))
    exact Yk.cell1 u5 rfl bc (Ac (eb hC c) (show(msgC x)[0]? =some (B8 (x.1.kind):Value)from BS x)) ⟨Ext.refl _,rfl⟩
   ·refine Ah (Aa rfl fun σ w1 hC h=> ?_)
    have bd:(fun x w' =>∃b,x = .map (some b)∧MapF B8 AA (fun _:UInt8=>True) w' b AT) (σ 23) w1:=h 23 (by decide)
    have be:=Ad (h 25 (by decide))
    obtain⟨b6,k6,m6⟩:=(show ∃b,σ 23 = .map (some b)∧MapF B8 AA (fun _:UInt8=>True) w1 b AT from bd)
    exact Yk.lookMS (ek:=B8) (ev:=AA) (D:=fun _:UInt8=>True) Cn Co (fun _ _=>C2) CG (z:=AA Bl) B9 k6 be m6 trivial hK ⟨Ext.refl _,rfl⟩
   ·refine Ah (Aa rfl fun σ w1 hC h=> ?_)
    exact Yk.alloc (cs:=(partsC (⟨false,false,false,false,false,false,false,false⟩:Ag)).toArray) JN fun g w2 hn hb hx hs=>⟨hx,g,rfl,hb,Nat.le_trans (show Ext ds w1 from hC).size (Nat.le_of_eq hn)⟩
   ·exact trivial
  intro hz pe fp he hf
  obtain⟨-,-,-,k26,k7,-⟩:=hf
  obtain⟨T0,T1,T2,T3,y,T5,T6,-⟩:=he.hold [(0,_),(1,PQ j 0),(2,(Value.slice none 0 0)),(3,NI 0),(4,PQ am 0),(5,PQ bi 0),(6, .func (.func 49) #[] #[PQ bi 0,PQ am 0])] ⟨T0,rfl,rfl,rfl,rfl,rfl,rfl,trivial⟩ rfl
  clear he
  have hE:=hE.trans fp
  have c:=eb fp c
  have a7:=eb fp a7
  have aj:=eb fp aj
  have cv:=Stab.own _ _ _ _ _ _ _ _ cv fp
  have bf:hz 26 = .agg (partsC (⟨false,true,false,false,false,false,false,false⟩:Ag)).toArray:=k26
  have k7:(fun x w' =>∃g,x=PQ g 0∧w'.heap[g]? =some (.cells (partsC (⟨false,false,false,false,false,false,false,false⟩:Ag)).toArray 92 (0,0))∧ds.heap.size≤g) (hz 7) pe:=k7
  obtain⟨abb,f⟩:∃v,hz 7=v:=⟨_,rfl⟩
  rw[f]at k7
  have pf:=k7;clear k7
  obtain⟨cj,rfl,a6,pg⟩:=pf
  have abc:=bl a6
  have ph:OB hy cj:=pc _ pg
  clear k26
  refine(Yk.storeAll f bf a6 (by simp only[List.size_toArray,Bq]) (AF (Bq _) Gj) (B7 (x:=(⟨false,true,false,false,false,false,false,false⟩:Ag))) fun pi jy fq abd=> ?_)
  have hE:=Ae hE fq (Nat.le_trans pb (by omega))
  have c:=kb fq c (by omega)
  have a7:=kb fq a7 (by omega)
  have aj:=kb fq aj (by omega)
  have cv:=AS cv fq ph
  clear a6
  have a6:pi.heap[cj]? =some (.cells (partsC (⟨false,true,false,false,false,false,false,false⟩:Ag)).toArray 92 (0,0)):=jy;clear jy
  have abe:=bl a6
  refine tN (pa _ _ (sk fun abf pj=>(sk fun abg pk=>(wt (oS rfl (Yk.fieldAt LF f (oS rfl (Yk.cell1 CS rfl (vr (PQ cj 0) rfl) (Ac a6 (show(partsC (⟨false,true,false,false,false,false,false,false⟩:Ag))[0]? =some (.bool (false):Value)from BH (⟨false,true,false,false,false,false,false,false⟩:Ag))) (oZ (tN (pk _ _ (Al (vr (.bool (false)) rfl) (Ak (tN (pj _ _ (sk fun abh pl=>(sk fun abi pm=>(wt (oS rfl (Yk.fieldAt LG f (oS rfl (Yk.cell1 CS rfl (vr (PQ cj 1) rfl) (Ac a6 (show(partsC (⟨false,true,false,false,false,false,false,false⟩:Ag))[1]? =some (.bool (true):Value)from BI (⟨false,true,false,false,false,false,false,false⟩:Ag))) ?_))))))))))))))))))))))
  refine oZ (tN (pm _ _ (AE (vr (.bool (true)) rfl) (sk fun abj pn=>(wt (oM rfl (oS rfl (Yk.fieldAt HM T1 (oS rfl (Yk.cell1 BT rfl (vr (PQ j 3) rfl) (Ac c (show(msgC x)[3]? =some (x.2.wants:Value)from Fj x)) (oS rfl (Yk.clo JX (caps:= #[PQ bi 0,PQ am 0]) T6 #[x.2.wants,PQ bi 0,PQ am 0] (by simp only[List.map_toArray,List.map_cons,List.map_nil,List.append_toArray,List.cons_append,List.nil_append];exact congrArg List.toArray (Jk (vr x.2.wants rfl) rfl rfl)) ((enc2_any w _ hE am bi (by omega) (by omega) (by omega) hy (([(x.1.kind:UInt8)]:List UInt8)++Lib.uvarint x.1.session.toNat) aj (RB.ofOwn cv) a7 _ x.1.wants hm.wants (by omega) (by simp only[List.length_append,List.length_cons,List.length_nil];omega)).mono ?_)))))))))))))
  rintro e abk ⟨po,rfl,jz,gx,abl,gy⟩
  refine⟨_,rfl,?_⟩
  have gx:=AL gx hE.size
  have hidlq452:=JR (RG.lens hm.wants) (by omega)
  have hE:=Ae hE gy (Nat.le_trans gw (by omega))
  have c:=kb gy c (by omega)
  have a7:=kb gy a7 (by omega)
  clear aj
  clear cv
  have a6:=kb gy a6 (by omega)
  have aj:=jz;clear jz
  have abm:=bl aj
  refine oZ (tN (pn _ _ (wt (oM rfl (oS rfl (Yk.fieldAt HN T1 (oS rfl (Yk.cell1 BT rfl (vr (PQ j 4) rfl) (Ac c (show(msgC x)[4]? =some (x.2.haves:Value)from Fk x)) (oS rfl (Yk.clo JX (caps:= #[PQ bi 0,PQ am 0]) T6 #[x.2.haves,PQ bi 0,PQ am 0] (by simp only[List.map_toArray,List.map_cons,List.map_nil,List.append_toArray,List.cons_append,List.nil_append];exact congrArg List.toArray (Jk (vr x.2.haves rfl) rfl rfl)) ((enc2_any w _ hE am bi (by omega) (by omega) (by omega) po ((([(x.1.kind:UInt8)]:List UInt8)++Lib.uvarint x.1.session.toNat:List UInt8)++CY x.1.wants) aj (RB.ofOwn gx) a7 _ x.1.haves hm.haves (by omega) (by simp only[List.length_append,List.length_cons,List.length_nil];omega)).mono ?_)))))))))))
  rintro e abn ⟨gz,rfl,j0,h0,abo,h4⟩
  refine⟨_,rfl,?_⟩
  have h0:=AL h0 hE.size
  have hidlq463:=JR (RG.lens hm.haves) (by omega)
  have hE:=Ae hE h4 (Nat.le_trans gw (by omega))
  have c:=kb h4 c (by omega)
  have a6:=kb h4 a6 (by omega)
  clear aj
  clear gx
  have aj:=j0;clear j0
  have abp:=bl aj
  refine oZ (tN (pl _ _ (sk fun abq pp=>(sk fun abr pq=>(wt (oS rfl (Yk.fieldAt LH f (oS rfl (Yk.cell1 CS rfl (vr (PQ cj 2) rfl) (Ac a6 (show(partsC (⟨false,true,false,false,false,false,false,false⟩:Ag))[2]? =some (.bool (false):Value)from BJ (⟨false,true,false,false,false,false,false,false⟩:Ag))) (oZ (tN (pq _ _ (Al (vr (.bool (false)) rfl) (Ak (tN (pp _ _ (sk fun abs pr=>(sk fun abt ps=>(wt (oS rfl (Yk.fieldAt LI f ?_)))))))))))))))))))))
  refine oS rfl (Yk.cell1 CS rfl (vr (PQ cj 3) rfl) (Ac a6 (show(partsC (⟨false,true,false,false,false,false,false,false⟩:Ag))[3]? =some (.bool (false):Value)from BK (⟨false,true,false,false,false,false,false,false⟩:Ag))) (oZ (tN (ps _ _ (Al (vr (.bool (false)) rfl) (Ak (tN (pr _ _ (sk fun abu pt=>(sk fun abv pu=>(wt (oS rfl (Yk.fieldAt LJ f (oS rfl (Yk.cell1 CS rfl (vr (PQ cj 4) rfl) (Ac a6 (show(partsC (⟨false,true,false,false,false,false,false,false⟩:Ag))[4]? =some (.bool (false):Value)from BL (⟨false,true,false,false,false,false,false,false⟩:Ag))) (oZ (tN (pu _ _ (Al (vr (.bool (false)) rfl) (Ak (tN (pt _ _ ?_))))))))))))))))))))))
  refine sk fun abw pv=>(sk fun abx pw=>(wt (oS rfl (Yk.fieldAt HT f (oS rfl (Yk.cell1 CS rfl (vr (PQ cj 5) rfl) (Ac a6 (show(partsC (⟨false,true,false,false,false,false,false,false⟩:Ag))[5]? =some (.bool (false):Value)from Bv (⟨false,true,false,false,false,false,false,false⟩:Ag))) (oZ (tN (pw _ _ (Al (vr (.bool (false)) rfl) (Ak (tN (pv _ _ (sk fun aby px=>(sk fun abz py=>(wt (oS rfl (Yk.fieldAt HU f (oS rfl (Yk.cell1 CS rfl (vr (PQ cj 6) rfl) (Ac a6 (show(partsC (⟨false,true,false,false,false,false,false,false⟩:Ag))[6]? =some (.bool (false):Value)from Bw (⟨false,true,false,false,false,false,false,false⟩:Ag))) (oZ ?_)))))))))))))))))))))
  refine tN (py _ _ (Al (vr (.bool (false)) rfl) (Ak (tN (px _ _ (sk fun ab0 pz=>(sk fun ab1 p0=>(wt (oS rfl (Yk.fieldAt LL f (oS rfl (Yk.cell1 CS rfl (vr (PQ cj 7) rfl) (Ac a6 (show(partsC (⟨false,true,false,false,false,false,false,false⟩:Ag))[7]? =some (.bool (false):Value)from Bx (⟨false,true,false,false,false,false,false,false⟩:Ag))) (oZ (tN (p0 _ _ (Al (vr (.bool (false)) rfl) (Ak (tN (pz _ _ (sk fun ab2 p1=>(wt ?_)))))))))))))))))))))
  refine oS rfl (Yk.cell1 Ff rfl y (Ac aj (show _=some (gz:Value)from rfl)) (oA rfl (oA rfl (oZ (tN (p1 _ _ (Ap (Ao (fn:=Tryd.f16) _ rfl [gz,NI 0] (.tuple #[gz,NI 0]) rfl ⟨rfl,rfl,trivial⟩ ?_))))))))
  have hen:((([(x.1.kind:UInt8)]:List UInt8)++Lib.uvarint x.1.session.toNat:List UInt8)++CY x.1.wants:List UInt8)++CY x.1.haves=BM x.1:=by unfold BM Ba;rw[hk];simp[List.append_assoc]
  exact⟨gz,by rw[hR];rfl,by rw[hR,if_pos rfl,←hen];exact RB.ofOwn h0,hE⟩
 ·refine Ak (tN (c8 _ _ (sk fun ab3 p2=>(wt (oS rfl (Yk.fieldAt HW (vr (PQ j 0) rfl) (oS rfl (Yk.cell1 u5 rfl (vr (PQ j 0) rfl) (Ac c (show(msgC x)[0]? =some (B8 (x.1.kind):Value)from BS x)) (oS rfl (Yk.lit1 (b:=x.1.kind) wr25_l1_26 (vr (B8 (x.1.kind)) rfl) fun fr p3 fs=> ?_))))))))))
  have bj:=Ext.refl c9
  have ab4:=hE.size
  have hE:=hE.trans fs.ext
  have c:=eb fs.ext c
  have bj:=bj.trans fs.ext
  have bv:=fs.own;clear fs
  refine oS rfl (Yk.alloc (cs:=([(Value.slice none 0 0)]).toArray) Dd fun an p4 p5 j1 ft ab5=> ?_)
  have ay:=Ext.refl p3
  have g0:=hE.size
  have j2:=bj.size
  have ab6:=Bn (bl c) p5
  have p6:OB fr an:=AW bv (by omega)
  have hE:=hE.trans ft
  have c:=eb ft c
  have bj:=bj.trans ft
  have bv:=Stab.own _ _ _ _ _ _ _ _ bv ft
  have ay:=ay.trans ft
  have af:=j1;clear j1
  have ab7:an<p4.heap.size:=by omega
  refine oS rfl (Yk.storeC (i:=0) (v:=fr) (vr (PQ an 0) rfl) (vr fr rfl) af (Nat.le_of_ble_eq_true rfl) IQ (AY bv).1 (AY bv).2 fun ab8 j3 fu ab9=> ?_)
  have hE:=Ae hE fu (Nat.le_trans g0 (by omega))
  have c:=kb fu c (by omega)
  have bj:=Ae bj fu (Nat.le_trans j2 (by omega))
  have bv:=AS bv fu p6
  have ay:=Ae ay fu (Nat.le_trans (Nat.le_refl _) (by omega))
  clear af
  have af:=j3;clear j3
  have aca:=bl af
  refine oZ (tN (p2 _ _ (sk fun acb p7=>(wt (oS rfl (Yk.mkFunc (vs:= #[PQ an 0]) (by simp only[List.map_toArray,List.map_cons,List.map_nil];exact congrArg List.toArray (DX (vr (PQ an 0) rfl))) (oS rfl (Yk.alloc (cs:=([Value.nilFunc]).toArray) De fun cw p8 j4 j5 ej acc=> ?_))))))))
  have p9:=hE.size
  have qa:=bj.size
  have qb:=ay.size
  have acd:=Bn (bl c) j4
  have ace:=Bn (bl af) j4
  have qc:OB fr cw:=AW bv (by omega)
  have hE:=hE.trans ej
  have c:=eb ej c
  have bj:=bj.trans ej
  have bv:=Stab.own _ _ _ _ _ _ _ _ bv ej
  have ay:=ay.trans ej
  have af:=eb ej af
  have b5:=j5;clear j5
  have acf:cw<p8.heap.size:=by omega
  refine oS rfl (Yk.storeC (i:=0) (v:= .func (.func 47) #[] #[PQ an 0]) (vr (PQ cw 0) rfl) (vr (.func (.func 47) #[] #[PQ an 0]) rfl) b5 (Nat.le_of_ble_eq_true rfl) wr6_isz89 rfl rfl fun acg j6 el ach=> ?_)
  have hE:=Ae hE el (Nat.le_trans p9 (by omega))
  have c:=kb el c (by omega)
  have bj:=Ae bj el (Nat.le_trans qa (by omega))
  have bv:=AS bv el qc
  have ay:=Ae ay el (Nat.le_trans qb (by omega))
  have af:=kb el af (by omega)
  clear b5
  have b5:=j6;clear j6
  have aci:=bl b5
  refine oZ (tN (p7 _ _ (sk fun acj qd=>(wt (oS rfl (Yk.mkFunc (vs:= #[PQ cw 0,PQ an 0]) (by simp only[List.map_toArray,List.map_cons,List.map_nil];exact congrArg List.toArray (BO (vr (PQ cw 0) rfl) (vr (PQ an 0) rfl))) (oA rfl (oZ (tN (qd _ _ (sk fun ack qe=>(wt (oS rfl (Yk.cell1 Oh rfl (vr (PQ cw 0) rfl) (Ac b5 (show _=some (.func (.func 47) #[] #[PQ an 0]:Value)from rfl)) (oS rfl (Yk.fieldAt LM (vr (PQ j 0) rfl) (oS rfl (Yk.cell1 Fs rfl (vr (PQ j 1) rfl) (Ac c (show(msgC x)[1]? =some (.int .i64 (x.1.session:Int):Value)from Db x)) (oS rfl (Yk.clo Oi (caps:= #[PQ an 0]) (vr (.func (.func 47) #[] #[PQ an 0]) rfl) #[.int .i64 (x.1.session:Int),PQ an 0] (by simp only[List.map_toArray,List.map_cons,List.map_nil,List.append_toArray,List.cons_append,List.nil_append];exact congrArg List.toArray (BO (vr (.int .i64 (x.1.session:Int)) rfl) rfl)) ((B0 w _ hE an (by omega) fr ([(x.1.kind:UInt8)]) af (RB.ofOwn bv) (by simp only[List.length_append,List.length_cons,List.length_nil];omega) x.1.session (by omega) (by omega)).mono ?_)))))))))))))))))))))
  rintro e dt ⟨h5,rfl,j7,cx,fv⟩
  refine⟨_,rfl,?_⟩
  have cx:=AL cx hE.size
  have hE:=Ae hE fv (Nat.le_trans g0 (by omega))
  have c:=kb fv c (by omega)
  have bj:=Ae bj fv (Nat.le_trans j2 (by omega))
  clear bv
  have ay:=Ae ay fv (Nat.le_trans (Nat.le_refl _) (by omega))
  clear af
  have b5:=kb fv b5 (by omega)
  have af:=j7;clear j7
  have acl:=bl af
  refine oZ (tN (qe _ _ (sk fun acm qf=> ?_)))
  have qg:=hE.size
  have acn:=bj.size
  have qh:=ay.size
  have aco:j<dt.heap.size:=(bl c)
  have acp:cw<dt.heap.size:=(bl b5)
  have acq:an<dt.heap.size:=(bl af)
  have qi:∀g,dt.heap.size≤g→OB h5 g:=fun g hg=>AW cx hg
  refine Ci 5 _ [fun x w' =>∃b,x = .map (some b)∧MapF B8 AA (fun _:UInt8=>True) w' b AT,Is (PQ j 0),Is (B8 (x.1.kind)),Is (.agg (partsC (⟨false,false,true,false,true,false,false,false⟩:Ag)).toArray),fun x w' =>∃g,x=PQ g 0∧w'.heap[g]? =some (.cells (partsC (⟨false,false,false,false,false,false,false,false⟩:Ag)).toArray 92 (0,0))∧dt.heap.size≤g] (by kernel_rfl) [23,24,25,26,7] (by kernel_rfl) (by kernel_rfl) (by kernel_rfl) rfl rfl rfl ⟨(fun _ _ _ ⟨b,h1,h2⟩ k=>⟨b,h1,MapF.keep h2 k⟩),Stab.is _,Stab.is _,Stab.is _,(fun _ _ _ ⟨g,h1,h2,h3⟩ k=>⟨g,h1,eb k h2,h3⟩),trivial⟩ ?qj ?hQ6007
  case qj=>
   refine⟨?_,?_,?_,?_,?_,?_,trivial⟩
   ·refine Ah (Aa rfl fun σ w1 hC h=>(Yk.callA0 JM ((Ca _).mono ?_)))
    rintro e w2 ⟨b,rfl,hmk,hx,hom⟩
    exact⟨_,rfl,hx,⟨b,rfl,hmk⟩⟩
   ·refine Ah (Aa rfl fun σ w1 hC h=> ?_)
    have e1:σ 1=PQ j 0:=(Ad (h 1 (by decide))).trans rfl
    exact Yk.fieldAt HW e1 ⟨Ext.refl _,rfl⟩
   ·refine Ah (Aa rfl fun σ w1 hC h=> ?_)
    have bc:=Ad (h 24 (by decide))
    exact Yk.cell1 u5 rfl bc (Ac (eb hC c) (show(msgC x)[0]? =some (B8 (x.1.kind):Value)from BS x)) ⟨Ext.refl _,rfl⟩
   ·refine Ah (Aa rfl fun σ w1 hC h=> ?_)
    have bd:(fun x w' =>∃b,x = .map (some b)∧MapF B8 AA (fun _:UInt8=>True) w' b AT) (σ 23) w1:=h 23 (by decide)
    have be:=Ad (h 25 (by decide))
    obtain⟨b6,k6,m6⟩:=(show ∃b,σ 23 = .map (some b)∧MapF B8 AA (fun _:UInt8=>True) w1 b AT from bd)
    exact Yk.lookMS (ek:=B8) (ev:=AA) (D:=fun _:UInt8=>True) Cn Co (fun _ _=>C2) CG (z:=AA Bl) B9 k6 be m6 trivial hK ⟨Ext.refl _,rfl⟩
   ·refine Ah (Aa rfl fun σ w1 hC h=> ?_)
    exact Yk.alloc (cs:=(partsC (⟨false,false,false,false,false,false,false,false⟩:Ag)).toArray) JN fun g w2 hn hb hx hs=>⟨hx,g,rfl,hb,Nat.le_trans (show Ext dt w1 from hC).size (Nat.le_of_eq hn)⟩
   ·exact trivial
  intro h6 qk em he hf
  obtain⟨-,-,-,k26,k7,-⟩:=hf
  obtain⟨T0,T1,T2,T3,y,T5,T6,-⟩:=he.hold [(0,_),(1,PQ j 0),(2,(Value.slice none 0 0)),(3,NI 0),(4,PQ an 0),(5,PQ cw 0),(6, .func (.func 49) #[] #[PQ cw 0,PQ an 0])] ⟨T0,rfl,rfl,rfl,rfl,rfl,rfl,trivial⟩ rfl
  clear he
  have hE:=hE.trans em
  have c:=eb em c
  have ay:=ay.trans em
  have b5:=eb em b5
  have af:=eb em af
  have cx:=Stab.own _ _ _ _ _ _ _ _ cx em
  have bf:h6 26 = .agg (partsC (⟨false,false,true,false,true,false,false,false⟩:Ag)).toArray:=k26
  have k7:(fun x w' =>∃g,x=PQ g 0∧w'.heap[g]? =some (.cells (partsC (⟨false,false,false,false,false,false,false,false⟩:Ag)).toArray 92 (0,0))∧dt.heap.size≤g) (h6 7) qk:=k7
  obtain⟨acr,f⟩:∃v,h6 7=v:=⟨_,rfl⟩
  rw[f]at k7
  have ql:=k7;clear k7
  obtain⟨ck,rfl,az,qm⟩:=ql
  have acs:=bl az
  have qn:OB h5 ck:=qi _ qm
  clear k26
  refine(Yk.storeAll f bf az (by simp only[List.size_toArray,Bq]) (AF (Bq _) Gj) (B7 (x:=(⟨false,false,true,false,true,false,false,false⟩:Ag))) fun qo j8 en act=> ?_)
  have hE:=Ae hE en (Nat.le_trans qg (by omega))
  have c:=kb en c (by omega)
  have ay:=Ae ay en (Nat.le_trans qh (by omega))
  have b5:=kb en b5 (by omega)
  have af:=kb en af (by omega)
  have cx:=AS cx en qn
  clear az
  have az:qo.heap[ck]? =some (.cells (partsC (⟨false,false,true,false,true,false,false,false⟩:Ag)).toArray 92 (0,0)):=j8;clear j8
  have acu:=bl az
  refine tN (qf _ _ (sk fun acv qp=>(sk fun acw qq=>(wt (oS rfl (Yk.fieldAt LF f (oS rfl (Yk.cell1 CS rfl (vr (PQ ck 0) rfl) (Ac az (show(partsC (⟨false,false,true,false,true,false,false,false⟩:Ag))[0]? =some (.bool (false):Value)from BH (⟨false,false,true,false,true,false,false,false⟩:Ag))) (oZ (tN (qq _ _ (Al (vr (.bool (false)) rfl) (Ak (tN (qp _ _ (sk fun acx qr=>(sk fun acy qs=>(wt (oS rfl (Yk.fieldAt LG f (oS rfl (Yk.cell1 CS rfl (vr (PQ ck 1) rfl) (Ac az (show(partsC (⟨false,false,true,false,true,false,false,false⟩:Ag))[1]? =some (.bool (false):Value)from BI (⟨false,false,true,false,true,false,false,false⟩:Ag))) ?_))))))))))))))))))))))
  refine oZ (tN (qs _ _ (Al (vr (.bool (false)) rfl) (Ak (tN (qr _ _ (sk fun acz qt=>(sk fun ac0 qu=>(wt (oS rfl (Yk.fieldAt LH f (oS rfl (Yk.cell1 CS rfl (vr (PQ ck 2) rfl) (Ac az (show(partsC (⟨false,false,true,false,true,false,false,false⟩:Ag))[2]? =some (.bool (true):Value)from BJ (⟨false,false,true,false,true,false,false,false⟩:Ag))) (oZ (tN (qu _ _ (AE (vr (.bool (true)) rfl) (wt (oS rfl (Yk.cell1 Oh rfl T5 (Ac b5 (show _=some (.func (.func 47) #[] #[PQ an 0]:Value)from rfl)) (oS rfl (Yk.fieldAt HP T1 ?_))))))))))))))))))))))
  refine oS rfl (Yk.cell1 Fs rfl (vr (PQ j 5) rfl) (Ac c (show(msgC x)[5]? =some (.int .i64 (x.1.size:Int):Value)from Fl x)) (oS rfl (Yk.clo Oi (caps:= #[PQ an 0]) (vr (.func (.func 47) #[] #[PQ an 0]) rfl) #[.int .i64 (x.1.size:Int),PQ an 0] (by simp only[List.map_toArray,List.map_cons,List.map_nil,List.append_toArray,List.cons_append,List.nil_append];exact congrArg List.toArray (BO (vr (.int .i64 (x.1.size:Int)) rfl) rfl)) ((B0 w _ hE an (by omega) h5 (([(x.1.kind:UInt8)]:List UInt8)++Lib.uvarint x.1.session.toNat) af (RB.ofOwn cx) (by simp only[List.length_append,List.length_cons,List.length_nil];omega) x.1.size (by omega) (by omega)).mono ?_))))
  rintro e ac1 ⟨h7,rfl,j9,g1,g2⟩
  refine⟨_,rfl,?_⟩
  have g1:=AL g1 hE.size
  have hE:=Ae hE g2 (Nat.le_trans g0 (by omega))
  have c:=kb g2 c (by omega)
  have ay:=Ae ay g2 (Nat.le_trans (Nat.le_refl _) (by omega))
  clear af
  clear cx
  have az:=kb g2 az (by omega)
  have af:=j9;clear j9
  have ac2:=bl af
  refine oZ (tN (qt _ _ (sk fun ac3 qv=>(sk fun ac4 qw=>(wt (oS rfl (Yk.fieldAt LI f (oS rfl (Yk.cell1 CS rfl (vr (PQ ck 3) rfl) (Ac az (show(partsC (⟨false,false,true,false,true,false,false,false⟩:Ag))[3]? =some (.bool (false):Value)from BK (⟨false,false,true,false,true,false,false,false⟩:Ag))) (oZ (tN (qw _ _ (Al (vr (.bool (false)) rfl) (Ak (tN (qv _ _ (sk fun ac5 qx=>(sk fun ac6 qy=>(wt (oS rfl (Yk.fieldAt LJ f ?_)))))))))))))))))))))
  refine oS rfl (Yk.cell1 CS rfl (vr (PQ ck 4) rfl) (Ac az (show(partsC (⟨false,false,true,false,true,false,false,false⟩:Ag))[4]? =some (.bool (true):Value)from BL (⟨false,false,true,false,true,false,false,false⟩:Ag))) (oZ (tN (qy _ _ (AE (vr (.bool (true)) rfl) (wt (oS rfl (Yk.cell1 Ff rfl y (Ac af (show _=some (h7:Value)from rfl)) (oS rfl (Yk.fieldAt LK T1 (oS rfl (Yk.loadPR (PR.blk c (D4 x) (EL x) (vr (PQ j 7) rfl)) OA rfl (AH x.1.id.2) (oS rfl (Yk.callA2 ER (vr h7 rfl) (vr (AB x.1.id.1) rfl) ((D9 _ h7 ((([(x.1.kind:UInt8)]:List UInt8)++Lib.uvarint x.1.session.toNat:List UInt8)++Lib.uvarint x.1.size.toNat) (RB.ofOwn g1) (by simp only[List.length_append,List.length_cons,List.length_nil];omega) x.1.id).mono ?_)))))))))))))))
  rintro e ac7 ⟨du,rfl,dv⟩
  refine⟨_,rfl,?_⟩
  have qz:=hE.size
  have ac8:=hE.size
  have ac9:=ay.size
  have q0:OB du an:=Bj dv.own (bl af)
  have hE:=hE.trans dv.ext
  have c:=eb dv.ext c
  have az:=eb dv.ext az
  have af:=eb dv.ext af
  have dw:=dv.own;clear dv
  have dw:=AL dw qz
  refine oS rfl (Yk.storeC (i:=0) (v:=du) y (vr du rfl) af (Nat.le_of_ble_eq_true rfl) IQ (AY dw).1 (AY dw).2 fun ada ka g3 adb=> ?_)
  have hE:=Ae hE g3 (Nat.le_trans g0 (by omega))
  have c:=kb g3 c (by omega)
  have az:=kb g3 az (by omega)
  clear af
  have dw:=AS dw g3 q0
  have af:=ka;clear ka
  have adc:=bl af
  refine oZ ?_
  clear g1
  refine tN (qx _ _ (sk fun add q1=>(sk fun ade q2=>(wt (oS rfl (Yk.fieldAt HT f (oS rfl (Yk.cell1 CS rfl (vr (PQ ck 5) rfl) (Ac az (show(partsC (⟨false,false,true,false,true,false,false,false⟩:Ag))[5]? =some (.bool (false):Value)from Bv (⟨false,false,true,false,true,false,false,false⟩:Ag))) (oZ (tN (q2 _ _ (Al (vr (.bool (false)) rfl) (Ak (tN (q1 _ _ (sk fun adf q3=>(sk fun adg q4=>(wt (oS rfl (Yk.fieldAt HU f (oS rfl (Yk.cell1 CS rfl (vr (PQ ck 6) rfl) (Ac az (show(partsC (⟨false,false,true,false,true,false,false,false⟩:Ag))[6]? =some (.bool (false):Value)from Bw (⟨false,false,true,false,true,false,false,false⟩:Ag))) ?_))))))))))))))))))))))
  refine oZ (tN (q4 _ _ (Al (vr (.bool (false)) rfl) (Ak (tN (q3 _ _ (sk fun adh q5=>(sk fun adi q6=>(wt (oS rfl (Yk.fieldAt LL f (oS rfl (Yk.cell1 CS rfl (vr (PQ ck 7) rfl) (Ac az (show(partsC (⟨false,false,true,false,true,false,false,false⟩:Ag))[7]? =some (.bool (false):Value)from Bx (⟨false,false,true,false,true,false,false,false⟩:Ag))) (oZ (tN (q6 _ _ (Al (vr (.bool (false)) rfl) (Ak (tN (q5 _ _ (sk fun adj q7=> ?_)))))))))))))))))))))
  refine wt (oS rfl (Yk.cell1 Ff rfl y (Ac af (show _=some (du:Value)from rfl)) (oA rfl (oA rfl (oZ (tN (q7 _ _ (Ap (Ao (fn:=Tryd.f16) _ rfl [du,NI 0] (.tuple #[du,NI 0]) rfl ⟨rfl,rfl,trivial⟩ ?_)))))))))
  have hen:((([(x.1.kind:UInt8)]:List UInt8)++Lib.uvarint x.1.session.toNat:List UInt8)++Lib.uvarint x.1.size.toNat:List UInt8)++x.1.id.1=BM x.1:=by unfold BM Ba;rw[hk];simp[List.append_assoc]
  exact⟨du,by rw[hR];rfl,by rw[hR,if_pos rfl,←hen];exact RB.ofOwn dw,hE⟩
 ·refine Ak (tN (c8 _ _ (sk fun adk q8=>(wt (oS rfl (Yk.fieldAt HW (vr (PQ j 0) rfl) (oS rfl (Yk.cell1 u5 rfl (vr (PQ j 0) rfl) (Ac c (show(msgC x)[0]? =some (B8 (x.1.kind):Value)from BS x)) (oS rfl (Yk.lit1 (b:=x.1.kind) wr25_l1_26 (vr (B8 (x.1.kind)) rfl) fun fw q9 fx=> ?_))))))))))
  have bk:=Ext.refl c9
  have adl:=hE.size
  have hE:=hE.trans fx.ext
  have c:=eb fx.ext c
  have bk:=bk.trans fx.ext
  have bw:=fx.own;clear fx
  refine oS rfl (Yk.alloc (cs:=([(Value.slice none 0 0)]).toArray) Dd fun ar ra rb kc fy adm=> ?_)
  have ce:=Ext.refl q9
  have h8:=hE.size
  have kd:=bk.size
  have adn:=Bn (bl c) rb
  have rc:OB fw ar:=AW bw (by omega)
  have hE:=hE.trans fy
  have c:=eb fy c
  have bk:=bk.trans fy
  have bw:=Stab.own _ _ _ _ _ _ _ _ bw fy
  have ce:=ce.trans fy
  have ao:=kc;clear kc
  have ado:ar<ra.heap.size:=by omega
  refine oS rfl (Yk.storeC (i:=0) (v:=fw) (vr (PQ ar 0) rfl) (vr fw rfl) ao (Nat.le_of_ble_eq_true rfl) IQ (AY bw).1 (AY bw).2 fun adp ke fz adq=> ?_)
  have hE:=Ae hE fz (Nat.le_trans h8 (by omega))
  have c:=kb fz c (by omega)
  have bk:=Ae bk fz (Nat.le_trans kd (by omega))
  have bw:=AS bw fz rc
  have ce:=Ae ce fz (Nat.le_trans (Nat.le_refl _) (by omega))
  clear ao
  have ao:=ke;clear ke
  have adr:=bl ao
  refine oZ (tN (q8 _ _ (sk fun ads rd=>(wt (oS rfl (Yk.mkFunc (vs:= #[PQ ar 0]) (by simp only[List.map_toArray,List.map_cons,List.map_nil];exact congrArg List.toArray (DX (vr (PQ ar 0) rfl))) (oS rfl (Yk.alloc (cs:=([Value.nilFunc]).toArray) De fun cy re kf kg eo adt=> ?_))))))))
  have rf:=hE.size
  have rg:=bk.size
  have rh:=ce.size
  have adu:=Bn (bl c) kf
  have adv:=Bn (bl ao) kf
  have ri:OB fw cy:=AW bw (by omega)
  have hE:=hE.trans eo
  have c:=eb eo c
  have bk:=bk.trans eo
  have bw:=Stab.own _ _ _ _ _ _ _ _ bw eo
  have ce:=ce.trans eo
  have ao:=eb eo ao
  have b7:=kg;clear kg
  have adw:cy<re.heap.size:=by omega
  refine oS rfl (Yk.storeC (i:=0) (v:= .func (.func 47) #[] #[PQ ar 0]) (vr (PQ cy 0) rfl) (vr (.func (.func 47) #[] #[PQ ar 0]) rfl) b7 (Nat.le_of_ble_eq_true rfl) wr6_isz89 rfl rfl fun adx kh ep ady=> ?_)
  have hE:=Ae hE ep (Nat.le_trans rf (by omega))
  have c:=kb ep c (by omega)
  have bk:=Ae bk ep (Nat.le_trans rg (by omega))
  have bw:=AS bw ep ri
  have ce:=Ae ce ep (Nat.le_trans rh (by omega))
  have ao:=kb ep ao (by omega)
  clear b7
  have b7:=kh;clear kh
  have adz:=bl b7
  refine oZ (tN (rd _ _ (sk fun ad0 rj=>(wt (oS rfl (Yk.mkFunc (vs:= #[PQ cy 0,PQ ar 0]) (by simp only[List.map_toArray,List.map_cons,List.map_nil];exact congrArg List.toArray (BO (vr (PQ cy 0) rfl) (vr (PQ ar 0) rfl))) (oA rfl (oZ (tN (rj _ _ (sk fun ad1 rk=>(wt (oS rfl (Yk.cell1 Oh rfl (vr (PQ cy 0) rfl) (Ac b7 (show _=some (.func (.func 47) #[] #[PQ ar 0]:Value)from rfl)) (oS rfl (Yk.fieldAt LM (vr (PQ j 0) rfl) (oS rfl (Yk.cell1 Fs rfl (vr (PQ j 1) rfl) (Ac c (show(msgC x)[1]? =some (.int .i64 (x.1.session:Int):Value)from Db x)) (oS rfl (Yk.clo Oi (caps:= #[PQ ar 0]) (vr (.func (.func 47) #[] #[PQ ar 0]) rfl) #[.int .i64 (x.1.session:Int),PQ ar 0] (by simp only[List.map_toArray,List.map_cons,List.map_nil,List.append_toArray,List.cons_append,List.nil_append];exact congrArg List.toArray (BO (vr (.int .i64 (x.1.session:Int)) rfl) rfl)) ((B0 w _ hE ar (by omega) fw ([(x.1.kind:UInt8)]) ao (RB.ofOwn bw) (by simp only[List.length_append,List.length_cons,List.length_nil];omega) x.1.session (by omega) (by omega)).mono ?_)))))))))))))))))))))
  rintro e dx ⟨h9,rfl,ki,cz,f0⟩
  refine⟨_,rfl,?_⟩
  have cz:=AL cz hE.size
  have hE:=Ae hE f0 (Nat.le_trans h8 (by omega))
  have c:=kb f0 c (by omega)
  have bk:=Ae bk f0 (Nat.le_trans kd (by omega))
  clear bw
  have ce:=Ae ce f0 (Nat.le_trans (Nat.le_refl _) (by omega))
  clear ao
  have b7:=kb f0 b7 (by omega)
  have ao:=ki;clear ki
  have ad2:=bl ao
  refine oZ (tN (rk _ _ (sk fun ad3 rl=> ?_)))
  have rm:=hE.size
  have ad4:=bk.size
  have ad5:=ce.size
  have ad6:j<dx.heap.size:=(bl c)
  have ad7:cy<dx.heap.size:=(bl b7)
  have ad8:ar<dx.heap.size:=(bl ao)
  have rn:∀g,dx.heap.size≤g→OB h9 g:=fun g hg=>AW cz hg
  refine Ci 5 _ [fun x w' =>∃b,x = .map (some b)∧MapF B8 AA (fun _:UInt8=>True) w' b AT,Is (PQ j 0),Is (B8 (x.1.kind)),Is (.agg (partsC (⟨false,false,false,true,false,false,false,false⟩:Ag)).toArray),fun x w' =>∃g,x=PQ g 0∧w'.heap[g]? =some (.cells (partsC (⟨false,false,false,false,false,false,false,false⟩:Ag)).toArray 92 (0,0))∧dx.heap.size≤g] (by kernel_rfl) [23,24,25,26,7] (by kernel_rfl) (by kernel_rfl) (by kernel_rfl) rfl rfl rfl ⟨(fun _ _ _ ⟨b,h1,h2⟩ k=>⟨b,h1,MapF.keep h2 k⟩),Stab.is _,Stab.is _,Stab.is _,(fun _ _ _ ⟨g,h1,h2,h3⟩ k=>⟨g,h1,eb k h2,h3⟩),trivial⟩ ?ro ?hQ7007
  case ro=>
   refine⟨?_,?_,?_,?_,?_,?_,trivial⟩
   ·refine Ah (Aa rfl fun σ w1 hC h=>(Yk.callA0 JM ((Ca _).mono ?_)))
    rintro e w2 ⟨b,rfl,hmk,hx,hom⟩
    exact⟨_,rfl,hx,⟨b,rfl,hmk⟩⟩
   ·refine Ah (Aa rfl fun σ w1 hC h=> ?_)
    have e1:σ 1=PQ j 0:=(Ad (h 1 (by decide))).trans rfl
    exact Yk.fieldAt HW e1 ⟨Ext.refl _,rfl⟩
   ·refine Ah (Aa rfl fun σ w1 hC h=> ?_)
    have bc:=Ad (h 24 (by decide))
    exact Yk.cell1 u5 rfl bc (Ac (eb hC c) (show(msgC x)[0]? =some (B8 (x.1.kind):Value)from BS x)) ⟨Ext.refl _,rfl⟩
   ·refine Ah (Aa rfl fun σ w1 hC h=> ?_)
    have bd:(fun x w' =>∃b,x = .map (some b)∧MapF B8 AA (fun _:UInt8=>True) w' b AT) (σ 23) w1:=h 23 (by decide)
    have be:=Ad (h 25 (by decide))
    obtain⟨b6,k6,m6⟩:=(show ∃b,σ 23 = .map (some b)∧MapF B8 AA (fun _:UInt8=>True) w1 b AT from bd)
    exact Yk.lookMS (ek:=B8) (ev:=AA) (D:=fun _:UInt8=>True) Cn Co (fun _ _=>C2) CG (z:=AA Bl) B9 k6 be m6 trivial hK ⟨Ext.refl _,rfl⟩
   ·refine Ah (Aa rfl fun σ w1 hC h=> ?_)
    exact Yk.alloc (cs:=(partsC (⟨false,false,false,false,false,false,false,false⟩:Ag)).toArray) JN fun g w2 hn hb hx hs=>⟨hx,g,rfl,hb,Nat.le_trans (show Ext dx w1 from hC).size (Nat.le_of_eq hn)⟩
   ·exact trivial
  intro ia rp f1 he hf
  obtain⟨-,-,-,k26,k7,-⟩:=hf
  obtain⟨T0,T1,T2,T3,y,T5,T6,-⟩:=he.hold [(0,_),(1,PQ j 0),(2,(Value.slice none 0 0)),(3,NI 0),(4,PQ ar 0),(5,PQ cy 0),(6, .func (.func 49) #[] #[PQ cy 0,PQ ar 0])] ⟨T0,rfl,rfl,rfl,rfl,rfl,rfl,trivial⟩ rfl
  clear he
  have hE:=hE.trans f1
  have c:=eb f1 c
  have b7:=eb f1 b7
  have ao:=eb f1 ao
  have cz:=Stab.own _ _ _ _ _ _ _ _ cz f1
  have bf:ia 26 = .agg (partsC (⟨false,false,false,true,false,false,false,false⟩:Ag)).toArray:=k26
  have k7:(fun x w' =>∃g,x=PQ g 0∧w'.heap[g]? =some (.cells (partsC (⟨false,false,false,false,false,false,false,false⟩:Ag)).toArray 92 (0,0))∧dx.heap.size≤g) (ia 7) rp:=k7
  obtain⟨ad9,f⟩:∃v,ia 7=v:=⟨_,rfl⟩
  rw[f]at k7
  have rq:=k7;clear k7
  obtain⟨cl,rfl,bm,rr⟩:=rq
  have aea:=bl bm
  have rs:OB h9 cl:=rn _ rr
  clear k26
  refine(Yk.storeAll f bf bm (by simp only[List.size_toArray,Bq]) (AF (Bq _) Gj) (B7 (x:=(⟨false,false,false,true,false,false,false,false⟩:Ag))) fun rt kj f2 aeb=> ?_)
  have hE:=Ae hE f2 (Nat.le_trans rm (by omega))
  have c:=kb f2 c (by omega)
  have b7:=kb f2 b7 (by omega)
  have ao:=kb f2 ao (by omega)
  have cz:=AS cz f2 rs
  clear bm
  have bm:rt.heap[cl]? =some (.cells (partsC (⟨false,false,false,true,false,false,false,false⟩:Ag)).toArray 92 (0,0)):=kj;clear kj
  have aec:=bl bm
  refine tN (rl _ _ (sk fun aed ru=>(sk fun aee rv=>(wt (oS rfl (Yk.fieldAt LF f (oS rfl (Yk.cell1 CS rfl (vr (PQ cl 0) rfl) (Ac bm (show(partsC (⟨false,false,false,true,false,false,false,false⟩:Ag))[0]? =some (.bool (false):Value)from BH (⟨false,false,false,true,false,false,false,false⟩:Ag))) (oZ (tN (rv _ _ (Al (vr (.bool (false)) rfl) (Ak (tN (ru _ _ (sk fun aef rx=>(sk fun aeg ry=>(wt (oS rfl (Yk.fieldAt LG f (oS rfl (Yk.cell1 CS rfl (vr (PQ cl 1) rfl) (Ac bm (show(partsC (⟨false,false,false,true,false,false,false,false⟩:Ag))[1]? =some (.bool (false):Value)from BI (⟨false,false,false,true,false,false,false,false⟩:Ag))) ?_))))))))))))))))))))))
  refine oZ (tN (ry _ _ (Al (vr (.bool (false)) rfl) (Ak (tN (rx _ _ (sk fun aeh rz=>(sk fun aei r0=>(wt (oS rfl (Yk.fieldAt LH f (oS rfl (Yk.cell1 CS rfl (vr (PQ cl 2) rfl) (Ac bm (show(partsC (⟨false,false,false,true,false,false,false,false⟩:Ag))[2]? =some (.bool (false):Value)from BJ (⟨false,false,false,true,false,false,false,false⟩:Ag))) (oZ (tN (r0 _ _ (Al (vr (.bool (false)) rfl) (Ak (tN (rz _ _ (sk fun aej r1=> ?_)))))))))))))))))))))
  refine sk fun aek r2=>(wt (oS rfl (Yk.fieldAt LI f (oS rfl (Yk.cell1 CS rfl (vr (PQ cl 3) rfl) (Ac bm (show(partsC (⟨false,false,false,true,false,false,false,false⟩:Ag))[3]? =some (.bool (true):Value)from BK (⟨false,false,false,true,false,false,false,false⟩:Ag))) (oZ (tN (r2 _ _ (AE (vr (.bool (true)) rfl) (wt (oS rfl (Yk.cell1 Oh rfl T5 (Ac b7 (show _=some (.func (.func 47) #[] #[PQ ar 0]:Value)from rfl)) (oS rfl (Yk.fieldAt HQ T1 (oS rfl (Yk.cell1 Fs rfl (vr (PQ j 6) rfl) (Ac c (show(msgC x)[6]? =some (.int .i64 (x.1.at_:Int):Value)from Fm x)) (oS rfl (Yk.clo Oi (caps:= #[PQ ar 0]) (vr (.func (.func 47) #[] #[PQ ar 0]) rfl) #[.int .i64 (x.1.at_:Int),PQ ar 0] (by simp only[List.map_toArray,List.map_cons,List.map_nil,List.append_toArray,List.cons_append,List.nil_append];exact congrArg List.toArray (BO (vr (.int .i64 (x.1.at_:Int)) rfl) rfl)) ((B0 w _ hE ar (by omega) h9 (([(x.1.kind:UInt8)]:List UInt8)++Lib.uvarint x.1.session.toNat) ao (RB.ofOwn cz) (by simp only[List.length_append,List.length_cons,List.length_nil];omega) x.1.at_ (by omega) (by omega)).mono ?_)))))))))))))))))))
  rintro e ael ⟨g4,rfl,kk,ib,ic⟩
  refine⟨_,rfl,?_⟩
  have ib:=AL ib hE.size
  have hE:=Ae hE ic (Nat.le_trans h8 (by omega))
  have c:=kb ic c (by omega)
  clear ao
  clear cz
  have bm:=kb ic bm (by omega)
  have ao:=kk;clear kk
  have aem:=bl ao
  refine oZ (tN (r1 _ _ (sk fun aen r3=>(sk fun aeo r4=>(wt (oS rfl (Yk.fieldAt LJ f (oS rfl (Yk.cell1 CS rfl (vr (PQ cl 4) rfl) (Ac bm (show(partsC (⟨false,false,false,true,false,false,false,false⟩:Ag))[4]? =some (.bool (false):Value)from BL (⟨false,false,false,true,false,false,false,false⟩:Ag))) (oZ (tN (r4 _ _ (Al (vr (.bool (false)) rfl) (Ak (tN (r3 _ _ (sk fun aep r5=>(sk fun aeq r6=>(wt (oS rfl (Yk.fieldAt HT f ?_)))))))))))))))))))))
  refine oS rfl (Yk.cell1 CS rfl (vr (PQ cl 5) rfl) (Ac bm (show(partsC (⟨false,false,false,true,false,false,false,false⟩:Ag))[5]? =some (.bool (false):Value)from Bv (⟨false,false,false,true,false,false,false,false⟩:Ag))) (oZ (tN (r6 _ _ (Al (vr (.bool (false)) rfl) (Ak (tN (r5 _ _ (sk fun aer r7=>(sk fun aes r8=>(wt (oS rfl (Yk.fieldAt HU f (oS rfl (Yk.cell1 CS rfl (vr (PQ cl 6) rfl) (Ac bm (show(partsC (⟨false,false,false,true,false,false,false,false⟩:Ag))[6]? =some (.bool (false):Value)from Bw (⟨false,false,false,true,false,false,false,false⟩:Ag))) (oZ (tN (r8 _ _ (Al (vr (.bool (false)) rfl) (Ak (tN (r7 _ _ ?_))))))))))))))))))))))
  refine sk fun aet r9=>(sk fun aeu sa=>(wt (oS rfl (Yk.fieldAt LL f (oS rfl (Yk.cell1 CS rfl (vr (PQ cl 7) rfl) (Ac bm (show(partsC (⟨false,false,false,true,false,false,false,false⟩:Ag))[7]? =some (.bool (false):Value)from Bx (⟨false,false,false,true,false,false,false,false⟩:Ag))) (oZ (tN (sa _ _ (Al (vr (.bool (false)) rfl) (Ak (tN (r9 _ _ (sk fun aev sb=>(wt (oS rfl (Yk.cell1 Ff rfl y (Ac ao (show _=some (g4:Value)from rfl)) (oA rfl (oA rfl (oZ ?_))))))))))))))))))))
  refine tN (sb _ _ (Ap (Ao (fn:=Tryd.f16) _ rfl [g4,NI 0] (.tuple #[g4,NI 0]) rfl ⟨rfl,rfl,trivial⟩ ?_)))
  have hen:(([(x.1.kind:UInt8)]:List UInt8)++Lib.uvarint x.1.session.toNat:List UInt8)++Lib.uvarint x.1.at_.toNat=BM x.1:=by unfold BM Ba;rw[hk];simp[List.append_assoc]
  exact⟨g4,by rw[hR];rfl,by rw[hR,if_pos rfl,←hen];exact RB.ofOwn ib,hE⟩
 ·have hbl:=aa rfl
  have htl:=Hg (s:=x.1.bytes) (by omega)
  refine Ak (tN (c8 _ _ (sk fun aew sc=>(wt (oS rfl (Yk.fieldAt HW (vr (PQ j 0) rfl) (oS rfl (Yk.cell1 u5 rfl (vr (PQ j 0) rfl) (Ac c (show(msgC x)[0]? =some (B8 (x.1.kind):Value)from BS x)) (oS rfl (Yk.lit1 (b:=x.1.kind) wr25_l1_26 (vr (B8 (x.1.kind)) rfl) fun f3 sd f4=> ?_))))))))))
  have bn:=Ext.refl c9
  have aex:=hE.size
  have hE:=hE.trans f4.ext
  have c:=eb f4.ext c
  have bn:=bn.trans f4.ext
  have bx:=f4.own;clear f4
  refine oS rfl (Yk.alloc (cs:=([(Value.slice none 0 0)]).toArray) Dd fun ap se sf kl f5 aey=> ?_)
  have a0:=Ext.refl sd
  have g5:=hE.size
  have km:=bn.size
  have aez:=Bn (bl c) sf
  have sg:OB f3 ap:=AW bx (by omega)
  have hE:=hE.trans f5
  have c:=eb f5 c
  have bn:=bn.trans f5
  have bx:=Stab.own _ _ _ _ _ _ _ _ bx f5
  have a0:=a0.trans f5
  have ag:=kl;clear kl
  have ae0:ap<se.heap.size:=by omega
  refine oS rfl (Yk.storeC (i:=0) (v:=f3) (vr (PQ ap 0) rfl) (vr f3 rfl) ag (Nat.le_of_ble_eq_true rfl) IQ (AY bx).1 (AY bx).2 fun ae1 kn f6 ae2=> ?_)
  have hE:=Ae hE f6 (Nat.le_trans g5 (by omega))
  have c:=kb f6 c (by omega)
  have bn:=Ae bn f6 (Nat.le_trans km (by omega))
  have bx:=AS bx f6 sg
  have a0:=Ae a0 f6 (Nat.le_trans (Nat.le_refl _) (by omega))
  clear ag
  have ag:=kn;clear kn
  have ae3:=bl ag
  refine oZ (tN (sc _ _ (sk fun ae4 sh=>(wt (oS rfl (Yk.mkFunc (vs:= #[PQ ap 0]) (by simp only[List.map_toArray,List.map_cons,List.map_nil];exact congrArg List.toArray (DX (vr (PQ ap 0) rfl))) (oS rfl (Yk.alloc (cs:=([Value.nilFunc]).toArray) De fun c0 si ko kp eq ae5=> ?_))))))))
  have sj:=hE.size
  have sl:=bn.size
  have sm:=a0.size
  have ae6:=Bn (bl c) ko
  have ae7:=Bn (bl ag) ko
  have sn:OB f3 c0:=AW bx (by omega)
  have hE:=hE.trans eq
  have c:=eb eq c
  have bn:=bn.trans eq
  have bx:=Stab.own _ _ _ _ _ _ _ _ bx eq
  have a0:=a0.trans eq
  have ag:=eb eq ag
  have b8:=kp;clear kp
  have ae8:c0<si.heap.size:=by omega
  refine oS rfl (Yk.storeC (i:=0) (v:= .func (.func 47) #[] #[PQ ap 0]) (vr (PQ c0 0) rfl) (vr (.func (.func 47) #[] #[PQ ap 0]) rfl) b8 (Nat.le_of_ble_eq_true rfl) wr6_isz89 rfl rfl fun ae9 kq er afa=> ?_)
  have hE:=Ae hE er (Nat.le_trans sj (by omega))
  have c:=kb er c (by omega)
  have bn:=Ae bn er (Nat.le_trans sl (by omega))
  have bx:=AS bx er sn
  have a0:=Ae a0 er (Nat.le_trans sm (by omega))
  have ag:=kb er ag (by omega)
  clear b8
  have b8:=kq;clear kq
  have afb:=bl b8
  refine oZ (tN (sh _ _ (sk fun afc so=>(wt (oS rfl (Yk.mkFunc (vs:= #[PQ c0 0,PQ ap 0]) (by simp only[List.map_toArray,List.map_cons,List.map_nil];exact congrArg List.toArray (BO (vr (PQ c0 0) rfl) (vr (PQ ap 0) rfl))) (oA rfl (oZ (tN (so _ _ (sk fun afd sp=>(wt (oS rfl (Yk.cell1 Oh rfl (vr (PQ c0 0) rfl) (Ac b8 (show _=some (.func (.func 47) #[] #[PQ ap 0]:Value)from rfl)) (oS rfl (Yk.fieldAt LM (vr (PQ j 0) rfl) (oS rfl (Yk.cell1 Fs rfl (vr (PQ j 1) rfl) (Ac c (show(msgC x)[1]? =some (.int .i64 (x.1.session:Int):Value)from Db x)) (oS rfl (Yk.clo Oi (caps:= #[PQ ap 0]) (vr (.func (.func 47) #[] #[PQ ap 0]) rfl) #[.int .i64 (x.1.session:Int),PQ ap 0] (by simp only[List.map_toArray,List.map_cons,List.map_nil,List.append_toArray,List.cons_append,List.nil_append];exact congrArg List.toArray (BO (vr (.int .i64 (x.1.session:Int)) rfl) rfl)) ((B0 w _ hE ap (by omega) f3 ([(x.1.kind:UInt8)]) ag (RB.ofOwn bx) (by simp only[List.length_append,List.length_cons,List.length_nil];omega) x.1.session (by omega) (by omega)).mono ?_)))))))))))))))))))))
  rintro e dy ⟨ie,rfl,kr,c1,f7⟩
  refine⟨_,rfl,?_⟩
  have c1:=AL c1 hE.size
  have hE:=Ae hE f7 (Nat.le_trans g5 (by omega))
  have c:=kb f7 c (by omega)
  have bn:=Ae bn f7 (Nat.le_trans km (by omega))
  clear bx
  have a0:=Ae a0 f7 (Nat.le_trans (Nat.le_refl _) (by omega))
  clear ag
  have b8:=kb f7 b8 (by omega)
  have ag:=kr;clear kr
  have afe:=bl ag
  refine oZ (tN (sp _ _ (sk fun aff sq=> ?_)))
  have sr:=hE.size
  have afg:=bn.size
  have ss:=a0.size
  have afh:j<dy.heap.size:=(bl c)
  have afi:c0<dy.heap.size:=(bl b8)
  have afj:ap<dy.heap.size:=(bl ag)
  have st:∀g,dy.heap.size≤g→OB ie g:=fun g hg=>AW c1 hg
  refine Ci 5 _ [fun x w' =>∃b,x = .map (some b)∧MapF B8 AA (fun _:UInt8=>True) w' b AT,Is (PQ j 0),Is (B8 (x.1.kind)),Is (.agg (partsC (⟨false,false,false,true,false,true,false,false⟩:Ag)).toArray),fun x w' =>∃g,x=PQ g 0∧w'.heap[g]? =some (.cells (partsC (⟨false,false,false,false,false,false,false,false⟩:Ag)).toArray 92 (0,0))∧dy.heap.size≤g] (by kernel_rfl) [23,24,25,26,7] (by kernel_rfl) (by kernel_rfl) (by kernel_rfl) rfl rfl rfl ⟨(fun _ _ _ ⟨b,h1,h2⟩ k=>⟨b,h1,MapF.keep h2 k⟩),Stab.is _,Stab.is _,Stab.is _,(fun _ _ _ ⟨g,h1,h2,h3⟩ k=>⟨g,h1,eb k h2,h3⟩),trivial⟩ ?su ?hQ8007
  case su=>
   refine⟨?_,?_,?_,?_,?_,?_,trivial⟩
   ·refine Ah (Aa rfl fun σ w1 hC h=>(Yk.callA0 JM ((Ca _).mono ?_)))
    rintro e w2 ⟨b,rfl,hmk,hx,hom⟩
    exact⟨_,rfl,hx,⟨b,rfl,hmk⟩⟩
   ·refine Ah (Aa rfl fun σ w1 hC h=> ?_)
    have e1:σ 1=PQ j 0:=(Ad (h 1 (by decide))).trans rfl
    exact Yk.fieldAt HW e1 ⟨Ext.refl _,rfl⟩
   ·refine Ah (Aa rfl fun σ w1 hC h=> ?_)
    have bc:=Ad (h 24 (by decide))
    exact Yk.cell1 u5 rfl bc (Ac (eb hC c) (show(msgC x)[0]? =some (B8 (x.1.kind):Value)from BS x)) ⟨Ext.refl _,rfl⟩
   ·refine Ah (Aa rfl fun σ w1 hC h=> ?_)
    have bd:(fun x w' =>∃b,x = .map (some b)∧MapF B8 AA (fun _:UInt8=>True) w' b AT) (σ 23) w1:=h 23 (by decide)
    have be:=Ad (h 25 (by decide))
    obtain⟨b6,k6,m6⟩:=(show ∃b,σ 23 = .map (some b)∧MapF B8 AA (fun _:UInt8=>True) w1 b AT from bd)
    exact Yk.lookMS (ek:=B8) (ev:=AA) (D:=fun _:UInt8=>True) Cn Co (fun _ _=>C2) CG (z:=AA Bl) B9 k6 be m6 trivial hK ⟨Ext.refl _,rfl⟩
   ·refine Ah (Aa rfl fun σ w1 hC h=> ?_)
    exact Yk.alloc (cs:=(partsC (⟨false,false,false,false,false,false,false,false⟩:Ag)).toArray) JN fun g w2 hn hb hx hs=>⟨hx,g,rfl,hb,Nat.le_trans (show Ext dy w1 from hC).size (Nat.le_of_eq hn)⟩
   ·exact trivial
  intro ig sv es he hf
  obtain⟨-,-,-,k26,k7,-⟩:=hf
  obtain⟨T0,T1,T2,T3,y,T5,T6,-⟩:=he.hold [(0,_),(1,PQ j 0),(2,(Value.slice none 0 0)),(3,NI 0),(4,PQ ap 0),(5,PQ c0 0),(6, .func (.func 49) #[] #[PQ c0 0,PQ ap 0])] ⟨T0,rfl,rfl,rfl,rfl,rfl,rfl,trivial⟩ rfl
  clear he
  have hE:=hE.trans es
  have c:=eb es c
  have a0:=a0.trans es
  have b8:=eb es b8
  have ag:=eb es ag
  have c1:=Stab.own _ _ _ _ _ _ _ _ c1 es
  have bf:ig 26 = .agg (partsC (⟨false,false,false,true,false,true,false,false⟩:Ag)).toArray:=k26
  have k7:(fun x w' =>∃g,x=PQ g 0∧w'.heap[g]? =some (.cells (partsC (⟨false,false,false,false,false,false,false,false⟩:Ag)).toArray 92 (0,0))∧dy.heap.size≤g) (ig 7) sv:=k7
  obtain⟨afk,f⟩:∃v,ig 7=v:=⟨_,rfl⟩
  rw[f]at k7
  have sw:=k7;clear k7
  obtain⟨cm,rfl,a1,sx⟩:=sw
  have afl:=bl a1
  have sy:OB ie cm:=st _ sx
  clear k26
  refine(Yk.storeAll f bf a1 (by simp only[List.size_toArray,Bq]) (AF (Bq _) Gj) (B7 (x:=(⟨false,false,false,true,false,true,false,false⟩:Ag))) fun sz ks et afm=> ?_)
  have hE:=Ae hE et (Nat.le_trans sr (by omega))
  have c:=kb et c (by omega)
  have a0:=Ae a0 et (Nat.le_trans ss (by omega))
  have b8:=kb et b8 (by omega)
  have ag:=kb et ag (by omega)
  have c1:=AS c1 et sy
  clear a1
  have a1:sz.heap[cm]? =some (.cells (partsC (⟨false,false,false,true,false,true,false,false⟩:Ag)).toArray 92 (0,0)):=ks;clear ks
  have afn:=bl a1
  refine tN (sq _ _ (sk fun afo s0=>(sk fun afp s1=>(wt (oS rfl (Yk.fieldAt LF f (oS rfl (Yk.cell1 CS rfl (vr (PQ cm 0) rfl) (Ac a1 (show(partsC (⟨false,false,false,true,false,true,false,false⟩:Ag))[0]? =some (.bool (false):Value)from BH (⟨false,false,false,true,false,true,false,false⟩:Ag))) (oZ (tN (s1 _ _ (Al (vr (.bool (false)) rfl) (Ak (tN (s0 _ _ (sk fun afq s2=>(sk fun afr s3=>(wt (oS rfl (Yk.fieldAt LG f (oS rfl (Yk.cell1 CS rfl (vr (PQ cm 1) rfl) (Ac a1 (show(partsC (⟨false,false,false,true,false,true,false,false⟩:Ag))[1]? =some (.bool (false):Value)from BI (⟨false,false,false,true,false,true,false,false⟩:Ag))) ?_))))))))))))))))))))))
  refine oZ (tN (s3 _ _ (Al (vr (.bool (false)) rfl) (Ak (tN (s2 _ _ (sk fun afs s4=>(sk fun aft s5=>(wt (oS rfl (Yk.fieldAt LH f (oS rfl (Yk.cell1 CS rfl (vr (PQ cm 2) rfl) (Ac a1 (show(partsC (⟨false,false,false,true,false,true,false,false⟩:Ag))[2]? =some (.bool (false):Value)from BJ (⟨false,false,false,true,false,true,false,false⟩:Ag))) (oZ (tN (s5 _ _ (Al (vr (.bool (false)) rfl) (Ak (tN (s4 _ _ (sk fun afu s6=> ?_)))))))))))))))))))))
  refine sk fun afv s7=>(wt (oS rfl (Yk.fieldAt LI f (oS rfl (Yk.cell1 CS rfl (vr (PQ cm 3) rfl) (Ac a1 (show(partsC (⟨false,false,false,true,false,true,false,false⟩:Ag))[3]? =some (.bool (true):Value)from BK (⟨false,false,false,true,false,true,false,false⟩:Ag))) (oZ (tN (s7 _ _ (AE (vr (.bool (true)) rfl) (wt (oS rfl (Yk.cell1 Oh rfl T5 (Ac b8 (show _=some (.func (.func 47) #[] #[PQ ap 0]:Value)from rfl)) (oS rfl (Yk.fieldAt HQ T1 (oS rfl (Yk.cell1 Fs rfl (vr (PQ j 6) rfl) (Ac c (show(msgC x)[6]? =some (.int .i64 (x.1.at_:Int):Value)from Fm x)) (oS rfl (Yk.clo Oi (caps:= #[PQ ap 0]) (vr (.func (.func 47) #[] #[PQ ap 0]) rfl) #[.int .i64 (x.1.at_:Int),PQ ap 0] (by simp only[List.map_toArray,List.map_cons,List.map_nil,List.append_toArray,List.cons_append,List.nil_append];exact congrArg List.toArray (BO (vr (.int .i64 (x.1.at_:Int)) rfl) rfl)) ((B0 w _ hE ap (by omega) ie (([(x.1.kind:UInt8)]:List UInt8)++Lib.uvarint x.1.session.toNat) ag (RB.ofOwn c1) (by simp only[List.length_append,List.length_cons,List.length_nil];omega) x.1.at_ (by omega) (by omega)).mono ?_)))))))))))))))))))
  rintro e afw ⟨ih,rfl,kt,g6,g7⟩
  refine⟨_,rfl,?_⟩
  have g6:=AL g6 hE.size
  have hE:=Ae hE g7 (Nat.le_trans g5 (by omega))
  have c:=kb g7 c (by omega)
  have a0:=Ae a0 g7 (Nat.le_trans (Nat.le_refl _) (by omega))
  clear ag
  clear c1
  have a1:=kb g7 a1 (by omega)
  have ag:=kt;clear kt
  have afx:=bl ag
  refine oZ (tN (s6 _ _ (sk fun afy s8=>(sk fun afz s9=>(wt (oS rfl (Yk.fieldAt LJ f (oS rfl (Yk.cell1 CS rfl (vr (PQ cm 4) rfl) (Ac a1 (show(partsC (⟨false,false,false,true,false,true,false,false⟩:Ag))[4]? =some (.bool (false):Value)from BL (⟨false,false,false,true,false,true,false,false⟩:Ag))) (oZ (tN (s9 _ _ (Al (vr (.bool (false)) rfl) (Ak (tN (s8 _ _ (sk fun af0 ta=>(sk fun af1 tb=>(wt (oS rfl (Yk.fieldAt HT f ?_)))))))))))))))))))))
  refine oS rfl (Yk.cell1 CS rfl (vr (PQ cm 5) rfl) (Ac a1 (show(partsC (⟨false,false,false,true,false,true,false,false⟩:Ag))[5]? =some (.bool (true):Value)from Bv (⟨false,false,false,true,false,true,false,false⟩:Ag))) (oZ (tN (tb _ _ (AE (vr (.bool (true)) rfl) (wt (oS rfl (Yk.cell1 Ff rfl y (Ac ag (show _=some (ih:Value)from rfl)) (oS rfl (Yk.fieldAt FI T1 (oS rfl (Yk.cell1 Ff rfl (vr (PQ j 39) rfl) (Ac c (show(msgC x)[39]? =some (x.2.bytes:Value)from Fo x)) (oS rfl (Yk.convRB Ff u5 Dx (RB.of (hmb.keep hE) (vr x.2.bytes rfl)) (oS rfl (Yk.callA2 Hh (vr ih rfl) (vr (St (x.1.bytes)) rfl) ((He _ ih ((([(x.1.kind:UInt8)]:List UInt8)++Lib.uvarint x.1.session.toNat:List UInt8)++Lib.uvarint x.1.at_.toNat) (RB.ofOwn g6) x.1.bytes (by simp only[List.length_append,List.length_cons,List.length_nil];omega)).mono ?_)))))))))))))))))
  rintro e af2 ⟨dz,rfl,d0⟩
  refine⟨_,rfl,?_⟩
  have tc:=hE.size
  have af3:=hE.size
  have af4:=a0.size
  have td:OB dz ap:=Bj d0.own (bl ag)
  have hE:=hE.trans d0.ext
  have c:=eb d0.ext c
  have a1:=eb d0.ext a1
  have ag:=eb d0.ext ag
  have d1:=d0.own;clear d0
  have d1:=AL d1 tc
  refine oS rfl (Yk.storeC (i:=0) (v:=dz) y (vr dz rfl) ag (Nat.le_of_ble_eq_true rfl) IQ (AY d1).1 (AY d1).2 fun af5 ku g8 af6=> ?_)
  have hE:=Ae hE g8 (Nat.le_trans g5 (by omega))
  have c:=kb g8 c (by omega)
  have a1:=kb g8 a1 (by omega)
  clear ag
  have d1:=AS d1 g8 td
  have ag:=ku;clear ku
  have af7:=bl ag
  refine oZ ?_
  clear g6
  refine tN (ta _ _ (sk fun af8 te=>(sk fun af9 tf=>(wt (oS rfl (Yk.fieldAt HU f (oS rfl (Yk.cell1 CS rfl (vr (PQ cm 6) rfl) (Ac a1 (show(partsC (⟨false,false,false,true,false,true,false,false⟩:Ag))[6]? =some (.bool (false):Value)from Bw (⟨false,false,false,true,false,true,false,false⟩:Ag))) (oZ (tN (tf _ _ (Al (vr (.bool (false)) rfl) (Ak (tN (te _ _ (sk fun aga tg=>(sk fun agb th=>(wt (oS rfl (Yk.fieldAt LL f (oS rfl (Yk.cell1 CS rfl (vr (PQ cm 7) rfl) (Ac a1 (show(partsC (⟨false,false,false,true,false,true,false,false⟩:Ag))[7]? =some (.bool (false):Value)from Bx (⟨false,false,false,true,false,true,false,false⟩:Ag))) ?_))))))))))))))))))))))
  refine oZ (tN (th _ _ (Al (vr (.bool (false)) rfl) (Ak (tN (tg _ _ (sk fun agc ti=>(wt (oS rfl (Yk.cell1 Ff rfl y (Ac ag (show _=some (dz:Value)from rfl)) (oA rfl (oA rfl (oZ (tN (ti _ _ (Ap (Ao (fn:=Tryd.f16) _ rfl [dz,NI 0] (.tuple #[dz,NI 0]) rfl ⟨rfl,rfl,trivial⟩ ?_)))))))))))))))))
  have hen:((([(x.1.kind:UInt8)]:List UInt8)++Lib.uvarint x.1.session.toNat:List UInt8)++Lib.uvarint x.1.at_.toNat:List UInt8)++Bz x.1.bytes=BM x.1:=by unfold BM Ba;rw[hk];simp[List.append_assoc]
  exact⟨dz,by rw[hR];rfl,by rw[hR,if_pos rfl,←hen];exact RB.ofOwn d1,hE⟩
 ·have hnl:=lz rfl
  have htl:=Hg (s:=x.1.name) (by omega)
  refine Ak (tN (c8 _ _ (sk fun agd tj=>(wt (oS rfl (Yk.fieldAt HW (vr (PQ j 0) rfl) (oS rfl (Yk.cell1 u5 rfl (vr (PQ j 0) rfl) (Ac c (show(msgC x)[0]? =some (B8 (x.1.kind):Value)from BS x)) (oS rfl (Yk.lit1 (b:=x.1.kind) wr25_l1_26 (vr (B8 (x.1.kind)) rfl) fun f8 kv f9=> ?_))))))))))
  have bo:=Ext.refl c9
  have age:=hE.size
  have hE:=hE.trans f9.ext
  have c:=eb f9.ext c
  have bo:=bo.trans f9.ext
  have bz:=f9.own;clear f9
  refine oS rfl (Yk.alloc (cs:=([(Value.slice none 0 0)]).toArray) Dd fun ae tk tl kw ga agf=> ?_)
  have t:=Ext.refl kv
  have d2:=hE.size
  have kx:=bo.size
  have agh:=Bn (bl c) tl
  have tm:OB f8 ae:=AW bz (by omega)
  have hE:=hE.trans ga
  have c:=eb ga c
  have bo:=bo.trans ga
  have bz:=Stab.own _ _ _ _ _ _ _ _ bz ga
  have t:=t.trans ga
  have m:=kw;clear kw
  have agi:ae<tk.heap.size:=by omega
  refine oS rfl (Yk.storeC (i:=0) (v:=f8) (vr (PQ ae 0) rfl) (vr f8 rfl) m (Nat.le_of_ble_eq_true rfl) IQ (AY bz).1 (AY bz).2 fun agj ky gb agk=> ?_)
  have hE:=Ae hE gb (Nat.le_trans d2 (by omega))
  have c:=kb gb c (by omega)
  have bo:=Ae bo gb (Nat.le_trans kx (by omega))
  have bz:=AS bz gb tm
  have t:=Ae t gb (Nat.le_trans (Nat.le_refl _) (by omega))
  clear m
  have m:=ky;clear ky
  have agl:=bl m
  refine oZ (tN (tj _ _ (sk fun agm tn=>(wt (oS rfl (Yk.mkFunc (vs:= #[PQ ae 0]) (by simp only[List.map_toArray,List.map_cons,List.map_nil];exact congrArg List.toArray (DX (vr (PQ ae 0) rfl))) (oS rfl (Yk.alloc (cs:=([Value.nilFunc]).toArray) De fun b0 tp kz k0 eu agn=> ?_))))))))
  have tq:=hE.size
  have tr:=bo.size
  have ts:=t.size
  have ago:=Bn (bl c) kz
  have agp:=Bn (bl m) kz
  have tt:OB f8 b0:=AW bz (by omega)
  have hE:=hE.trans eu
  have c:=eb eu c
  have bo:=bo.trans eu
  have bz:=Stab.own _ _ _ _ _ _ _ _ bz eu
  have t:=t.trans eu
  have m:=eb eu m
  have ab:=k0;clear k0
  have agq:b0<tp.heap.size:=by omega
  refine oS rfl (Yk.storeC (i:=0) (v:= .func (.func 47) #[] #[PQ ae 0]) (vr (PQ b0 0) rfl) (vr (.func (.func 47) #[] #[PQ ae 0]) rfl) ab (Nat.le_of_ble_eq_true rfl) wr6_isz89 rfl rfl fun agr k1 ew ags=> ?_)
  have hE:=Ae hE ew (Nat.le_trans tq (by omega))
  have c:=kb ew c (by omega)
  have bo:=Ae bo ew (Nat.le_trans tr (by omega))
  have bz:=AS bz ew tt
  have t:=Ae t ew (Nat.le_trans ts (by omega))
  have m:=kb ew m (by omega)
  clear ab
  have ab:=k1;clear k1
  have agt:=bl ab
  refine oZ (tN (tn _ _ (sk fun agu tu=>(wt (oS rfl (Yk.mkFunc (vs:= #[PQ b0 0,PQ ae 0]) (by simp only[List.map_toArray,List.map_cons,List.map_nil];exact congrArg List.toArray (BO (vr (PQ b0 0) rfl) (vr (PQ ae 0) rfl))) (oA rfl (oZ (tN (tu _ _ (sk fun agv tv=>(wt (oS rfl (Yk.cell1 Oh rfl (vr (PQ b0 0) rfl) (Ac ab (show _=some (.func (.func 47) #[] #[PQ ae 0]:Value)from rfl)) (oS rfl (Yk.fieldAt LM (vr (PQ j 0) rfl) (oS rfl (Yk.cell1 Fs rfl (vr (PQ j 1) rfl) (Ac c (show(msgC x)[1]? =some (.int .i64 (x.1.session:Int):Value)from Db x)) (oS rfl (Yk.clo Oi (caps:= #[PQ ae 0]) (vr (.func (.func 47) #[] #[PQ ae 0]) rfl) #[.int .i64 (x.1.session:Int),PQ ae 0] (by simp only[List.map_toArray,List.map_cons,List.map_nil,List.append_toArray,List.cons_append,List.nil_append];exact congrArg List.toArray (BO (vr (.int .i64 (x.1.session:Int)) rfl) rfl)) ((B0 w _ hE ae (by omega) f8 ([(x.1.kind:UInt8)]) m (RB.ofOwn bz) (by simp only[List.length_append,List.length_cons,List.length_nil];omega) x.1.session (by omega) (by omega)).mono ?_)))))))))))))))))))))
  rintro e d3 ⟨ii,rfl,k2,c2,gc⟩
  refine⟨_,rfl,?_⟩
  have c2:=AL c2 hE.size
  have hE:=Ae hE gc (Nat.le_trans d2 (by omega))
  have c:=kb gc c (by omega)
  have bo:=Ae bo gc (Nat.le_trans kx (by omega))
  clear bz
  have t:=Ae t gc (Nat.le_trans (Nat.le_refl _) (by omega))
  clear m
  have ab:=kb gc ab (by omega)
  have m:=k2;clear k2
  have agw:=bl m
  refine oZ (tN (tv _ _ (sk fun agx tw=> ?_)))
  have tx:=hE.size
  have agy:=bo.size
  have ty:=t.size
  have agz:j<d3.heap.size:=(bl c)
  have ag0:b0<d3.heap.size:=(bl ab)
  have ag1:ae<d3.heap.size:=(bl m)
  have tz:∀g,d3.heap.size≤g→OB ii g:=fun g hg=>AW c2 hg
  refine Ci 5 _ [fun x w' =>∃b,x = .map (some b)∧MapF B8 AA (fun _:UInt8=>True) w' b AT,Is (PQ j 0),Is (B8 (x.1.kind)),Is (.agg (partsC (⟨false,false,true,false,true,false,true,false⟩:Ag)).toArray),fun x w' =>∃g,x=PQ g 0∧w'.heap[g]? =some (.cells (partsC (⟨false,false,false,false,false,false,false,false⟩:Ag)).toArray 92 (0,0))∧d3.heap.size≤g] (by kernel_rfl) [23,24,25,26,7] (by kernel_rfl) (by kernel_rfl) (by kernel_rfl) rfl rfl rfl ⟨(fun _ _ _ ⟨b,h1,h2⟩ k=>⟨b,h1,MapF.keep h2 k⟩),Stab.is _,Stab.is _,Stab.is _,(fun _ _ _ ⟨g,h1,h2,h3⟩ k=>⟨g,h1,eb k h2,h3⟩),trivial⟩ ?t0 ?hQ9007
  case t0=>
   refine⟨?_,?_,?_,?_,?_,?_,trivial⟩
   ·refine Ah (Aa rfl fun σ w1 hC h=>(Yk.callA0 JM ((Ca _).mono ?_)))
    rintro e w2 ⟨b,rfl,hmk,hx,hom⟩
    exact⟨_,rfl,hx,⟨b,rfl,hmk⟩⟩
   ·refine Ah (Aa rfl fun σ w1 hC h=> ?_)
    have e1:σ 1=PQ j 0:=(Ad (h 1 (by decide))).trans rfl
    exact Yk.fieldAt HW e1 ⟨Ext.refl _,rfl⟩
   ·refine Ah (Aa rfl fun σ w1 hC h=> ?_)
    have bc:=Ad (h 24 (by decide))
    exact Yk.cell1 u5 rfl bc (Ac (eb hC c) (show(msgC x)[0]? =some (B8 (x.1.kind):Value)from BS x)) ⟨Ext.refl _,rfl⟩
   ·refine Ah (Aa rfl fun σ w1 hC h=> ?_)
    have bd:(fun x w' =>∃b,x = .map (some b)∧MapF B8 AA (fun _:UInt8=>True) w' b AT) (σ 23) w1:=h 23 (by decide)
    have be:=Ad (h 25 (by decide))
    obtain⟨b6,k6,m6⟩:=(show ∃b,σ 23 = .map (some b)∧MapF B8 AA (fun _:UInt8=>True) w1 b AT from bd)
    exact Yk.lookMS (ek:=B8) (ev:=AA) (D:=fun _:UInt8=>True) Cn Co (fun _ _=>C2) CG (z:=AA Bl) B9 k6 be m6 trivial hK ⟨Ext.refl _,rfl⟩
   ·refine Ah (Aa rfl fun σ w1 hC h=> ?_)
    exact Yk.alloc (cs:=(partsC (⟨false,false,false,false,false,false,false,false⟩:Ag)).toArray) JN fun g w2 hn hb hx hs=>⟨hx,g,rfl,hb,Nat.le_trans (show Ext d3 w1 from hC).size (Nat.le_of_eq hn)⟩
   ·exact trivial
  intro ij t1 ex he hf
  obtain⟨-,-,-,k26,k7,-⟩:=hf
  obtain⟨T0,T1,T2,T3,y,T5,T6,-⟩:=he.hold [(0,_),(1,PQ j 0),(2,(Value.slice none 0 0)),(3,NI 0),(4,PQ ae 0),(5,PQ b0 0),(6, .func (.func 49) #[] #[PQ b0 0,PQ ae 0])] ⟨T0,rfl,rfl,rfl,rfl,rfl,rfl,trivial⟩ rfl
  clear he
  have hE:=hE.trans ex
  have c:=eb ex c
  have t:=t.trans ex
  have ab:=eb ex ab
  have m:=eb ex m
  have c2:=Stab.own _ _ _ _ _ _ _ _ c2 ex
  have bf:ij 26 = .agg (partsC (⟨false,false,true,false,true,false,true,false⟩:Ag)).toArray:=k26
  have k7:(fun x w' =>∃g,x=PQ g 0∧w'.heap[g]? =some (.cells (partsC (⟨false,false,false,false,false,false,false,false⟩:Ag)).toArray 92 (0,0))∧d3.heap.size≤g) (ij 7) t1:=k7
  obtain⟨ag2,f⟩:∃v,ij 7=v:=⟨_,rfl⟩
  rw[f]at k7
  have t2:=k7;clear k7
  obtain⟨bp,rfl,o,t3⟩:=t2
  have ag3:=bl o
  have t4:OB ii bp:=tz _ t3
  clear k26
  refine(Yk.storeAll f bf o (by simp only[List.size_toArray,Bq]) (AF (Bq _) Gj) (B7 (x:=(⟨false,false,true,false,true,false,true,false⟩:Ag))) fun t5 k3 ey ag4=> ?_)
  have hE:=Ae hE ey (Nat.le_trans tx (by omega))
  have c:=kb ey c (by omega)
  have t:=Ae t ey (Nat.le_trans ty (by omega))
  have ab:=kb ey ab (by omega)
  have m:=kb ey m (by omega)
  have c2:=AS c2 ey t4
  clear o
  have o:t5.heap[bp]? =some (.cells (partsC (⟨false,false,true,false,true,false,true,false⟩:Ag)).toArray 92 (0,0)):=k3;clear k3
  have ag5:=bl o
  refine tN (tw _ _ (sk fun ag6 t6=>(sk fun ag7 t7=>(wt (oS rfl (Yk.fieldAt LF f (oS rfl (Yk.cell1 CS rfl (vr (PQ bp 0) rfl) (Ac o (show(partsC (⟨false,false,true,false,true,false,true,false⟩:Ag))[0]? =some (.bool (false):Value)from BH (⟨false,false,true,false,true,false,true,false⟩:Ag))) (oZ (tN (t7 _ _ (Al (vr (.bool (false)) rfl) (Ak (tN (t6 _ _ (sk fun ag8 t8=>(sk fun ag9 t9=>(wt (oS rfl (Yk.fieldAt LG f (oS rfl (Yk.cell1 CS rfl (vr (PQ bp 1) rfl) (Ac o (show(partsC (⟨false,false,true,false,true,false,true,false⟩:Ag))[1]? =some (.bool (false):Value)from BI (⟨false,false,true,false,true,false,true,false⟩:Ag))) ?_))))))))))))))))))))))
  refine oZ (tN (t9 _ _ (Al (vr (.bool (false)) rfl) (Ak (tN (t8 _ _ (sk fun aha ua=>(sk fun ahb ub=>(wt (oS rfl (Yk.fieldAt LH f (oS rfl (Yk.cell1 CS rfl (vr (PQ bp 2) rfl) (Ac o (show(partsC (⟨false,false,true,false,true,false,true,false⟩:Ag))[2]? =some (.bool (true):Value)from BJ (⟨false,false,true,false,true,false,true,false⟩:Ag))) (oZ (tN (ub _ _ (AE (vr (.bool (true)) rfl) (wt (oS rfl (Yk.cell1 Oh rfl T5 (Ac ab (show _=some (.func (.func 47) #[] #[PQ ae 0]:Value)from rfl)) (oS rfl (Yk.fieldAt HP T1 ?_))))))))))))))))))))))
  refine oS rfl (Yk.cell1 Fs rfl (vr (PQ j 5) rfl) (Ac c (show(msgC x)[5]? =some (.int .i64 (x.1.size:Int):Value)from Fl x)) (oS rfl (Yk.clo Oi (caps:= #[PQ ae 0]) (vr (.func (.func 47) #[] #[PQ ae 0]) rfl) #[.int .i64 (x.1.size:Int),PQ ae 0] (by simp only[List.map_toArray,List.map_cons,List.map_nil,List.append_toArray,List.cons_append,List.nil_append];exact congrArg List.toArray (BO (vr (.int .i64 (x.1.size:Int)) rfl) rfl)) ((B0 w _ hE ae (by omega) ii (([(x.1.kind:UInt8)]:List UInt8)++Lib.uvarint x.1.session.toNat) m (RB.ofOwn c2) (by simp only[List.length_append,List.length_cons,List.length_nil];omega) x.1.size (by omega) (by omega)).mono ?_))))
  rintro e ahc ⟨ik,rfl,k4,g9,gd⟩
  refine⟨_,rfl,?_⟩
  have g9:=AL g9 hE.size
  have hE:=Ae hE gd (Nat.le_trans d2 (by omega))
  have c:=kb gd c (by omega)
  have t:=Ae t gd (Nat.le_trans (Nat.le_refl _) (by omega))
  have ab:=kb gd ab (by omega)
  clear m
  clear c2
  have o:=kb gd o (by omega)
  have m:=k4;clear k4
  have ahd:=bl m
  refine oZ (tN (ua _ _ (sk fun ahe uc=>(sk fun ahf ud=>(wt (oS rfl (Yk.fieldAt LI f (oS rfl (Yk.cell1 CS rfl (vr (PQ bp 3) rfl) (Ac o (show(partsC (⟨false,false,true,false,true,false,true,false⟩:Ag))[3]? =some (.bool (false):Value)from BK (⟨false,false,true,false,true,false,true,false⟩:Ag))) (oZ (tN (ud _ _ (Al (vr (.bool (false)) rfl) (Ak (tN (uc _ _ (sk fun ahg ue=>(sk fun ahh uf=>(wt (oS rfl (Yk.fieldAt LJ f ?_)))))))))))))))))))))
  refine oS rfl (Yk.cell1 CS rfl (vr (PQ bp 4) rfl) (Ac o (show(partsC (⟨false,false,true,false,true,false,true,false⟩:Ag))[4]? =some (.bool (true):Value)from BL (⟨false,false,true,false,true,false,true,false⟩:Ag))) (oZ (tN (uf _ _ (AE (vr (.bool (true)) rfl) (wt (oS rfl (Yk.cell1 Ff rfl y (Ac m (show _=some (ik:Value)from rfl)) (oS rfl (Yk.fieldAt LK T1 (oS rfl (Yk.loadPR (PR.blk c (D4 x) (EL x) (vr (PQ j 7) rfl)) OA rfl (AH x.1.id.2) (oS rfl (Yk.callA2 ER (vr ik rfl) (vr (AB x.1.id.1) rfl) ((D9 _ ik ((([(x.1.kind:UInt8)]:List UInt8)++Lib.uvarint x.1.session.toNat:List UInt8)++Lib.uvarint x.1.size.toNat) (RB.ofOwn g9) (by simp only[List.length_append,List.length_cons,List.length_nil];omega) x.1.id).mono ?_)))))))))))))))
  rintro e ahi ⟨dg,rfl,c3⟩
  refine⟨_,rfl,?_⟩
  have ug:=hE.size
  have ahj:=hE.size
  have ahk:=t.size
  have uh:OB dg ae:=Bj c3.own (bl m)
  have hE:=hE.trans c3.ext
  have c:=eb c3.ext c
  have t:=t.trans c3.ext
  have ab:=eb c3.ext ab
  have o:=eb c3.ext o
  have m:=eb c3.ext m
  have cn:=c3.own;clear c3
  have cn:=AL cn ug
  refine oS rfl (Yk.storeC (i:=0) (v:=dg) y (vr dg rfl) m (Nat.le_of_ble_eq_true rfl) IQ (AY cn).1 (AY cn).2 fun ez k5 e0 ahl=> ?_)
  have hE:=Ae hE e0 (Nat.le_trans d2 (by omega))
  have c:=kb e0 c (by omega)
  have t:=Ae t e0 (Nat.le_trans (Nat.le_refl _) (by omega))
  have ab:=kb e0 ab (by omega)
  have o:=kb e0 o (by omega)
  clear m
  have cn:=AS cn e0 uh
  have m:=k5;clear k5
  have ahm:=bl m
  refine oZ ?_
  clear g9
  refine tN (ue _ _ (sk fun ahn ui=>(sk fun aho uj=>(wt (oS rfl (Yk.fieldAt HT f (oS rfl (Yk.cell1 CS rfl (vr (PQ bp 5) rfl) (Ac o (show(partsC (⟨false,false,true,false,true,false,true,false⟩:Ag))[5]? =some (.bool (false):Value)from Bv (⟨false,false,true,false,true,false,true,false⟩:Ag))) (oZ (tN (uj _ _ (Al (vr (.bool (false)) rfl) (Ak (tN (ui _ _ (sk fun ahp k8=>(sk fun ahq uk=>(wt (oS rfl (Yk.fieldAt HU f (oS rfl (Yk.cell1 CS rfl (vr (PQ bp 6) rfl) (Ac o (show(partsC (⟨false,false,true,false,true,false,true,false⟩:Ag))[6]? =some (.bool (true):Value)from Bw (⟨false,false,true,false,true,false,true,false⟩:Ag))) ?_))))))))))))))))))))))
  refine oZ (tN (uk _ _ (AE (vr (.bool (true)) rfl) (sk fun ahr ul=> ?_))))
  have d4:Ext ez (World.drew ez):=(Below.refl _ _).drew
  have hE:=hE.trans d4
  have c:=eb d4 c
  have t:=t.trans d4
  have ab:=eb d4 ab
  have o:=eb d4 o
  have cn:=Stab.own _ _ _ _ _ _ _ _ cn d4
  have m:=eb d4 m
  refine D8 [(0,90,dg),(4,94,PQ j 41),(5,95,AB x.1.old.1),(7,97,PQ j 73),(8,98,AB x.1.new.1)] [1,2,3,6,9,10] (fun wz=>Ext w wz∧wz.heap[j]? =some (.cells (msgC x).toArray 29 (0,0))∧wz.heap[b0]? =some (.cells ([.func (.func 47) #[] #[PQ ae 0]]).toArray 89 (0,0))∧wz.heap[bp]? =some (.cells (partsC (⟨false,false,true,false,true,false,true,false⟩:Ag)).toArray 92 (0,0))∧wz.heap[ae]? =some (.cells ([dg]).toArray 26 (0,0))∧True) (by kernel_rfl) (by kernel_rfl) (by kernel_rfl) ⟨hE,c,ab,o,m,trivial⟩ ⟨fun ha ⟨hE,c,ab,o,m,_⟩=>Yk.cell1 Ff rfl y (Ac m (show _=some (dg:Value)from rfl)) ⟨rfl,rfl⟩,fun ha ⟨hE,c,ab,o,m,_⟩=>Yk.fieldAt Kz T1 ⟨rfl,rfl⟩,fun ha ⟨hE,c,ab,o,m,_⟩=>Yk.loadPR (PR.blk c (Ez x) (Fp x) (vr (PQ j 41) rfl)) OA rfl (AH x.1.old.2) ⟨rfl,rfl⟩,fun ha ⟨hE,c,ab,o,m,_⟩=>Yk.fieldAt GY T1 ⟨rfl,rfl⟩,fun ha ⟨hE,c,ab,o,m,_⟩=>Yk.loadPR (PR.blk c (DQ x) (EB x) (vr (PQ j 73) rfl)) OA rfl (AH x.1.new.2) ⟨rfl,rfl⟩,trivial⟩ (Bm rfl (Yk.fieldAt HV T1 ?_))
  refine⟨.inr ⟨hE,c,ab,o,m,trivial⟩,?_⟩
  refine Bm rfl (Yk.cell1 Dx rfl (vr (PQ j 40) rfl) (Ac c (show(msgC x)[40]? =some (St (x.1.name):Value)from Ga x)) ?_)
  refine⟨.inr ⟨hE,c,ab,o,m,trivial⟩,?_⟩
  refine Bm rfl (Yk.callA2 Hh (vr dg rfl) (vr (St (x.1.name)) rfl) ((He _ dg (((([(x.1.kind:UInt8)]:List UInt8)++Lib.uvarint x.1.session.toNat:List UInt8)++Lib.uvarint x.1.size.toNat:List UInt8)++x.1.id.1) (RB.ofOwn cn) x.1.name (by simp only[List.length_append,List.length_cons,List.length_nil];omega)).mono ?_))
  rintro e k9 ⟨la,rfl,c4⟩
  refine⟨_,rfl,?_⟩
  have um:=hE.size
  have il:=Ext.refl (World.drew ez)
  have ahs:w.heap.size≤(World.drew ez).heap.size:=hE.size
  have aht:kv.heap.size≤(World.drew ez).heap.size:=t.size
  have hE:=hE.trans c4.ext
  have c:=eb c4.ext c
  have t:=t.trans c4.ext
  have ab:=eb c4.ext ab
  have o:=eb c4.ext o
  have m:=eb c4.ext m
  have il:=il.trans c4.ext
  have hc:=c4.own;clear c4
  have hc:=AL hc um
  refine⟨.inr ⟨hE,c,ab,o,m,trivial⟩,?_⟩
  refine Bm rfl (Yk.callA2 ER (vr la rfl) (vr (AB x.1.old.1) rfl) ((D9 _ la ((((([(x.1.kind:UInt8)]:List UInt8)++Lib.uvarint x.1.session.toNat:List UInt8)++Lib.uvarint x.1.size.toNat:List UInt8)++x.1.id.1:List UInt8)++Bz x.1.name) (RB.ofOwn hc) (by simp only[List.length_append,List.length_cons,List.length_nil];omega) x.1.old).mono ?_))
  rintro e ahu ⟨lb,rfl,c5⟩
  refine⟨_,rfl,?_⟩
  have un:=hE.size
  have im:=Ext.refl k9
  have ahv:=hE.size
  have ahw:=t.size
  have ahx:(World.drew ez).heap.size≤k9.heap.size:=il.size
  have hE:=hE.trans c5.ext
  have c:=eb c5.ext c
  have t:=t.trans c5.ext
  have ab:=eb c5.ext ab
  have o:=eb c5.ext o
  have m:=eb c5.ext m
  have im:=im.trans c5.ext
  have hd:=c5.own;clear c5
  have hd:=AL hd un
  refine⟨.inr ⟨hE,c,ab,o,m,trivial⟩,?_⟩
  refine Bm rfl (Yk.callA2 ER (vr lb rfl) (vr (AB x.1.new.1) rfl) ((D9 _ lb (((((([(x.1.kind:UInt8)]:List UInt8)++Lib.uvarint x.1.session.toNat:List UInt8)++Lib.uvarint x.1.size.toNat:List UInt8)++x.1.id.1:List UInt8)++Bz x.1.name:List UInt8)++x.1.old.1) (RB.ofOwn hd) (by simp only[List.length_append,List.length_cons,List.length_nil];omega) x.1.new).mono ?_))
  rintro e ahy ⟨cg,rfl,ch⟩
  refine⟨_,rfl,?_⟩
  have uo:=hE.size
  have ahz:=hE.size
  have ah0:=t.size
  have ah1:=im.size
  have lc:OB cg j:=Bj ch.own (bl c)
  have ld:OB cg bp:=Bj ch.own (bl o)
  have ge:OB cg ae:=Bj ch.own (bl m)
  have hE:=hE.trans ch.ext
  have c:=eb ch.ext c
  have t:=t.trans ch.ext
  have ab:=eb ch.ext ab
  have o:=eb ch.ext o
  have m:=eb ch.ext m
  have a8:=ch.own;clear ch
  have a8:=AL a8 uo
  refine⟨.inr ⟨hE,c,ab,o,m,trivial⟩,?_⟩
  refine Bm rfl (Yk.storeC (i:=0) (v:=cg) y (vr cg rfl) m (Nat.le_of_ble_eq_true rfl) IQ (AY a8).1 (AY a8).2 fun ah2 le gf ah3=> ?_)
  have hE:=Ae hE gf (Nat.le_trans d2 (by omega))
  have c:=kb gf c (by omega)
  have t:=Ae t gf (Nat.le_trans (Nat.le_refl _) (by omega))
  have o:=kb gf o (by omega)
  clear m
  have a8:=AS a8 gf ge
  have m:=le;clear le
  have ah4:=bl m
  refine⟨.inl rfl,?_⟩
  refine Ft ?_
  clear cn
  clear hc
  clear hd
  refine tN (ul _ _ (sk fun ah5 up=>(wt (oA rfl (oZ (tN (up _ _ (sk fun ah6 lf=>(sk fun ah7 uq=>(wt (oS rfl (Yk.fieldAt KA T1 (oS rfl (Yk.cell1 CS rfl (vr (PQ j 105) rfl) (Ac c (show(msgC x)[105]? =some (.bool (x.1.force):Value)from GD x)) (oZ (tN (uq _ _ ?_)))))))))))))))))
  refine A0 (x.1.force) (vr (.bool (x.1.force)) rfl) (fun io=> ?_) (fun io=> ?_)
  ·have hfc:=io
   refine wt (oA rfl (oZ (tN (lf _ _ (wt (oS rfl (Yk.cell1 Ff rfl y (Ac m (show _=some (cg:Value)from rfl)) (oM rfl (oS rfl (Yk.lit1 (b:=1) wr25_l1_26 (vr (B8 (1)) rfl) fun ur ut dh=> ?_))))))))))
   have ah8:=hE.size
   have ah9:=t.size
   have hE:=hE.trans dh.ext
   have c:=eb dh.ext c
   have t:=t.trans dh.ext
   have o:=eb dh.ext o
   have a8:=Stab.own _ _ _ _ _ _ _ _ a8 dh.ext
   have m:=eb dh.ext m
   have lg:=dh.own;clear dh
   refine oS rfl (Yk.appendRB _ _ w.heap.size (.int .u8 0) Ff Lf rfl Ff ((((((([(x.1.kind:UInt8)]:List UInt8)++Lib.uvarint x.1.session.toNat:List UInt8)++Lib.uvarint x.1.size.toNat:List UInt8)++x.1.id.1:List UInt8)++Bz x.1.name:List UInt8)++x.1.old.1:List UInt8)++x.1.new.1) ([(1:UInt8)]) (F4 a8 (vr cg rfl)) (RB.of (RB.ofOwn lg) (vr ur rfl)) (by simp only[List.length_append,List.length_cons,List.length_nil];omega) hE.size fun di uu gg d5=> ?_)
   have d5:Grew ut uu cg di:=d5
   have uv:OB di ae:=AV d5 ge (bl m)
   have hE:=BG hE d5 a8 (Nat.le_refl _)
   have c:=AR c d5 lc
   clear t
   have o:=AR o d5 ld
   clear a8
   have m:=AR m d5 ge
   refine oS rfl (Yk.storeC (i:=0) (v:=di) y (vr di rfl) m (Nat.le_of_ble_eq_true rfl) IQ (AY gg).1 (AY gg).2 fun aia lh hh aib=> ?_)
   have hE:=Ae hE hh (Nat.le_trans d2 (by omega))
   have c:=kb hh c (by omega)
   have o:=kb hh o (by omega)
   clear m
   have gg:=AS gg hh uv
   have m:=lh;clear lh
   have aic:=bl m
   refine Be [(0, .agg (msgC x).toArray),(1,PQ j 0),(2,(Value.slice none 0 0)),(3,NI 0),(4,PQ ae 0),(5,PQ b0 0),(6, .func (.func 49) #[] #[PQ b0 0,PQ ae 0]),(7,PQ bp 0),(10,B8 (1)),(28, .bool (false)),(54, .bool (false)),(64, .bool (true)),(70, .bool (false)),(76, .bool (true)),(82, .bool (false)),(89, .bool (true))] ⟨T0,T1,T2,T3,y,T5,T6,f,rfl,rfl,rfl,rfl,rfl,rfl,rfl,rfl,trivial⟩ fun aid ⟨T0,T1,T2,T3,y,T5,T6,f,uw,dm,ux,uy,uz,u0,u1,u2,_⟩=> ?_
   clear lg
   refine tN (k8 _ _ (sk fun aie u3=>(sk fun aif u4=>(wt (oS rfl (Yk.fieldAt LL f (oS rfl (Yk.cell1 CS rfl (vr (PQ bp 7) rfl) (Ac o (show(partsC (⟨false,false,true,false,true,false,true,false⟩:Ag))[7]? =some (.bool (false):Value)from Bx (⟨false,false,true,false,true,false,true,false⟩:Ag))) (oZ (tN (u4 _ _ (Al (vr (.bool (false)) rfl) (Ak (tN (u3 _ _ (sk fun aig u6=>(wt (oS rfl (Yk.cell1 Ff rfl y (Ac m (show _=some (di:Value)from rfl)) (oA rfl (oA rfl ?_)))))))))))))))))))))
   refine oZ (tN (u6 _ _ (Ap (Ao (fn:=Tryd.f16) _ rfl [di,NI 0] (.tuple #[di,NI 0]) rfl ⟨rfl,rfl,trivial⟩ ?_))))
   have hen:(((((([(x.1.kind:UInt8)]:List UInt8)++Lib.uvarint x.1.session.toNat:List UInt8)++Lib.uvarint x.1.size.toNat:List UInt8)++x.1.id.1:List UInt8)++Bz x.1.name:List UInt8)++x.1.old.1:List UInt8)++x.1.new.1++ [(1:UInt8)]=BM x.1:=by unfold BM Ba;rw[hk];simp[List.append_assoc,EP,hfc]
   exact⟨di,by rw[hR];rfl,by rw[hR,if_pos rfl,←hen];exact RB.ofOwn gg,hE⟩
  have hfc:=io
  refine Ak (tN (lf _ _ (wt (oS rfl (Yk.cell1 Ff rfl y (Ac m (show _=some (cg:Value)from rfl)) (oM rfl (oS rfl (Yk.lit1 (b:=0) wr25_l1_26 (vr (B8 (0)) rfl) fun u7 u9 d6=> ?_))))))))
  have aih:=hE.size
  have aii:=t.size
  have hE:=hE.trans d6.ext
  have c:=eb d6.ext c
  have o:=eb d6.ext o
  have a8:=Stab.own _ _ _ _ _ _ _ _ a8 d6.ext
  have m:=eb d6.ext m
  have li:=d6.own;clear d6
  refine oS rfl (Yk.appendRB _ _ w.heap.size (.int .u8 0) Ff Lf rfl Ff ((((((([(x.1.kind:UInt8)]:List UInt8)++Lib.uvarint x.1.session.toNat:List UInt8)++Lib.uvarint x.1.size.toNat:List UInt8)++x.1.id.1:List UInt8)++Bz x.1.name:List UInt8)++x.1.old.1:List UInt8)++x.1.new.1) ([(0:UInt8)]) (F4 a8 (vr cg rfl)) (RB.of (RB.ofOwn li) (vr u7 rfl)) (by simp only[List.length_append,List.length_cons,List.length_nil];omega) hE.size fun dj va gh d7=> ?_)
  have d7:Grew u9 va cg dj:=d7
  have vb:OB dj ae:=AV d7 ge (bl m)
  have hE:=BG hE d7 a8 (Nat.le_refl _)
  have c:=AR c d7 lc
  clear t
  have o:=AR o d7 ld
  clear a8
  have m:=AR m d7 ge
  refine oS rfl (Yk.storeC (i:=0) (v:=dj) y (vr dj rfl) m (Nat.le_of_ble_eq_true rfl) IQ (AY gh).1 (AY gh).2 fun aij lj hj aik=> ?_)
  have hE:=Ae hE hj (Nat.le_trans d2 (by omega))
  have c:=kb hj c (by omega)
  have o:=kb hj o (by omega)
  clear m
  have gh:=AS gh hj vb
  have m:=lj;clear lj
  have ail:=bl m
  refine Be [(0, .agg (msgC x).toArray),(1,PQ j 0),(2,(Value.slice none 0 0)),(3,NI 0),(4,PQ ae 0),(5,PQ b0 0),(6, .func (.func 49) #[] #[PQ b0 0,PQ ae 0]),(7,PQ bp 0),(10,B8 (0)),(28, .bool (false)),(54, .bool (false)),(64, .bool (true)),(70, .bool (false)),(76, .bool (true)),(82, .bool (false)),(89, .bool (true))] ⟨T0,T1,T2,T3,y,T5,T6,f,rfl,rfl,rfl,rfl,rfl,rfl,rfl,rfl,trivial⟩ fun aim ⟨T0,T1,T2,T3,y,T5,T6,f,uw,dm,ux,uy,uz,u0,u1,u2,_⟩=> ?_
  clear li
  refine tN (k8 _ _ (sk fun ain vc=>(sk fun aio vd=>(wt (oS rfl (Yk.fieldAt LL f (oS rfl (Yk.cell1 CS rfl (vr (PQ bp 7) rfl) (Ac o (show(partsC (⟨false,false,true,false,true,false,true,false⟩:Ag))[7]? =some (.bool (false):Value)from Bx (⟨false,false,true,false,true,false,true,false⟩:Ag))) (oZ (tN (vd _ _ (Al (vr (.bool (false)) rfl) (Ak (tN (vc _ _ (sk fun aip ve=>(wt (oS rfl (Yk.cell1 Ff rfl y (Ac m (show _=some (dj:Value)from rfl)) (oA rfl (oA rfl ?_)))))))))))))))))))))
  refine oZ (tN (ve _ _ (Ap (Ao (fn:=Tryd.f16) _ rfl [dj,NI 0] (.tuple #[dj,NI 0]) rfl ⟨rfl,rfl,trivial⟩ ?_))))
  have hen:(((((([(x.1.kind:UInt8)]:List UInt8)++Lib.uvarint x.1.session.toNat:List UInt8)++Lib.uvarint x.1.size.toNat:List UInt8)++x.1.id.1:List UInt8)++Bz x.1.name:List UInt8)++x.1.old.1:List UInt8)++x.1.new.1++ [(0:UInt8)]=BM x.1:=by unfold BM Ba;rw[hk];simp[List.append_assoc,EP,hfc]
  exact⟨dj,by rw[hR];rfl,by rw[hR,if_pos rfl,←hen];exact RB.ofOwn gh,hE⟩
 refine Ak (tN (c8 _ _ (sk fun aiq vf=>(wt (oS rfl (Yk.fieldAt HW (vr (PQ j 0) rfl) (oS rfl (Yk.cell1 u5 rfl (vr (PQ j 0) rfl) (Ac c (show(msgC x)[0]? =some (B8 (x.1.kind):Value)from BS x)) (oS rfl (Yk.lit1 (b:=x.1.kind) wr25_l1_26 (vr (B8 (x.1.kind)) rfl) fun gi vg gj=> ?_))))))))))
 have bq:=Ext.refl c9
 have air:=hE.size
 have hE:=hE.trans gj.ext
 have c:=eb gj.ext c
 have bq:=bq.trans gj.ext
 have b1:=gj.own;clear gj
 refine oS rfl (Yk.alloc (cs:=([(Value.slice none 0 0)]).toArray) Dd fun au vh vi lk gk ais=> ?_)
 have cf:=Ext.refl vg
 have ip:=hE.size
 have ll:=bq.size
 have ait:=Bn (bl c) vi
 have vj:OB gi au:=AW b1 (by omega)
 have hE:=hE.trans gk
 have c:=eb gk c
 have bq:=bq.trans gk
 have b1:=Stab.own _ _ _ _ _ _ _ _ b1 gk
 have cf:=cf.trans gk
 have aq:=lk;clear lk
 have aiu:au<vh.heap.size:=by omega
 refine oS rfl (Yk.storeC (i:=0) (v:=gi) (vr (PQ au 0) rfl) (vr gi rfl) aq (Nat.le_of_ble_eq_true rfl) IQ (AY b1).1 (AY b1).2 fun aiv lm gl aiw=> ?_)
 have hE:=Ae hE gl (Nat.le_trans ip (by omega))
 have c:=kb gl c (by omega)
 have bq:=Ae bq gl (Nat.le_trans ll (by omega))
 have b1:=AS b1 gl vj
 have cf:=Ae cf gl (Nat.le_trans (Nat.le_refl _) (by omega))
 clear aq
 have aq:=lm;clear lm
 have aix:=bl aq
 refine oZ (tN (vf _ _ (sk fun aiy vk=>(wt (oS rfl (Yk.mkFunc (vs:= #[PQ au 0]) (by simp only[List.map_toArray,List.map_cons,List.map_nil];exact congrArg List.toArray (DX (vr (PQ au 0) rfl))) (oS rfl (Yk.alloc (cs:=([Value.nilFunc]).toArray) De fun c6 vl ln lo e2 aiz=> ?_))))))))
 have vm:=hE.size
 have vn:=bq.size
 have vo:=cf.size
 have ai0:=Bn (bl c) ln
 have ai1:=Bn (bl aq) ln
 have vp:OB gi c6:=AW b1 (by omega)
 have hE:=hE.trans e2
 have c:=eb e2 c
 have bq:=bq.trans e2
 have b1:=Stab.own _ _ _ _ _ _ _ _ b1 e2
 have cf:=cf.trans e2
 have aq:=eb e2 aq
 have b9:=lo;clear lo
 have ai2:c6<vl.heap.size:=by omega
 refine oS rfl (Yk.storeC (i:=0) (v:= .func (.func 47) #[] #[PQ au 0]) (vr (PQ c6 0) rfl) (vr (.func (.func 47) #[] #[PQ au 0]) rfl) b9 (Nat.le_of_ble_eq_true rfl) wr6_isz89 rfl rfl fun ai3 lp e3 ai4=> ?_)
 have hE:=Ae hE e3 (Nat.le_trans vm (by omega))
 have c:=kb e3 c (by omega)
 have bq:=Ae bq e3 (Nat.le_trans vn (by omega))
 have b1:=AS b1 e3 vp
 have cf:=Ae cf e3 (Nat.le_trans vo (by omega))
 have aq:=kb e3 aq (by omega)
 clear b9
 have b9:=lp;clear lp
 have ai5:=bl b9
 refine oZ (tN (vk _ _ (sk fun ai6 vq=>(wt (oS rfl (Yk.mkFunc (vs:= #[PQ c6 0,PQ au 0]) (by simp only[List.map_toArray,List.map_cons,List.map_nil];exact congrArg List.toArray (BO (vr (PQ c6 0) rfl) (vr (PQ au 0) rfl))) (oA rfl (oZ (tN (vq _ _ (sk fun ai7 vt=>(wt (oS rfl (Yk.cell1 Oh rfl (vr (PQ c6 0) rfl) (Ac b9 (show _=some (.func (.func 47) #[] #[PQ au 0]:Value)from rfl)) (oS rfl (Yk.fieldAt LM (vr (PQ j 0) rfl) (oS rfl (Yk.cell1 Fs rfl (vr (PQ j 1) rfl) (Ac c (show(msgC x)[1]? =some (.int .i64 (x.1.session:Int):Value)from Db x)) (oS rfl (Yk.clo Oi (caps:= #[PQ au 0]) (vr (.func (.func 47) #[] #[PQ au 0]) rfl) #[.int .i64 (x.1.session:Int),PQ au 0] (by simp only[List.map_toArray,List.map_cons,List.map_nil,List.append_toArray,List.cons_append,List.nil_append];exact congrArg List.toArray (BO (vr (.int .i64 (x.1.session:Int)) rfl) rfl)) ((B0 w _ hE au (by omega) gi ([(x.1.kind:UInt8)]) aq (RB.ofOwn b1) (by simp only[List.length_append,List.length_cons,List.length_nil];omega) x.1.session (by omega) (by omega)).mono ?_)))))))))))))))))))))
 rintro e d8 ⟨iq,rfl,lq,c7,gm⟩
 refine⟨_,rfl,?_⟩
 have c7:=AL c7 hE.size
 have hE:=Ae hE gm (Nat.le_trans ip (by omega))
 have c:=kb gm c (by omega)
 have bq:=Ae bq gm (Nat.le_trans ll (by omega))
 clear b1
 have cf:=Ae cf gm (Nat.le_trans (Nat.le_refl _) (by omega))
 clear aq
 have b9:=kb gm b9 (by omega)
 have aq:=lq;clear lq
 have ai8:=bl aq
 refine oZ (tN (vt _ _ (sk fun ai9 vu=> ?_)))
 have vv:=hE.size
 have aja:=bq.size
 have ajb:=cf.size
 have ajc:j<d8.heap.size:=(bl c)
 have ajd:c6<d8.heap.size:=(bl b9)
 have aje:au<d8.heap.size:=(bl aq)
 have vw:∀g,d8.heap.size≤g→OB iq g:=fun g hg=>AW c7 hg
 refine Ci 5 _ [fun x w' =>∃b,x = .map (some b)∧MapF B8 AA (fun _:UInt8=>True) w' b AT,Is (PQ j 0),Is (B8 (x.1.kind)),Is (.agg (partsC (⟨false,false,false,false,false,false,false,true⟩:Ag)).toArray),fun x w' =>∃g,x=PQ g 0∧w'.heap[g]? =some (.cells (partsC (⟨false,false,false,false,false,false,false,false⟩:Ag)).toArray 92 (0,0))∧d8.heap.size≤g] (by kernel_rfl) [23,24,25,26,7] (by kernel_rfl) (by kernel_rfl) (by kernel_rfl) rfl rfl rfl ⟨(fun _ _ _ ⟨b,h1,h2⟩ k=>⟨b,h1,MapF.keep h2 k⟩),Stab.is _,Stab.is _,Stab.is _,(fun _ _ _ ⟨g,h1,h2,h3⟩ k=>⟨g,h1,eb k h2,h3⟩),trivial⟩ ?vx ?hQ10007
 case vx=>
  refine⟨?_,?_,?_,?_,?_,?_,trivial⟩
  ·refine Ah (Aa rfl fun σ w1 hC h=>(Yk.callA0 JM ((Ca _).mono ?_)))
   rintro e w2 ⟨b,rfl,hmk,hx,hom⟩
   exact⟨_,rfl,hx,⟨b,rfl,hmk⟩⟩
  ·refine Ah (Aa rfl fun σ w1 hC h=> ?_)
   have e1:σ 1=PQ j 0:=(Ad (h 1 (by decide))).trans rfl
   exact Yk.fieldAt HW e1 ⟨Ext.refl _,rfl⟩
  ·refine Ah (Aa rfl fun σ w1 hC h=> ?_)
   have bc:=Ad (h 24 (by decide))
   exact Yk.cell1 u5 rfl bc (Ac (eb hC c) (show(msgC x)[0]? =some (B8 (x.1.kind):Value)from BS x)) ⟨Ext.refl _,rfl⟩
  ·refine Ah (Aa rfl fun σ w1 hC h=> ?_)
   have bd:(fun x w' =>∃b,x = .map (some b)∧MapF B8 AA (fun _:UInt8=>True) w' b AT) (σ 23) w1:=h 23 (by decide)
   have be:=Ad (h 25 (by decide))
   obtain⟨b6,k6,m6⟩:=(show ∃b,σ 23 = .map (some b)∧MapF B8 AA (fun _:UInt8=>True) w1 b AT from bd)
   exact Yk.lookMS (ek:=B8) (ev:=AA) (D:=fun _:UInt8=>True) Cn Co (fun _ _=>C2) CG (z:=AA Bl) B9 k6 be m6 trivial hK ⟨Ext.refl _,rfl⟩
  ·refine Ah (Aa rfl fun σ w1 hC h=> ?_)
   exact Yk.alloc (cs:=(partsC (⟨false,false,false,false,false,false,false,false⟩:Ag)).toArray) JN fun g w2 hn hb hx hs=>⟨hx,g,rfl,hb,Nat.le_trans (show Ext d8 w1 from hC).size (Nat.le_of_eq hn)⟩
  ·exact trivial
 intro ir vy gn he hf
 obtain⟨-,-,-,k26,k7,-⟩:=hf
 obtain⟨T0,T1,T2,T3,y,T5,T6,-⟩:=he.hold [(0,_),(1,PQ j 0),(2,(Value.slice none 0 0)),(3,NI 0),(4,PQ au 0),(5,PQ c6 0),(6, .func (.func 49) #[] #[PQ c6 0,PQ au 0])] ⟨T0,rfl,rfl,rfl,rfl,rfl,rfl,trivial⟩ rfl
 clear he
 have hE:=hE.trans gn
 have c:=eb gn c
 have b9:=eb gn b9
 have aq:=eb gn aq
 have c7:=Stab.own _ _ _ _ _ _ _ _ c7 gn
 have bf:ir 26 = .agg (partsC (⟨false,false,false,false,false,false,false,true⟩:Ag)).toArray:=k26
 have k7:(fun x w' =>∃g,x=PQ g 0∧w'.heap[g]? =some (.cells (partsC (⟨false,false,false,false,false,false,false,false⟩:Ag)).toArray 92 (0,0))∧d8.heap.size≤g) (ir 7) vy:=k7
 obtain⟨ajf,f⟩:∃v,ir 7=v:=⟨_,rfl⟩
 rw[f]at k7
 have vz:=k7;clear k7
 obtain⟨co,rfl,ca,v0⟩:=vz
 have ajg:=bl ca
 have v1:OB iq co:=vw _ v0
 clear k26
 refine(Yk.storeAll f bf ca (by simp only[List.size_toArray,Bq]) (AF (Bq _) Gj) (B7 (x:=(⟨false,false,false,false,false,false,false,true⟩:Ag))) fun v2 lr go ajh=> ?_)
 have hE:=Ae hE go (Nat.le_trans vv (by omega))
 have c:=kb go c (by omega)
 have b9:=kb go b9 (by omega)
 have aq:=kb go aq (by omega)
 have c7:=AS c7 go v1
 clear ca
 have ca:v2.heap[co]? =some (.cells (partsC (⟨false,false,false,false,false,false,false,true⟩:Ag)).toArray 92 (0,0)):=lr;clear lr
 have aji:=bl ca
 refine tN (vu _ _ (sk fun ajj v3=>(sk fun ajk v4=>(wt (oS rfl (Yk.fieldAt LF f (oS rfl (Yk.cell1 CS rfl (vr (PQ co 0) rfl) (Ac ca (show(partsC (⟨false,false,false,false,false,false,false,true⟩:Ag))[0]? =some (.bool (false):Value)from BH (⟨false,false,false,false,false,false,false,true⟩:Ag))) (oZ (tN (v4 _ _ (Al (vr (.bool (false)) rfl) (Ak (tN (v3 _ _ (sk fun ajl v5=>(sk fun ajm v6=>(wt (oS rfl (Yk.fieldAt LG f (oS rfl (Yk.cell1 CS rfl (vr (PQ co 1) rfl) (Ac ca (show(partsC (⟨false,false,false,false,false,false,false,true⟩:Ag))[1]? =some (.bool (false):Value)from BI (⟨false,false,false,false,false,false,false,true⟩:Ag))) ?_))))))))))))))))))))))
 refine oZ (tN (v6 _ _ (Al (vr (.bool (false)) rfl) (Ak (tN (v5 _ _ (sk fun ajn v7=>(sk fun ajo v8=>(wt (oS rfl (Yk.fieldAt LH f (oS rfl (Yk.cell1 CS rfl (vr (PQ co 2) rfl) (Ac ca (show(partsC (⟨false,false,false,false,false,false,false,true⟩:Ag))[2]? =some (.bool (false):Value)from BJ (⟨false,false,false,false,false,false,false,true⟩:Ag))) (oZ (tN (v8 _ _ (Al (vr (.bool (false)) rfl) (Ak (tN (v7 _ _ (sk fun ajp v9=> ?_)))))))))))))))))))))
 refine sk fun ajq wa=>(wt (oS rfl (Yk.fieldAt LI f (oS rfl (Yk.cell1 CS rfl (vr (PQ co 3) rfl) (Ac ca (show(partsC (⟨false,false,false,false,false,false,false,true⟩:Ag))[3]? =some (.bool (false):Value)from BK (⟨false,false,false,false,false,false,false,true⟩:Ag))) (oZ (tN (wa _ _ (Al (vr (.bool (false)) rfl) (Ak (tN (v9 _ _ (sk fun ajr wb=>(sk fun ajs wc=>(wt (oS rfl (Yk.fieldAt LJ f (oS rfl (Yk.cell1 CS rfl (vr (PQ co 4) rfl) (Ac ca (show(partsC (⟨false,false,false,false,false,false,false,true⟩:Ag))[4]? =some (.bool (false):Value)from BL (⟨false,false,false,false,false,false,false,true⟩:Ag))) (oZ (tN (wc _ _ ?_))))))))))))))))))))))
 refine Al (vr (.bool (false)) rfl) (Ak (tN (wb _ _ (sk fun ajt wd=>(sk fun aju we=>(wt (oS rfl (Yk.fieldAt HT f (oS rfl (Yk.cell1 CS rfl (vr (PQ co 5) rfl) (Ac ca (show(partsC (⟨false,false,false,false,false,false,false,true⟩:Ag))[5]? =some (.bool (false):Value)from Bv (⟨false,false,false,false,false,false,false,true⟩:Ag))) (oZ (tN (we _ _ (Al (vr (.bool (false)) rfl) (Ak (tN (wd _ _ (sk fun ajv wf=>(sk fun ajw wg=>(wt ?_))))))))))))))))))))
 refine oS rfl (Yk.fieldAt HU f (oS rfl (Yk.cell1 CS rfl (vr (PQ co 6) rfl) (Ac ca (show(partsC (⟨false,false,false,false,false,false,false,true⟩:Ag))[6]? =some (.bool (false):Value)from Bw (⟨false,false,false,false,false,false,false,true⟩:Ag))) (oZ (tN (wg _ _ (Al (vr (.bool (false)) rfl) (Ak (tN (wf _ _ (sk fun ajx wh=>(sk fun ajy wi=>(wt (oS rfl (Yk.fieldAt LL f (oS rfl (Yk.cell1 CS rfl (vr (PQ co 7) rfl) (Ac ca (show(partsC (⟨false,false,false,false,false,false,false,true⟩:Ag))[7]? =some (.bool (true):Value)from Bx (⟨false,false,false,false,false,false,false,true⟩:Ag))) (oZ (tN (wi _ _ (AE (vr (.bool (true)) rfl) (wt ?_))))))))))))))))))))))
 refine oS rfl (Yk.cell1 Oh rfl T5 (Ac b9 (show _=some (.func (.func 47) #[] #[PQ au 0]:Value)from rfl)) (oS rfl (Yk.fieldAt GZ T1 (oS rfl (Yk.cell1 JL rfl (vr (PQ j 106) rfl) (Ac c (show(msgC x)[106]? =some (.int .i64 (x.1.code:Int):Value)from Fq x)) (oS rfl (Yk.clo Oi (caps:= #[PQ au 0]) (vr (.func (.func 47) #[] #[PQ au 0]) rfl) #[.int .i64 (x.1.code:Int),PQ au 0] (by simp only[List.map_toArray,List.map_cons,List.map_nil,List.append_toArray,List.cons_append,List.nil_append];exact congrArg List.toArray (BO (vr (.int .i64 (x.1.code:Int)) rfl) rfl)) ((B0 w _ hE au (by omega) iq (([(x.1.kind:UInt8)]:List UInt8)++Lib.uvarint x.1.session.toNat) aq (RB.ofOwn c7) (by simp only[List.length_append,List.length_cons,List.length_nil];omega) x.1.code (by omega) (by omega)).mono ?_))))))))
 rintro e ajz ⟨hl,rfl,ls,iu,wj⟩
 refine⟨_,rfl,?_⟩
 have iu:=AL iu hE.size
 have hE:=Ae hE wj (Nat.le_trans ip (by omega))
 clear aq
 clear c7
 have aq:=ls;clear ls
 have aj0:=bl aq
 refine oZ (tN (wh _ _ (sk fun aj1 wk=>(wt (oS rfl (Yk.cell1 Ff rfl y (Ac aq (show _=some (hl:Value)from rfl)) (oA rfl (oA rfl (oZ (tN (wk _ _ (Ap (Ao (fn:=Tryd.f16) _ rfl [hl,NI 0] (.tuple #[hl,NI 0]) rfl ⟨rfl,rfl,trivial⟩ ?_)))))))))))))
 have hen:(([(x.1.kind:UInt8)]:List UInt8)++Lib.uvarint x.1.session.toNat:List UInt8)++Lib.uvarint x.1.code.toNat=BM x.1:=by unfold BM Ba;rw[hk];simp[List.append_assoc]
 exact⟨hl,by rw[hR];rfl,by rw[hR,if_pos rfl,←hen];exact RB.ofOwn iu,hE⟩
end Go.Proofs.YtmonlobfofkbdaaDoor
