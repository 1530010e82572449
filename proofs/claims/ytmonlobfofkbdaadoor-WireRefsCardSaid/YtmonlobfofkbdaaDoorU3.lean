/- Part 3 of what stands behind these statements: laws and walks of the functions that are reached. Conditions: those that each theorem names. -/
import Derived.Test.YtmonlobfofkbdaaDoorU2
set_option linter.unusedVariables false
set_option linter.unusedSimpArgs false
namespace Go.Proofs.YtmonlobfofkbdaaDoor
open Go.RowKit
set_option maxRecDepth 100000
theorem DB:Tryd.prog.underlying 51=some (.slice 70):=by kernel_rfl
theorem HF:∀w' :World,(sizeOf 70).run Tryd.prog w' = .ok 33 w' :=fun _=>by kernel_rfl
theorem ML:∃fs,Tryd.prog.underlying 70=some (.struct fs):=CU (by kernel_rfl)
theorem HH:(Tryd.prog.info? 70).map (·.size)=some 33:=by kernel_rfl
theorem MM{d:Option Tmp}{ty:TypeId}{pos:String}{af:Array Edge}{gd:Option (Nat × Bool)}(σ:Operand→Value)(w:World):(execOp σ ⟨d, .alloc 70,ty,pos,af,gd⟩).run Tryd.prog w = .ok (.value (PQ w.heap.size 0)) (w.alloc (.cells (nmdC (⟨[],zid⟩:BC)).toArray 70)):=by kernel_rfl
theorem E6:AJ Tryd.prog 70 0 0:=fun b o w=>by simp[go_sem]
theorem Kq:AJ Tryd.prog 70 1 1:=fun b o w=>by simp[go_sem]
theorem Gg:AG Tryd.prog 83:=fun _ _=>by kernel_rfl
theorem Kr:AJ Tryd.prog 53 0 0:=fun b o w=>by simp[go_sem]
theorem IF:AG Tryd.prog 82:=fun _ _=>by kernel_rfl
theorem Ks:AJ Tryd.prog 53 1 1:=fun b o w=>by simp[go_sem]
theorem GV:AJ Tryd.prog 53 4 35:=fun b o w=>by simp[go_sem]
theorem D6:Tryd.prog.underlying 47=some (.slice 122):=by kernel_rfl
theorem E7:AJ Tryd.prog 53 2 2:=fun b o w=>by simp[go_sem]
theorem GW:AJ Tryd.prog 53 3 3:=fun b o w=>by simp[go_sem]
theorem Ku:∀w' :World,(sizeOf 122).run Tryd.prog w' = .ok 67 w' :=fun _=>by kernel_rfl
theorem Lz:∃fs,Tryd.prog.underlying 122=some (.struct fs):=CU (by kernel_rfl)
theorem GX:(Tryd.prog.info? 122).map (·.size)=some 67:=by kernel_rfl
theorem LA{d:Option Tmp}{ty:TypeId}{pos:String}{af:Array Edge}{gd:Option (Nat × Bool)}(σ:Operand→Value)(w:World):(execOp σ ⟨d, .alloc 122,ty,pos,af,gd⟩).run Tryd.prog w = .ok (.value (PQ w.heap.size 0)) (w.alloc (.cells (entC (⟨0,[],zid,zid,[]⟩:Ed)).toArray 122)):=by kernel_rfl
theorem Gh:AJ Tryd.prog 122 0 0:=fun b o w=>by simp[go_sem]
theorem MN:AG Tryd.prog 84:=fun _ _=>by kernel_rfl
theorem JI:AJ Tryd.prog 122 1 66:=fun b o w=>by simp[go_sem]
theorem MO:AG Tryd.prog 73:=fun _ _=>by kernel_rfl
set_option maxHeartbeats 1600000
theorem Gi(w:World)(u:BZ):
  Calls Tryd.prog 83 #[AB u.1] w fun e w' =>e = .returned (.bool (zeroB u))∧Ext w w' :=by
 refine calls_of_wpF (args:= [AB u.1]) Tryd.func83 rfl 6 rfl (Nat.le_of_ble_eq_true rfl) ?_
 intro c hb
 have f:c 0=(AB u.1:Value):=hb.get 0
 clear hb
 have hE:=Ext.refl w
 refine sk fun l g=>(wt (oS rfl (Yk.box (cs:=(Lib.byteCells u.1:List Value).toArray) f fun a h m b i n=> ?_)))
 have hE:=hE.trans i
 have j:=b;clear b
 have o:a<h.heap.size:=by omega
 refine oA rfl (oZ (tN (g _ _ (sk fun p k=>(wt (oS rfl (Yk.loadAll (vr (PQ a 0) rfl) j OA rfl (by exact AH u.2) (oS rfl (Yk.run (v:=AB (List.replicate 32 0)) (by kernel_rfl) (oS rfl (Yk.eqArr (l1:=u.1) (l2:=(List.replicate 32 0)) OA u5 Lm Ha (vr (AB u.1) rfl) (vr (AB (List.replicate 32 0)) rfl) (u.2) (List.length_replicate) (oA rfl (oZ (tN (k _ _ (Ap (Ao (fn:=Tryd.f83) _ rfl [.bool (decide (u.1=(List.replicate 32 0)))] (.bool (decide (u.1=(List.replicate 32 0)))) rfl ⟨rfl,trivial⟩ ?_)))))))))))))))))
 exact⟨rfl,hE⟩

theorem MP(w:World)(k:UInt8):
  Calls Tryd.prog 84 #[B8 k] w fun e w' =>e = .returned (.bool (Dj k))∧Ext w w' :=by
 refine calls_of_wpF (args:= [B8 (k)]) Tryd.func84 rfl 13 rfl (Nat.le_of_ble_eq_true rfl) ?_
 intro f hb
 have c:f 0=(B8 (k):Value):=hb.get 0
 clear hb
 have hE:=Ext.refl w
 refine sk fun i g=>(wt (oA rfl (oZ (tN (g _ _ (sk fun j h=>(wt (oM rfl (oS rfl (Yk.eqI (a:=((k).toNat:Nat)) (b:=(1:Nat)) c rfl (k_eql _ _ _ _) (oM rfl (Ab (B8 (k)) rfl rfl (gF (vr (.bool (decide (((k).toNat:Nat)=(1)))) rfl)) (fun hG3=>Yk.move c ⟨rfl,rfl⟩) (Ab (.bool (decide (((k).toNat:Nat)=(2)))) rfl rfl (gF (vr (.bool (decide (((k).toNat:Nat)=(1)))) rfl)) (fun hG4=>Yk.eqI (a:=(((k).toNat:Nat):Int)) (b:=((2:Nat):Int)) (mayT (vr (cond (!(decide (((k).toNat:Nat)=(1)))) (B8 (k)) undef) rfl) hG4) (vr (B8 (2)) rfl) (k_eql _ .u8 ((k).toNat) (2)) ⟨rfl,rfl⟩) (oS rfl (Yk.pickOrN (vr (.bool (decide (((k).toNat:Nat)=(1)))) rfl) (vr (.bool (true)) rfl) (fun hA=>(mayT (vr (cond (!(decide (((k).toNat:Nat)=(1)))) (.bool (decide (((k).toNat:Nat)=(2)))) undef) rfl) (not_i hA))) fun bb5 hbb6=>(oM rfl (Ab (B8 (k)) rfl rfl (gF (vr (.bool (bb5)) rfl)) (fun hG7=>Yk.move c ⟨rfl,rfl⟩) (Ab (.bool (decide (((k).toNat:Nat)=(3)))) rfl rfl (gF (vr (.bool (bb5)) rfl)) (fun hG8=>Yk.eqI (a:=(((k).toNat:Nat):Int)) (b:=((3:Nat):Int)) (mayT (vr (cond (!bb5) (B8 (k)) undef) rfl) hG8) (vr (B8 (3)) rfl) (k_eql _ .u8 ((k).toNat) (3)) ⟨rfl,rfl⟩) ?_))))))))))))))))))
 refine oS rfl (Yk.pickOrN (vr (.bool (bb5)) rfl) (vr (.bool (true)) rfl) (fun hA=>(mayT (vr (cond (!bb5) (.bool (decide (((k).toNat:Nat)=(3)))) undef) rfl) (not_i hA))) fun bb9 hbb10=>(oA rfl (oZ (tN (h _ _ (Ap (Ao (fn:=Tryd.f84) _ rfl [.bool (bb9)] (.bool (bb9)) rfl ⟨rfl,trivial⟩ ?_)))))))
 subst hbb6 hbb10
 exact⟨rfl,hE⟩

theorem IG(w:World)(v:Value)(l:List BC)(hr:RG 33 nmdC w v l)(hll:l.length<9223372036854775807)(hln:∀u∈l,u.name.length≤9223372036854775807):
  Calls Tryd.prog 82 #[v] w fun e w' =>e = .returned (.bool (A1 l))∧Ext w w' :=by
 refine calls_of_wpF (args:= [v]) Tryd.func82 rfl 40 rfl (Nat.le_of_ble_eq_true rfl) ?_
 intro ai hb
 have f:ai 0=(v:Value):=hb.get 0
 clear hb
 have hE:=Ext.refl w
 refine sk fun K1 aj=>(wt (oA rfl (oZ (tN (aj _ _ (sk fun K2 ak=>(sk fun K3 al=>(wt (oM rfl (oS rfl (Yk.lenRG DB (RG.of hr f) (oM rfl (Be [(0,v),(2, .bool (false)),(5,v),(6,NI l.length),(7,NI 0)] ⟨f,rfl,f,rfl,rfl,trivial⟩ fun bz ⟨f,T2,o,p,c,_⟩=>(tN (al _ _ (Ax (Bc (fun(ρ:At) (wz:World)=>∃i:Nat,ρ 0=(v:Value)∧ρ 5=(v:Value)∧ρ 6=(NI l.length:Value)∧ρ 7=(NI i:Value)∧RG 33 nmdC wz v l∧Ext w wz∧(i≤l.length)∧(∀j,j<i→nE l j=false)∧True) (fun ρ _=>l.length-(intOf (ρ 7)).toNat) ⟨0,f,o,p,c,hr,hE,Nat.zero_le _,fun j hj=>absurd hj (Nat.not_lt_zero _),trivial⟩ ?_)))))))))))))))))
 clear hr hE
 rintro am w6 ⟨i,f,o,p,c,hr,hE,hi,hn,-⟩
 have q7:=c
 refine sk fun K7 ao=>(wt (oS rfl (Yk.eqI (a:=(i:Nat)) (b:=(l.length:Nat)) c p (AZ _ _ _ _) (oZ (tN (ao _ _ (sk fun K8 ap=> ?_)))))))
 refine A2 ((i)<(l.length)) (vr (.bool (decide ((i)<(l.length)))) rfl) (fun z=> ?_) (fun z=> ?_)
 ·have hlt:i<l.length:=z
  have hnm:=hln _ (FF Af hlt)
  refine Ak (tN (ap _ _ (sk fun K9 aq=>(Ax (sk fun b4 ar=>(wt (oM rfl ?_)))))))
  have b5:(nmdC (l.getD (i) Af)).length=33:=(RG.elem hr Af (by omega))
  refine oS rfl (Yk.atRG DB HF (by decide) Af (RG.of hr o) c (by omega) fun au aa=>(oS rfl (Yk.loadPR (PR.of aa (vr au rfl)) (ML).choose_spec rfl (by rw[C4];exact HH) (oS rfl (Yk.alloc (cs:=(nmdC (⟨[],zid⟩:BC)).toArray) MM fun g av b6 ab ac b7=> ?_)))))
  have q:=Ext.refl w6
  have aw:=hE.size
  have hE:=hE.trans ac
  have q:=q.trans ac
  have r:=ab;clear ab
  have b8:g<av.heap.size:=by omega
  refine oA rfl (oS rfl (Yk.storeAll (vr (PQ g 0) rfl) (vr (.agg (nmdC (l.getD (i) Af)).toArray) rfl) r (by simp only[List.size_toArray,C4]) (AF (C4 _) HH) (Gz (x:=(l.getD (i) Af))) fun ax ad ae b9=> ?_))
  have hE:=Ae hE ae (Nat.le_trans aw (by omega))
  have q:=Ae q ae (Nat.le_trans (Nat.le_refl _) (by omega))
  clear r
  have r:ax.heap[g]? =some (.cells (nmdC (l.getD (i) Af)).toArray 70 (0,0)):=ad;clear ad
  have ca:=bl r
  refine oZ ?_
  clear aa
  refine tN (ar _ _ (sk fun cb ay=> ?_))
  refine Bi [Is (PQ g 0),Is (St (((l.getD (i) Af)).name)),Is (.bool (nameB (((l.getD (i) Af)).name))),Is (.bool (!(nameB (((l.getD (i) Af)).name)))),Is (.bool (!(nameB (((l.getD (i) Af)).name)))),Is (cond (!(!(nameB (((l.getD (i) Af)).name)))) (PQ g 1) undef),Is (cond (!(!(nameB (((l.getD (i) Af)).name)))) (AB (((l.getD (i) Af)).id.1)) undef),Is (cond (!(!(nameB (((l.getD (i) Af)).name)))) (.bool (zeroB (((l.getD (i) Af)).id))) undef),Is (.bool ((!(nameB (((l.getD (i) Af)).name)))||(zeroB (((l.getD (i) Af)).id)))),Is (.bool ((!(nameB (((l.getD (i) Af)).name)))||(zeroB (((l.getD (i) Af)).id)))),Is (cond (!((!(nameB (((l.getD (i) Af)).name)))||(zeroB (((l.getD (i) Af)).id)))) (NI i) undef),Is (cond (!((!(nameB (((l.getD (i) Af)).name)))||(zeroB (((l.getD (i) Af)).id)))) (.bool (decide ((0)<(i)))) undef),Is (cond (!((!(nameB (((l.getD (i) Af)).name)))||(zeroB (((l.getD (i) Af)).id)))) (.bool (decide ((0)<(i)))) undef),Is (cond ((!((!(nameB (((l.getD (i) Af)).name)))||(zeroB (((l.getD (i) Af)).id))))&&(decide ((0)<(i)))) (v) undef),Is (cond ((!((!(nameB (((l.getD (i) Af)).name)))||(zeroB (((l.getD (i) Af)).id))))&&(decide ((0)<(i)))) (NI i) undef),Is (cond ((!((!(nameB (((l.getD (i) Af)).name)))||(zeroB (((l.getD (i) Af)).id))))&&(decide ((0)<(i)))) (NI ((i)-(1))) undef),fun x w' =>((!((!(nameB (((l.getD (i) Af)).name)))||(zeroB (((l.getD (i) Af)).id))))&&(decide ((0)<(i))))=true→(fun x w' =>PR (nmdC (l.getD ((i)-(1)) Af)) x w') x w',fun x w' =>((!((!(nameB (((l.getD (i) Af)).name)))||(zeroB (((l.getD (i) Af)).id))))&&(decide ((0)<(i))))=true→(BD (St ((l.getD ((i)-(1)) Af).name))) x w',Is (cond ((!((!(nameB (((l.getD (i) Af)).name)))||(zeroB (((l.getD (i) Af)).id))))&&(decide ((0)<(i)))) (St ((l.getD ((i)-(1)) Af).name)) undef),Is (cond ((!((!(nameB (((l.getD (i) Af)).name)))||(zeroB (((l.getD (i) Af)).id))))&&(decide ((0)<(i)))) (PQ g 0) undef),Is (cond ((!((!(nameB (((l.getD (i) Af)).name)))||(zeroB (((l.getD (i) Af)).id))))&&(decide ((0)<(i)))) (St (((l.getD (i) Af)).name)) undef),Is (cond ((!((!(nameB (((l.getD (i) Af)).name)))||(zeroB (((l.getD (i) Af)).id))))&&(decide ((0)<(i)))) (.bool (!(Op.bytesLess ((l.getD ((i)-(1)) Af).name) (((l.getD (i) Af)).name)))) undef),Is (cond (!((!(nameB (((l.getD (i) Af)).name)))||(zeroB (((l.getD (i) Af)).id)))) (.bool ((decide ((0)<(i)))&&(!(Op.bytesLess ((l.getD ((i)-(1)) Af).name) (((l.getD (i) Af)).name))))) undef),Is (.bool (((!(nameB (((l.getD (i) Af)).name)))||(zeroB (((l.getD (i) Af)).id)))||((decide ((0)<(i)))&&(!(Op.bytesLess ((l.getD ((i)-(1)) Af).name) (((l.getD (i) Af)).name))))))] (by kernel_rfl) [12,13,14,15,16,17,18,19,20,21,22,23,24,25,26,27,28,29,30,31,32,33,34,35] (by kernel_rfl) (by kernel_rfl) (EG (Cc ⟨(Stab.may ((fun _ _ _ h k=>PR.keep h k))),(Stab.may (Stab.pcell _)),(KO trivial)⟩)) ?az ?hQ1004
  case az=>
   refine⟨?_,?_,?_,?_,?_,?_,?_,?_,?_,?_,?_,?_,?_,?_,?_,?_,?_,?_,?_,?_,?_,?_,?_,?_,trivial⟩
   ·refine Aa rfl fun σ w1 hC h=> ?_
    have s:σ 4=PQ g 0:=(Ad (h 4 (by decide))).trans rfl
    exact Yk.fieldAt E6 s ⟨Ext.refl _,rfl⟩
   ·refine Aa rfl fun σ w1 hC h=> ?_
    have a0:=Ad (h 12 (by decide))
    exact Yk.cell1 Dx rfl a0 (Ac (eb hC r) (show(nmdC (l.getD (i) Af))[0]? =some (St (((l.getD (i) Af)).name):Value)from Hp (l.getD (i) Af))) ⟨Ext.refl _,rfl⟩
   ·refine Aa rfl fun σ w1 hC h=> ?_
    have a1:=Ad (h 13 (by decide))
    refine Yk.callA1 N4 a1 ((FE _ (((l.getD (i) Af)).name) (by have:=hnm;omega)).mono ?_)
    rintro e w2 ⟨rfl,hx⟩
    exact⟨_,rfl,hx,rfl⟩
   ·refine Aa rfl fun σ w1 hC h=> ?_
    have a3:=Ad (h 14 (by decide))
    exact Yk.notB a3 ⟨Ext.refl _,rfl⟩
   ·refine Aa rfl fun σ w1 hC h=> ?_
    have a4:=Ad (h 15 (by decide))
    exact Yk.move a4 ⟨Ext.refl _,rfl⟩
   ·refine AK 4 false 16 (G:= !(!(nameB (((l.getD (i) Af)).name)))) rfl rfl (fun x _ (h:x = .bool (!(nameB (((l.getD (i) Af)).name))))=>gF h) (fun hu_ _=>A9 hu_) fun hG σ w1 hC h=> ?_
    have s:σ 4=PQ g 0:=(Ad (h 4 (by decide))).trans rfl
    exact Yk.fieldAt Kq s ⟨Ext.refl _,A8 hG⟩
   ·refine AK 4 false 16 (G:= !(!(nameB (((l.getD (i) Af)).name)))) rfl rfl (fun x _ (h:x = .bool (!(nameB (((l.getD (i) Af)).name))))=>gF h) (fun hu_ _=>A9 hu_) fun hG σ w1 hC h=> ?_
    have a5:=Ad (h 17 (by decide))
    exact Yk.loadPR (PR.blk (eb hC r) (Jt (l.getD (i) Af)) (Ju (l.getD (i) Af)) (mayT a5 hG)) OA rfl (AH ((l.getD (i) Af)).id.2) ⟨Ext.refl _,A8 hG⟩
   ·refine AK 4 false 16 (G:= !(!(nameB (((l.getD (i) Af)).name)))) rfl rfl (fun x _ (h:x = .bool (!(nameB (((l.getD (i) Af)).name))))=>gF h) (fun hu_ _=>A9 hu_) fun hG σ w1 hC h=> ?_
    have a6:=Ad (h 18 (by decide))
    refine Yk.callA1 Gg (mayT a6 hG) ((Gi _ (((l.getD (i) Af)).id)).mono ?_)
    rintro e w2 ⟨rfl,hx⟩
    exact⟨_,rfl,hx,A8 hG⟩
   ·refine Aa rfl fun σ w1 hC h=> ?_
    have a7:=Ad (h 16 (by decide))
    have a8:=Ad (h 19 (by decide))
    exact Yk.pickOr a7 (vr (.bool (true)) rfl) (fun hA=>(mayT a8 (not_i hA))) ⟨Ext.refl _,rfl⟩
   ·refine Aa rfl fun σ w1 hC h=> ?_
    have a9:=Ad (h 20 (by decide))
    exact Yk.move a9 ⟨Ext.refl _,rfl⟩
   ·refine AK 9 false 21 (G:= !((!(nameB (((l.getD (i) Af)).name)))||(zeroB (((l.getD (i) Af)).id)))) rfl rfl (fun x _ (h:x = .bool ((!(nameB (((l.getD (i) Af)).name)))||(zeroB (((l.getD (i) Af)).id))))=>gF h) (fun hu_ _=>A9 hu_) fun hG σ w1 hC h=> ?_
    have t:=(Ad (h 3 (by decide))).trans c
    exact Yk.move t ⟨Ext.refl _,A8 hG⟩
   ·refine AK 9 false 21 (G:= !((!(nameB (((l.getD (i) Af)).name)))||(zeroB (((l.getD (i) Af)).id)))) rfl rfl (fun x _ (h:x = .bool ((!(nameB (((l.getD (i) Af)).name)))||(zeroB (((l.getD (i) Af)).id))))=>gF h) (fun hu_ _=>A9 hu_) fun hG σ w1 hC h=> ?_
    have ba:=Ad (h 22 (by decide))
    exact Yk.eqI (a:=((i:Nat):Int)) (b:=((0:Nat):Int)) (mayT ba hG) (vr (NI 0) rfl) (Ce _ .i64 (i) (0)) ⟨Ext.refl _,A8 hG⟩
   ·refine AK 9 false 21 (G:= !((!(nameB (((l.getD (i) Af)).name)))||(zeroB (((l.getD (i) Af)).id)))) rfl rfl (fun x _ (h:x = .bool ((!(nameB (((l.getD (i) Af)).name)))||(zeroB (((l.getD (i) Af)).id))))=>gF h) (fun hu_ _=>A9 hu_) fun hG σ w1 hC h=> ?_
    have bb:=Ad (h 23 (by decide))
    exact Yk.move (mayT bb hG) ⟨Ext.refl _,A8 hG⟩
   ·refine AK 12 true 24 (G:=(!((!(nameB (((l.getD (i) Af)).name)))||(zeroB (((l.getD (i) Af)).id))))&&(decide ((0)<(i)))) rfl rfl (fun x _ (h:x=cond (!((!(nameB (((l.getD (i) Af)).name)))||(zeroB (((l.getD (i) Af)).id)))) (.bool (decide ((0)<(i)))) undef)=>geT h) (fun hu_ _=>A9 hu_) fun hG σ w1 hC h=> ?_
    have e0:=(Ad (h 0 (by decide))).trans f
    exact Yk.move e0 ⟨Ext.refl _,A8 hG⟩
   ·refine AK 12 true 24 (G:=(!((!(nameB (((l.getD (i) Af)).name)))||(zeroB (((l.getD (i) Af)).id))))&&(decide ((0)<(i)))) rfl rfl (fun x _ (h:x=cond (!((!(nameB (((l.getD (i) Af)).name)))||(zeroB (((l.getD (i) Af)).id)))) (.bool (decide ((0)<(i)))) undef)=>geT h) (fun hu_ _=>A9 hu_) fun hG σ w1 hC h=> ?_
    have t:=(Ad (h 3 (by decide))).trans c
    exact Yk.move t ⟨Ext.refl _,A8 hG⟩
   ·refine AK 12 true 24 (G:=(!((!(nameB (((l.getD (i) Af)).name)))||(zeroB (((l.getD (i) Af)).id))))&&(decide ((0)<(i)))) rfl rfl (fun x _ (h:x=cond (!((!(nameB (((l.getD (i) Af)).name)))||(zeroB (((l.getD (i) Af)).id)))) (.bool (decide ((0)<(i)))) undef)=>geT h) (fun hu_ _=>A9 hu_) fun hG σ w1 hC h=> ?_
    have bd:=Ad (h 26 (by decide))
    exact Yk.bin (xv:=NI i) (yv:=NI 1) (mayT bd hG) (vr (NI 1) rfl) rfl (CM _ (i) (1) (by simp only[gA,gB,gC,gD,gE]at hG;omega) (by simp only[gA,gB,gC,gD,gE]at hG;omega)) ⟨Ext.refl _,A8 hG⟩
   ·refine AK 12 true 24 (G:=(!((!(nameB (((l.getD (i) Af)).name)))||(zeroB (((l.getD (i) Af)).id))))&&(decide ((0)<(i)))) rfl rfl (fun x _ (h:x=cond (!((!(nameB (((l.getD (i) Af)).name)))||(zeroB (((l.getD (i) Af)).id)))) (.bool (decide ((0)<(i)))) undef)=>geT h) (fun hu_ _=>E0 hu_) fun hG σ w1 hC h=> ?_
    have be:=Ad (h 25 (by decide))
    have bf:=Ad (h 27 (by decide))
    exact Yk.atRG DB HF (by decide) Af (RG.of (hr.keep (q.trans hC)) (mayT be hG)) (mayT bf hG) (by simp only[gA,gB,gC,gD,gE]at hG;omega) fun v h=>⟨Ext.refl _,fun _=>h⟩
   ·refine AK 12 true 24 (G:=(!((!(nameB (((l.getD (i) Af)).name)))||(zeroB (((l.getD (i) Af)).id))))&&(decide ((0)<(i)))) rfl rfl (fun x _ (h:x=cond (!((!(nameB (((l.getD (i) Af)).name)))||(zeroB (((l.getD (i) Af)).id)))) (.bool (decide ((0)<(i)))) undef)=>geT h) (fun hu_ _=>E0 hu_) fun hG σ w1 hC h=> ?_
    have bg:(fun x w' =>((!((!(nameB (((l.getD (i) Af)).name)))||(zeroB (((l.getD (i) Af)).id))))&&(decide ((0)<(i))))=true→(fun x w' =>PR (nmdC (l.getD ((i)-(1)) Af)) x w') x w') (σ 28) w1:=h 28 (by decide)
    exact Yk.fieldPR (n:=1) E6 (bg hG) fun v h=>⟨Ext.refl _,fun _=>PR.pcell (by rw[D3]at h;exact h)⟩
   ·refine AK 12 true 24 (G:=(!((!(nameB (((l.getD (i) Af)).name)))||(zeroB (((l.getD (i) Af)).id))))&&(decide ((0)<(i)))) rfl rfl (fun x _ (h:x=cond (!((!(nameB (((l.getD (i) Af)).name)))||(zeroB (((l.getD (i) Af)).id)))) (.bool (decide ((0)<(i)))) undef)=>geT h) (fun hu_ _=>A9 hu_) fun hG σ w1 hC h=> ?_
    have bh:(fun x w' =>((!((!(nameB (((l.getD (i) Af)).name)))||(zeroB (((l.getD (i) Af)).id))))&&(decide ((0)<(i))))=true→(BD (St ((l.getD ((i)-(1)) Af).name))) x w') (σ 29) w1:=h 29 (by decide)
    exact Yk.loadC Dx rfl (bh hG) ⟨Ext.refl _,A8 hG⟩
   ·refine AK 12 true 24 (G:=(!((!(nameB (((l.getD (i) Af)).name)))||(zeroB (((l.getD (i) Af)).id))))&&(decide ((0)<(i)))) rfl rfl (fun x _ (h:x=cond (!((!(nameB (((l.getD (i) Af)).name)))||(zeroB (((l.getD (i) Af)).id)))) (.bool (decide ((0)<(i)))) undef)=>geT h) (fun hu_ _=>A9 hu_) fun hG σ w1 hC h=> ?_
    have s:σ 4=PQ g 0:=(Ad (h 4 (by decide))).trans rfl
    exact Yk.fieldAt E6 s ⟨Ext.refl _,A8 hG⟩
   ·refine AK 12 true 24 (G:=(!((!(nameB (((l.getD (i) Af)).name)))||(zeroB (((l.getD (i) Af)).id))))&&(decide ((0)<(i)))) rfl rfl (fun x _ (h:x=cond (!((!(nameB (((l.getD (i) Af)).name)))||(zeroB (((l.getD (i) Af)).id)))) (.bool (decide ((0)<(i)))) undef)=>geT h) (fun hu_ _=>A9 hu_) fun hG σ w1 hC h=> ?_
    have bi:=Ad (h 31 (by decide))
    exact Yk.cell1 Dx rfl (mayT bi hG) (Ac (eb hC r) (show(nmdC (l.getD (i) Af))[0]? =some (St (((l.getD (i) Af)).name):Value)from Hp (l.getD (i) Af))) ⟨Ext.refl _,A8 hG⟩
   ·refine AK 12 true 24 (G:=(!((!(nameB (((l.getD (i) Af)).name)))||(zeroB (((l.getD (i) Af)).id))))&&(decide ((0)<(i)))) rfl rfl (fun x _ (h:x=cond (!((!(nameB (((l.getD (i) Af)).name)))||(zeroB (((l.getD (i) Af)).id)))) (.bool (decide ((0)<(i)))) undef)=>geT h) (fun hu_ _=>A9 hu_) fun hG σ w1 hC h=> ?_
    have bj:=Ad (h 30 (by decide))
    have bk:=Ad (h 32 (by decide))
    exact Yk.ltSt (l:=(l.getD ((i)-(1)) Af).name) (m:=((l.getD (i) Af)).name) (.inr rfl) (mayT bj hG) (mayT bk hG) (!(Op.bytesLess ((l.getD ((i)-(1)) Af).name) (((l.getD (i) Af)).name))) rfl ⟨Ext.refl _,A8 hG⟩
   ·refine AK 9 false 21 (G:= !((!(nameB (((l.getD (i) Af)).name)))||(zeroB (((l.getD (i) Af)).id)))) rfl rfl (fun x _ (h:x = .bool ((!(nameB (((l.getD (i) Af)).name)))||(zeroB (((l.getD (i) Af)).id))))=>gF h) (fun hu_ _=>A9 hu_) fun hG σ w1 hC h=> ?_
    have bm:=Ad (h 24 (by decide))
    have bn:=Ad (h 33 (by decide))
    exact Yk.pickAnd (mayT bm hG) (fun hA=>(mayT bn (BF hG hA))) (vr (.bool (false)) rfl) ⟨Ext.refl _,A8 hG⟩
   ·refine Aa rfl fun σ w1 hC h=> ?_
    have bo:=Ad (h 21 (by decide))
    have bp:=Ad (h 34 (by decide))
    exact Yk.pickOr bo (vr (.bool (true)) rfl) (fun hA=>(mayT bp (not_i hA))) ⟨Ext.refl _,rfl⟩
  intro bq cc af he hf
  obtain⟨-,-,-,-,-,-,-,-,-,-,-,-,-,-,-,-,-,-,-,-,-,-,-,k35,-⟩:=hf
  obtain⟨f,T3,T4,o,p,c,-⟩:=he.hold [(0,_),(3,_),(4,PQ g 0),(5,_),(6,_),(7,_)] ⟨f,c,rfl,o,p,c,trivial⟩ rfl
  clear he
  have hE:=hE.trans af
  have q:=q.trans af
  have br:bq 35 = .bool (((!(nameB (((l.getD (i) Af)).name)))||(zeroB (((l.getD (i) Af)).id)))||((decide ((0)<(i)))&&(!(Op.bytesLess ((l.getD ((i)-(1)) Af).name) (((l.getD (i) Af)).name))))):=k35
  clear k35
  refine tN (ay _ _ ?_)
  refine A0 (((!(nameB (((l.getD (i) Af)).name)))||(zeroB (((l.getD (i) Af)).id)))||((decide ((0)<(i)))&&(!(Op.bytesLess ((l.getD ((i)-(1)) Af).name) (((l.getD (i) Af)).name))))) br (fun y=> ?_) (fun y=> ?_)
  ·have hbad:nE l i=true:=y
   refine sk fun cd bs=>(wt (oA rfl (oZ (tN (bs _ _ (Ap (AC (As (As (AC (As (Ao (fn:=Tryd.f82) _ rfl [.bool (false)] (.bool (false)) rfl ⟨rfl,trivial⟩ ?_))))))))))))
   exact⟨by rw[Hz hlt hbad],hE⟩
  have hbad:nE l i=false:=y
  refine Ak (bN (tN (aq _ _ (wt (oS rfl (Yk.bin (xv:=NI i) (yv:=NI 1) c rfl rfl (AN _ _ _ (by omega)) (oM rfl (Be [(0,v),(3,NI i),(4,PQ g 0),(5,v),(6,NI l.length),(7,NI ((i)+(1)))] ⟨f,T3,T4,o,p,rfl,trivial⟩ fun bt ⟨f,T3,T4,o,p,c,_⟩=>(tN (And.intro ⟨i+1,f,o,p,c,(hr.keep q),hE,by omega,GF hn hbad,trivial⟩ ?_))))))))))
  show l.length-(intOf (bt 7)).toNat<l.length-(intOf (am 7)).toNat
  rw[c,q7]
  simp only[intOf,Int.toNat_natCast];omega
 refine A6 (Aw (Aw (AM (tN (ak _ _ (sk fun ce bu=>(wt (oM rfl (oS rfl (Yk.lenRG DB (RG.of hr f) (oS rfl (Yk.eqI (a:=(l.length:Nat)) (b:=(64:Nat)) rfl rfl (Cl _ _ _ _) (oA rfl (oZ (tN (bu _ _ (Ap (Ao (fn:=Tryd.f82) _ rfl [.bool (decide ((l.length)≤(64)))] (.bool (decide ((l.length)≤(64)))) rfl ⟨rfl,trivial⟩ ?_))))))))))))))))))
 exact⟨by rw[Hy (show l.length≤i by omega) hn],hE⟩

theorem HI(w:World)(x:Ay)(hm:RefsAt w x)(hL:Fr x.1):
  Calls Tryd.prog 31 #[.agg (refsC x).toArray] w fun e w' =>e = .returned (.bool (Cx x.1))∧Ext w w' :=by
 have hmt:=hm.branches
 have hmg:=hm.tags
 have hml:=hm.log
 refine calls_of_wpF (args:= [.agg (refsC x).toArray]) Tryd.func31 rfl 72 rfl (Nat.le_of_ble_eq_true rfl) ?_
 intro am hb
 have k:am 0=(.agg (refsC x).toArray:Value):=hb.get 0
 clear hb
 have hE:=Ext.refl w
 refine sk fun K1 an=>(wt (oS rfl (Yk.box (cs:=(refsC x:List Value).toArray) k fun f w3 bg z ap bh=> ?_)))
 have hE:=hE.trans ap
 have c:=z;clear z
 have bi:f<w3.heap.size:=by omega
 refine oA rfl (oZ (tN (an _ _ (sk fun bj aq=>(sk fun bk ar=>(wt (oS rfl (Yk.fieldAt Kr (vr (PQ f 0) rfl) (oS rfl (Yk.cell1 DB rfl (vr (PQ f 0) rfl) (Ac c (show(refsC x)[0]? =some (x.2.branches:Value)from CN x)) (oS rfl (Yk.callA1 IF (vr x.2.branches rfl) ((IG _ _ x.1.branches (hmt.keep hE) hL.branches hL.bn).mono ?_)))))))))))))
 rintro e bm ⟨rfl,aa⟩
 refine⟨_,rfl,?_⟩
 have hE:=hE.trans aa
 have c:=eb aa c
 refine oS rfl (Yk.notB (vr (.bool (A1 x.1.branches)) rfl) (oM rfl (Ab (PQ f 1) rfl rfl (gF (vr (.bool (!(A1 x.1.branches))) rfl)) (fun hG14=>Yk.fieldAt Ks (vr (PQ f 0) rfl) ⟨rfl,rfl⟩) (Ab (x.2.tags) rfl rfl (gF (vr (.bool (!(A1 x.1.branches))) rfl)) (fun hG15=>Yk.cell1 DB rfl (mayT (vr (cond (!(!(A1 x.1.branches))) (PQ f 1) undef) rfl) hG15) (Ac c (show(refsC x)[1]? =some (x.2.tags:Value)from CO x)) ⟨rfl,rfl⟩) (AP (.bool (A1 x.1.tags)) rfl rfl (gF (vr (.bool (!(A1 x.1.branches))) rfl)) (fun hG16=>Yk.callA1 IF (mayT (vr (cond (!(!(A1 x.1.branches))) (x.2.tags) undef) rfl) hG16) ((IG _ _ x.1.tags (hmg.keep hE) hL.tags hL.tn).mono (by rintro e r ⟨rfl,hx⟩;exact⟨_,rfl,rfl,hx⟩))) fun bo ab=> ?_)))))
 have hE:=hE.trans ab
 have c:=eb ab c
 refine Ab (.bool (!(A1 x.1.tags))) rfl rfl (gF (vr (.bool (!(A1 x.1.branches))) rfl)) (fun hG20=>Yk.notB (mayT (vr (cond (!(!(A1 x.1.branches))) (.bool (A1 x.1.tags)) undef) rfl) hG20) ⟨rfl,rfl⟩) (oS rfl (Yk.pickOrN (vr (.bool (!(A1 x.1.branches))) rfl) (vr (.bool (true)) rfl) (fun hA=>(mayT (vr (cond (!(!(A1 x.1.branches))) (.bool (!(A1 x.1.tags))) undef) rfl) (not_i hA))) fun bb21 hbb22=>(oM rfl (Ab (PQ f 35) rfl rfl (gF (vr (.bool (bb21)) rfl)) (fun hG23=>Yk.fieldAt GV (vr (PQ f 0) rfl) ⟨rfl,rfl⟩) (Ab (x.2.log) rfl rfl (gF (vr (.bool (bb21)) rfl)) (fun hG24=>Yk.cell1 D6 rfl (mayT (vr (cond (!bb21) (PQ f 35) undef) rfl) hG24) (Ac c (show(refsC x)[35]? =some (x.2.log:Value)from DA x)) ⟨rfl,rfl⟩) (Ab (NI ((x.1.log).length)) rfl rfl (gF (vr (.bool (bb21)) rfl)) (fun hG25=>Yk.lenRG D6 (RG.of (hml.keep hE) (mayT (vr (cond (!bb21) (x.2.log) undef) rfl) hG25)) ⟨rfl,rfl⟩) (Ab (.bool (decide ((64)<((x.1.log).length)))) rfl rfl (gF (vr (.bool (bb21)) rfl)) (fun hG26=>Yk.eqI (a:=(((x.1.log).length:Nat):Int)) (b:=((64:Nat):Int)) (mayT (vr (cond (!bb21) (NI ((x.1.log).length)) undef) rfl) hG26) (vr (NI 64) rfl) (Ce _ .i64 ((x.1.log).length) (64)) ⟨rfl,rfl⟩) (oS rfl (Yk.pickOrN (vr (.bool (bb21)) rfl) (vr (.bool (true)) rfl) (fun hA=>(mayT (vr (cond (!bb21) (.bool (decide ((64)<((x.1.log).length)))) undef) rfl) (not_i hA))) fun bb27 hbb28=>(oZ (tN (ar _ _ ?_))))))))))))
 refine A0 (bb27) (vr (.bool (bb27)) rfl) (fun s=> ?_) (fun s=> ?_)
 ·subst hbb22 hbb28
  have h1c:FV x.1=true:=s
  refine sk fun bp au=>(wt (oA rfl (oZ (tN (au _ _ (Ap (As (Ao (fn:=Tryd.f31) _ rfl [.bool (false)] (.bool (false)) rfl ⟨rfl,trivial⟩ ?_))))))))
  exact⟨by rw[JG h1c],hE⟩
 subst hbb22 hbb28
 have h1c:FV x.1=false:=s
 refine Ak (tN (aq _ _ (sk fun bq av=>(sk fun br aw=>(wt (oS rfl (Yk.fieldAt E7 (vr (PQ f 0) rfl) (oS rfl (Yk.cell1 Dx rfl (vr (PQ f 2) rfl) (Ac c (show(refsC x)[2]? =some (St (x.1.head):Value)from DO x)) (oS rfl (Yk.eqSt (l:=x.1.head) (m:=([]:List UInt8)) (.inr rfl) (vr (St (x.1.head)) rfl) (vr (St (([]:List UInt8))) rfl) (decide ((x.1.head:List UInt8)≠(([]:List UInt8):List UInt8))) rfl (oM rfl (Ab (PQ f 2) rfl rfl (gT (vr (.bool (decide ((x.1.head:List UInt8)≠(([]:List UInt8):List UInt8)))) rfl)) (fun hG32=>Yk.fieldAt E7 (vr (PQ f 0) rfl) ⟨rfl,rfl⟩) (Ab (St (x.1.head)) rfl rfl (gT (vr (.bool (decide ((x.1.head:List UInt8)≠(([]:List UInt8):List UInt8)))) rfl)) (fun hG33=>Yk.cell1 Dx rfl (mayT (vr (cond ((decide ((x.1.head:List UInt8)≠(([]:List UInt8):List UInt8)))) (PQ f 2) undef) rfl) hG33) (Ac c (show(refsC x)[2]? =some (St (x.1.head):Value)from DO x)) ⟨rfl,rfl⟩) (AP (.bool (nameB x.1.head)) rfl rfl (gT (vr (.bool (decide ((x.1.head:List UInt8)≠(([]:List UInt8):List UInt8)))) rfl)) (fun hG34=>Yk.callA1 N4 (mayT (vr (cond ((decide ((x.1.head:List UInt8)≠(([]:List UInt8):List UInt8)))) (St (x.1.head)) undef) rfl) hG34) ((FE _ x.1.head hL.head).mono (by rintro e r ⟨rfl,hx⟩;exact⟨_,rfl,rfl,hx⟩))) fun bs ac=> ?_)))))))))))))))
 have hE:=hE.trans ac
 have c:=eb ac c
 refine Ab (.bool (!(nameB x.1.head))) rfl rfl (gT (vr (.bool (decide ((x.1.head:List UInt8)≠(([]:List UInt8):List UInt8)))) rfl)) (fun hG38=>Yk.notB (mayT (vr (cond ((decide ((x.1.head:List UInt8)≠(([]:List UInt8):List UInt8)))) (.bool (nameB x.1.head)) undef) rfl) hG38) ⟨rfl,rfl⟩) (Ab (.bool (!(nameB x.1.head))) rfl rfl (gT (vr (.bool (decide ((x.1.head:List UInt8)≠(([]:List UInt8):List UInt8)))) rfl)) (fun hG39=>Yk.move (mayT (vr (cond ((decide ((x.1.head:List UInt8)≠(([]:List UInt8):List UInt8)))) (.bool (!(nameB x.1.head))) undef) rfl) hG39) ⟨rfl,rfl⟩) (Ab (PQ f 3) rfl rfl (Bk (vr (cond ((decide ((x.1.head:List UInt8)≠(([]:List UInt8):List UInt8)))) (.bool (!(nameB x.1.head))) undef) rfl)) (fun hG40=>Yk.fieldAt GW (vr (PQ f 0) rfl) ⟨rfl,rfl⟩) (Ab (AB x.1.at_.1) rfl rfl (Bk (vr (cond ((decide ((x.1.head:List UInt8)≠(([]:List UInt8):List UInt8)))) (.bool (!(nameB x.1.head))) undef) rfl)) (fun hG41=>Yk.loadPR (PR.blk c (DP x) (Ex x) (mayT (vr (cond ((decide ((x.1.head:List UInt8)≠(([]:List UInt8):List UInt8)))&& !(!(nameB x.1.head))) (PQ f 3) undef) rfl) hG41)) OA rfl (AH x.1.at_.2) ⟨rfl,rfl⟩) (AP (.bool (zeroB x.1.at_)) rfl rfl (Bk (vr (cond ((decide ((x.1.head:List UInt8)≠(([]:List UInt8):List UInt8)))) (.bool (!(nameB x.1.head))) undef) rfl)) (fun hG42=>Yk.callA1 Gg (mayT (vr (cond ((decide ((x.1.head:List UInt8)≠(([]:List UInt8):List UInt8)))&& !(!(nameB x.1.head))) (AB x.1.at_.1) undef) rfl) hG42) ((Gi _ x.1.at_).mono (by rintro e r ⟨rfl,hx⟩;exact⟨_,rfl,rfl,hx⟩))) fun bt ad=> ?_))))
 have hE:=hE.trans ad
 have c:=eb ad c
 refine Ab (.bool (!(zeroB x.1.at_))) rfl rfl (Bk (vr (cond ((decide ((x.1.head:List UInt8)≠(([]:List UInt8):List UInt8)))) (.bool (!(nameB x.1.head))) undef) rfl)) (fun hG46=>Yk.notB (mayT (vr (cond ((decide ((x.1.head:List UInt8)≠(([]:List UInt8):List UInt8)))&& !(!(nameB x.1.head))) (.bool (zeroB x.1.at_)) undef) rfl) hG46) ⟨rfl,rfl⟩) (A7 ((!(nameB x.1.head))||(!(zeroB x.1.at_))) rfl rfl (gT (vr (.bool (decide ((x.1.head:List UInt8)≠(([]:List UInt8):List UInt8)))) rfl)) (fun hG47=>Yk.pickOr (mayT (vr (cond ((decide ((x.1.head:List UInt8)≠(([]:List UInt8):List UInt8)))) (.bool (!(nameB x.1.head))) undef) rfl) hG47) (vr (.bool (true)) rfl) (fun hA=>(mayT (vr (cond ((decide ((x.1.head:List UInt8)≠(([]:List UInt8):List UInt8)))&& !(!(nameB x.1.head))) (.bool (!(zeroB x.1.at_))) undef) rfl) (BF hG47 (not_i hA)))) ⟨rfl,rfl⟩) fun bb48 hbb49=>(oS rfl (Yk.pickAndN (vr (.bool (decide ((x.1.head:List UInt8)≠(([]:List UInt8):List UInt8)))) rfl) (fun hA=>(mayT (vr (cond ((decide ((x.1.head:List UInt8)≠(([]:List UInt8):List UInt8)))) (.bool (bb48)) undef) rfl) hA)) (vr (.bool (false)) rfl) fun bb50 hbb51=>(oM rfl (Ab (PQ f 2) rfl rfl (gF (vr (.bool (bb50)) rfl)) (fun hG52=>Yk.fieldAt E7 (vr (PQ f 0) rfl) ⟨rfl,rfl⟩) (Ab (St (x.1.head)) rfl rfl (gF (vr (.bool (bb50)) rfl)) (fun hG53=>Yk.cell1 Dx rfl (mayT (vr (cond (!bb50) (PQ f 2) undef) rfl) hG53) (Ac c (show(refsC x)[2]? =some (St (x.1.head):Value)from DO x)) ⟨rfl,rfl⟩) (Ab (.bool (decide ((x.1.head:List UInt8)=(([]:List UInt8):List UInt8)))) rfl rfl (gF (vr (.bool (bb50)) rfl)) (fun hG54=>Yk.eqSt (l:=x.1.head) (m:=([]:List UInt8)) (.inl rfl) (mayT (vr (cond (!bb50) (St (x.1.head)) undef) rfl) hG54) (vr (St (([]:List UInt8))) rfl) (decide ((x.1.head:List UInt8)=(([]:List UInt8):List UInt8))) rfl ⟨rfl,rfl⟩) (Ab (.bool (decide ((x.1.head:List UInt8)=(([]:List UInt8):List UInt8)))) rfl rfl (gF (vr (.bool (bb50)) rfl)) (fun hG55=>Yk.move (mayT (vr (cond (!bb50) (.bool (decide ((x.1.head:List UInt8)=(([]:List UInt8):List UInt8)))) undef) rfl) hG55) ⟨rfl,rfl⟩) (Ab (PQ f 3) rfl rfl (geT (vr (cond (!bb50) (.bool (decide ((x.1.head:List UInt8)=(([]:List UInt8):List UInt8)))) undef) rfl)) (fun hG56=>Yk.fieldAt GW (vr (PQ f 0) rfl) ⟨rfl,rfl⟩) (Ab (AB x.1.at_.1) rfl rfl (geT (vr (cond (!bb50) (.bool (decide ((x.1.head:List UInt8)=(([]:List UInt8):List UInt8)))) undef) rfl)) (fun hG57=>Yk.loadPR (PR.blk c (DP x) (Ex x) (mayT (vr (cond ((!bb50)&&(decide ((x.1.head:List UInt8)=(([]:List UInt8):List UInt8)))) (PQ f 3) undef) rfl) hG57)) OA rfl (AH x.1.at_.2) ⟨rfl,rfl⟩) (AP (.bool (zeroB x.1.at_)) rfl rfl (geT (vr (cond (!bb50) (.bool (decide ((x.1.head:List UInt8)=(([]:List UInt8):List UInt8)))) undef) rfl)) (fun hG58=>Yk.callA1 Gg (mayT (vr (cond ((!bb50)&&(decide ((x.1.head:List UInt8)=(([]:List UInt8):List UInt8)))) (AB x.1.at_.1) undef) rfl) hG58) ((Gi _ x.1.at_).mono (by rintro e r ⟨rfl,hx⟩;exact⟨_,rfl,rfl,hx⟩))) fun bu ae=> ?_)))))))))))
 have hE:=hE.trans ae
 have c:=eb ae c
 refine A7 ((decide ((x.1.head:List UInt8)=(([]:List UInt8):List UInt8)))&&(zeroB x.1.at_)) rfl rfl (gF (vr (.bool (bb50)) rfl)) (fun hG62=>Yk.pickAnd (mayT (vr (cond (!bb50) (.bool (decide ((x.1.head:List UInt8)=(([]:List UInt8):List UInt8)))) undef) rfl) hG62) (fun hA=>(mayT (vr (cond ((!bb50)&&(decide ((x.1.head:List UInt8)=(([]:List UInt8):List UInt8)))) (.bool (zeroB x.1.at_)) undef) rfl) (BF hG62 hA))) (vr (.bool (false)) rfl) ⟨rfl,rfl⟩) fun bb63 hbb64=>(oS rfl (Yk.pickOrN (vr (.bool (bb50)) rfl) (vr (.bool (true)) rfl) (fun hA=>(mayT (vr (cond (!bb50) (.bool (bb63)) undef) rfl) (not_i hA))) fun bb65 hbb66=>(Be [(0, .agg (refsC x).toArray),(1,PQ f 0),(2, .bool (false)),(45, .bool (bb65))] ⟨k,rfl,rfl,rfl,trivial⟩ fun bv ⟨k,o,T2,ax,_⟩=>(tN (aw _ _ ?_)))))
 refine A0 (bb65) ax (fun t=> ?_) (fun t=> ?_)
 ·subst hbb49 hbb51 hbb64 hbb66
  have h2c:HA x.1=true:=t
  refine sk fun bw ay=>(wt (oA rfl (oZ (tN (ay _ _ (Ap (As (Ao (fn:=Tryd.f31) _ rfl [.bool (false)] (.bool (false)) rfl ⟨rfl,trivial⟩ ?_))))))))
  exact⟨by rw[JH h1c h2c],hE⟩
 subst hbb49 hbb51 hbb64 hbb66
 have h2c:HA x.1=false:=t
 refine Ak (tN (av _ _ (sk fun bx az=>(sk fun bz a0=>(wt (oS rfl (Yk.fieldAt GV o (oS rfl (Yk.cell1 D6 rfl (vr (PQ f 35) rfl) (Ac c (show(refsC x)[35]? =some (x.2.log:Value)from DA x)) (oS rfl (Yk.lenRG D6 (RG.of (hml.keep hE) (vr x.2.log rfl)) (oM rfl (Be [(0, .agg (refsC x).toArray),(1,PQ f 0),(2, .bool (false)),(47,x.2.log),(48,NI ((x.1.log).length)),(49,NI 0)] ⟨k,o,T2,rfl,rfl,rfl,trivial⟩ fun b0 ⟨k,o,T2,p,q,n,_⟩=>(tN (a0 _ _ (Ax (Bc (fun(ρ:At) (wz:World)=>∃i:Nat,ρ 0=(.agg (refsC x).toArray:Value)∧ρ 1=(PQ f 0:Value)∧ρ 47=(x.2.log:Value)∧ρ 48=(NI ((x.1.log).length):Value)∧ρ 49=(NI i:Value)∧Ext w wz∧wz.heap[f]? =some (.cells (refsC x).toArray 53 (0,0))∧(i≤x.1.log.length)∧(∀j,j<i→EO x.1.log j=false)∧True) (fun ρ _=>x.1.log.length-(intOf (ρ 49)).toNat) ⟨0,k,o,p,q,n,hE,c,Nat.zero_le _,fun j hj=>absurd hj (Nat.not_lt_zero _),trivial⟩ ?_)))))))))))))))))
 clear hE c
 rintro a1 b1 ⟨i,k,o,p,q,n,hE,c,hi,hn,-⟩
 have q49:=n
 refine sk fun b2 a2=>(wt (oS rfl (Yk.eqI (a:=(i:Nat)) (b:=((x.1.log).length:Nat)) n q (AZ _ _ _ _) (oZ (tN (a2 _ _ (sk fun b3 a3=> ?_)))))))
 refine A2 ((i)<((x.1.log).length)) (vr (.bool (decide ((i)<((x.1.log).length)))) rfl) (fun ag=> ?_) (fun ag=> ?_)
 ·have hlt:i<x.1.log.length:=ag
  refine Ak (tN (a3 _ _ (sk fun b4 a4=>(Ax (sk fun b5 a5=>(wt ?_))))))
  have b6:(entC ((x.1.log).getD (i) Au)).length=67:=(RG.elem (hml.keep hE) Au (by omega))
  refine oS rfl (Yk.atRG D6 Ku (by decide) Au (RG.of (hml.keep hE) p) n (by omega) fun a6 ah=>(oS rfl (Yk.loadPR (PR.of ah (vr a6 rfl)) (Lz).choose_spec rfl (by rw[DN];exact GX) (oS rfl (Yk.alloc (cs:=(entC (⟨0,[],zid,zid,[]⟩:Ed)).toArray) LA fun g a7 a8 ai aj b7=> ?_)))))
  have a9:=hE.size
  have b8:=Bn (bl c) a8
  have hE:=hE.trans aj
  have c:=eb aj c
  have h:=ai;clear ai
  have b9:g<a7.heap.size:=by omega
  refine oS rfl (Yk.storeAll (vr (PQ g 0) rfl) (vr (.agg (entC ((x.1.log).getD (i) Au)).toArray) rfl) h (by simp only[List.size_toArray,DN]) (AF (DN _) GX) (Ig (x:=((x.1.log).getD (i) Au))) fun ba ak al ca=> ?_)
  have hE:=Ae hE al (Nat.le_trans a9 (by omega))
  have c:=kb al c (by omega)
  clear h
  have h:ba.heap[g]? =some (.cells (entC ((x.1.log).getD (i) Au)).toArray 122 (0,0)):=ak;clear ak
  have cb:=bl h
  refine oZ ?_
  clear ah
  refine tN (a5 _ _ (sk fun cc bb=>(wt (oS rfl (Yk.fieldAt Gh (vr (PQ g 0) rfl) (oS rfl (Yk.fieldAt Di (vr (PQ g 0) rfl) (oS rfl (Yk.cell1 u5 rfl (vr (PQ g 0) rfl) (Ac h (show(entC ((x.1.log).getD (i) Au))[0]? =some (B8 ((((x.1.log).getD (i) Au)).kind):Value)from Js ((x.1.log).getD (i) Au))) (oS rfl (Yk.callA1 MN (vr (B8 ((((x.1.log).getD (i) Au)).kind)) rfl) ((MP _ ((((x.1.log).getD (i) Au)).kind)).mono ?_))))))))))))
  rintro e cd ⟨rfl,u⟩
  refine⟨_,rfl,?_⟩
  have hE:=hE.trans u
  have c:=eb u c
  have h:=eb u h
  refine oS rfl (Yk.notB (vr (.bool (Dj ((((x.1.log).getD (i) Au)).kind))) rfl) (oM rfl (Ab (PQ g 66) rfl rfl (gF (vr (.bool (!(Dj ((((x.1.log).getD (i) Au)).kind)))) rfl)) (fun hG101=>Yk.fieldAt JI (vr (PQ g 0) rfl) ⟨rfl,rfl⟩) (Ab (St ((((x.1.log).getD (i) Au)).note)) rfl rfl (gF (vr (.bool (!(Dj ((((x.1.log).getD (i) Au)).kind)))) rfl)) (fun hG102=>Yk.cell1 Dx rfl (mayT (vr (cond (!(!(Dj ((((x.1.log).getD (i) Au)).kind)))) (PQ g 66) undef) rfl) hG102) (Ac h (show(entC ((x.1.log).getD (i) Au))[66]? =some (St ((((x.1.log).getD (i) Au)).note):Value)from Mo ((x.1.log).getD (i) Au))) ⟨rfl,rfl⟩) (AP (.bool (Dt ((((x.1.log).getD (i) Au)).note))) rfl rfl (gF (vr (.bool (!(Dj ((((x.1.log).getD (i) Au)).kind)))) rfl)) (fun hG103=>Yk.callA1 MO (mayT (vr (cond (!(!(Dj ((((x.1.log).getD (i) Au)).kind)))) (St ((((x.1.log).getD (i) Au)).note)) undef) rfl) hG103) ((NW _ ((((x.1.log).getD (i) Au)).note)).mono (by rintro e r ⟨rfl,hx⟩;exact⟨_,rfl,rfl,hx⟩))) fun ce v=> ?_)))))
  have hE:=hE.trans v
  have c:=eb v c
  have h:=eb v h
  refine Ab (.bool (!(Dt ((((x.1.log).getD (i) Au)).note)))) rfl rfl (gF (vr (.bool (!(Dj ((((x.1.log).getD (i) Au)).kind)))) rfl)) (fun hG107=>Yk.notB (mayT (vr (cond (!(!(Dj ((((x.1.log).getD (i) Au)).kind)))) (.bool (Dt ((((x.1.log).getD (i) Au)).note))) undef) rfl) hG107) ⟨rfl,rfl⟩) (oS rfl (Yk.pickOrN (vr (.bool (!(Dj ((((x.1.log).getD (i) Au)).kind)))) rfl) (vr (.bool (true)) rfl) (fun hA=>(mayT (vr (cond (!(!(Dj ((((x.1.log).getD (i) Au)).kind)))) (.bool (!(Dt ((((x.1.log).getD (i) Au)).note)))) undef) rfl) (not_i hA))) fun bb108 hbb109=>(oM rfl (Ab (PQ g 0) rfl rfl (gF (vr (.bool (bb108)) rfl)) (fun hG110=>Yk.fieldAt Gh (vr (PQ g 0) rfl) ⟨rfl,rfl⟩) (Ab (PQ g 1) rfl rfl (gF (vr (.bool (bb108)) rfl)) (fun hG111=>Yk.fieldAt FG (mayT (vr (cond (!bb108) (PQ g 0) undef) rfl) hG111) ⟨rfl,rfl⟩) (Ab (St ((((x.1.log).getD (i) Au)).name)) rfl rfl (gF (vr (.bool (bb108)) rfl)) (fun hG112=>Yk.cell1 Dx rfl (mayT (vr (cond (!bb108) (PQ g 1) undef) rfl) hG112) (Ac h (show(entC ((x.1.log).getD (i) Au))[1]? =some (St ((((x.1.log).getD (i) Au)).name):Value)from Mn ((x.1.log).getD (i) Au))) ⟨rfl,rfl⟩) (Ab (NI (((((x.1.log).getD (i) Au)).name:List UInt8).length)) rfl rfl (gF (vr (.bool (bb108)) rfl)) (fun hG113=>Yk.lenSt (l:=(((x.1.log).getD (i) Au)).name) Dx (mayT (vr (cond (!bb108) (St ((((x.1.log).getD (i) Au)).name)) undef) rfl) hG113) ⟨rfl,rfl⟩) (Ab (.bool (decide ((32)<(((((x.1.log).getD (i) Au)).name:List UInt8).length)))) rfl rfl (gF (vr (.bool (bb108)) rfl)) (fun hG114=>Yk.eqI (a:=((((((x.1.log).getD (i) Au)).name:List UInt8).length:Nat):Int)) (b:=((32:Nat):Int)) (mayT (vr (cond (!bb108) (NI (((((x.1.log).getD (i) Au)).name:List UInt8).length)) undef) rfl) hG114) (vr (NI 32) rfl) (Ce _ .i64 (((((x.1.log).getD (i) Au)).name:List UInt8).length) (32)) ⟨rfl,rfl⟩) (oS rfl (Yk.pickOrN (vr (.bool (bb108)) rfl) (vr (.bool (true)) rfl) (fun hA=>(mayT (vr (cond (!bb108) (.bool (decide ((32)<(((((x.1.log).getD (i) Au)).name:List UInt8).length)))) undef) rfl) (not_i hA))) fun bb115 hbb116=>(oZ (tN (bb _ _ ?_)))))))))))))
  refine A0 (bb115) (vr (.bool (bb115)) rfl) (fun y=> ?_) (fun y=> ?_)
  ·subst hbb109 hbb116
   have hbad:EO x.1.log i=true:=y
   refine sk fun cf bc=>(wt (oA rfl (oZ (tN (bc _ _ (Ap (AC (As (As (AC (As (Ao (fn:=Tryd.f31) _ rfl [.bool (false)] (.bool (false)) rfl ⟨rfl,trivial⟩ ?_))))))))))))
   exact⟨by rw[HC h1c h2c hlt hbad],hE⟩
  subst hbb109 hbb116
  have hbad:EO x.1.log i=false:=y
  refine Ak (bN (tN (a4 _ _ (wt (oS rfl (Yk.bin (xv:=NI i) (yv:=NI 1) n rfl rfl (AN _ _ _ (by have:=hL.log;omega)) (oM rfl (Be [(0, .agg (refsC x).toArray),(1,PQ f 0),(4,PQ g 0),(47,x.2.log),(48,NI ((x.1.log).length)),(49,NI ((i)+(1)))] ⟨k,o,rfl,p,q,rfl,trivial⟩ fun bd ⟨k,o,T4,p,q,n,_⟩=>(tN (And.intro ⟨i+1,k,o,p,q,n,hE,c,by omega,GF hn hbad,trivial⟩ ?_))))))))))
  show x.1.log.length-(intOf (bd 49)).toNat<x.1.log.length-(intOf (a1 49)).toNat
  rw[n,q49]
  simp only[intOf,Int.toNat_natCast];omega
 refine A6 (Aw (Aw (AM (tN (az _ _ (sk fun ch be=>(wt (oA rfl (oZ (tN (be _ _ (Ap (Ao (fn:=Tryd.f31) _ rfl [.bool (true)] (.bool (true)) rfl ⟨rfl,trivial⟩ ?_)))))))))))))
 exact⟨by rw[HE h1c h2c (show x.1.log.length≤i by omega) hn],hE⟩
open Go.RowKit
set_option maxRecDepth 100000
theorem CG:Tryd.prog.underlying 93=some (.map 5 92):=by kernel_rfl
theorem Kv(z0:Bool)(w:World):(Instr.build 92 #[(0, .bool z0)]).run Tryd.prog w = .ok (.agg #[.bool z0, .bool false, .bool false, .bool false, .bool false, .bool false, .bool false, .bool false]) w:=by kernel_rfl
theorem LB(z0:Bool)(w:World):(Instr.build 92 #[(0, .bool z0)]).run Tryd.prog w = .ok (.agg (.bool (z0) :: (.bool (false) :: (.bool (false) :: (.bool (false) :: (.bool (false) :: (.bool (false) :: (.bool (false) :: (.bool (false) :: ([]))))))))).toArray) w:=by
 exact Kv _ w
theorem Kw(z1:Bool)(w:World):(Instr.build 92 #[(1, .bool z1)]).run Tryd.prog w = .ok (.agg #[.bool false, .bool z1, .bool false, .bool false, .bool false, .bool false, .bool false, .bool false]) w:=by kernel_rfl
theorem LC(z1:Bool)(w:World):(Instr.build 92 #[(1, .bool z1)]).run Tryd.prog w = .ok (.agg (.bool (false) :: (.bool (z1) :: (.bool (false) :: (.bool (false) :: (.bool (false) :: (.bool (false) :: (.bool (false) :: (.bool (false) :: ([]))))))))).toArray) w:=by
 exact Kw _ w
theorem Jc(z2:Bool)(z4:Bool)(w:World):(Instr.build 92 #[(2, .bool z2),(4, .bool z4)]).run Tryd.prog w = .ok (.agg #[.bool false, .bool false, .bool z2, .bool false, .bool z4, .bool false, .bool false, .bool false]) w:=by kernel_rfl
theorem JJ(z2:Bool)(z4:Bool)(w:World):(Instr.build 92 #[(2, .bool z2),(4, .bool z4)]).run Tryd.prog w = .ok (.agg (.bool (false) :: (.bool (false) :: (.bool (z2) :: (.bool (false) :: (.bool (z4) :: (.bool (false) :: (.bool (false) :: (.bool (false) :: ([]))))))))).toArray) w:=by
 exact Jc _ _ w
theorem Kx(z3:Bool)(w:World):(Instr.build 92 #[(3, .bool z3)]).run Tryd.prog w = .ok (.agg #[.bool false, .bool false, .bool false, .bool z3, .bool false, .bool false, .bool false, .bool false]) w:=by kernel_rfl
theorem LD(z3:Bool)(w:World):(Instr.build 92 #[(3, .bool z3)]).run Tryd.prog w = .ok (.agg (.bool (false) :: (.bool (false) :: (.bool (false) :: (.bool (z3) :: (.bool (false) :: (.bool (false) :: (.bool (false) :: (.bool (false) :: ([]))))))))).toArray) w:=by
 exact Kx _ w
theorem Jd(z3:Bool)(z5:Bool)(w:World):(Instr.build 92 #[(3, .bool z3),(5, .bool z5)]).run Tryd.prog w = .ok (.agg #[.bool false, .bool false, .bool false, .bool z3, .bool false, .bool z5, .bool false, .bool false]) w:=by kernel_rfl
theorem JK(z3:Bool)(z5:Bool)(w:World):(Instr.build 92 #[(3, .bool z3),(5, .bool z5)]).run Tryd.prog w = .ok (.agg (.bool (false) :: (.bool (false) :: (.bool (false) :: (.bool (z3) :: (.bool (false) :: (.bool (z5) :: (.bool (false) :: (.bool (false) :: ([]))))))))).toArray) w:=by
 exact Jd _ _ w
theorem HJ(z2:Bool)(z4:Bool)(z6:Bool)(w:World):(Instr.build 92 #[(2, .bool z2),(4, .bool z4),(6, .bool z6)]).run Tryd.prog w = .ok (.agg #[.bool false, .bool false, .bool z2, .bool false, .bool z4, .bool false, .bool z6, .bool false]) w:=by kernel_rfl
theorem Ik(z2:Bool)(z4:Bool)(z6:Bool)(w:World):(Instr.build 92 #[(2, .bool z2),(4, .bool z4),(6, .bool z6)]).run Tryd.prog w = .ok (.agg (.bool (false) :: (.bool (false) :: (.bool (z2) :: (.bool (false) :: (.bool (z4) :: (.bool (false) :: (.bool (z6) :: (.bool (false) :: ([]))))))))).toArray) w:=by
 exact HJ _ _ _ w
theorem Ky(z7:Bool)(w:World):(Instr.build 92 #[(7, .bool z7)]).run Tryd.prog w = .ok (.agg #[.bool false, .bool false, .bool false, .bool false, .bool false, .bool false, .bool false, .bool z7]) w:=by kernel_rfl
theorem LE(z7:Bool)(w:World):(Instr.build 92 #[(7, .bool z7)]).run Tryd.prog w = .ok (.agg (.bool (false) :: (.bool (false) :: (.bool (false) :: (.bool (false) :: (.bool (false) :: (.bool (false) :: (.bool (false) :: (.bool (z7) :: ([]))))))))).toArray) w:=by
 exact Ky _ w
theorem LF:AJ Tryd.prog 92 0 0:=fun b o w=>by simp[go_sem]
theorem CS:Tryd.prog.underlying 4=some (.bool):=by kernel_rfl
theorem HK:AJ Tryd.prog 29 2 2:=fun b o w=>by simp[go_sem]
theorem LG:AJ Tryd.prog 92 1 1:=fun b o w=>by simp[go_sem]
theorem HM:AJ Tryd.prog 29 3 3:=fun b o w=>by simp[go_sem]
theorem HN:AJ Tryd.prog 29 4 4:=fun b o w=>by simp[go_sem]
theorem LH:AJ Tryd.prog 92 2 2:=fun b o w=>by simp[go_sem]
theorem HP:AJ Tryd.prog 29 5 5:=fun b o w=>by simp[go_sem]
theorem Fs:Tryd.prog.underlying 3=some (.int .i64):=by kernel_rfl
theorem LI:AJ Tryd.prog 92 3 3:=fun b o w=>by simp[go_sem]
theorem HQ:AJ Tryd.prog 29 6 6:=fun b o w=>by simp[go_sem]
theorem LJ:AJ Tryd.prog 92 4 4:=fun b o w=>by simp[go_sem]
theorem LK:AJ Tryd.prog 29 7 7:=fun b o w=>by simp[go_sem]
theorem HT:AJ Tryd.prog 92 5 5:=fun b o w=>by simp[go_sem]
theorem FI:AJ Tryd.prog 29 8 39:=fun b o w=>by simp[go_sem]
theorem HU:AJ Tryd.prog 92 6 6:=fun b o w=>by simp[go_sem]
theorem HV:AJ Tryd.prog 29 9 40:=fun b o w=>by simp[go_sem]
theorem Kz:AJ Tryd.prog 29 10 41:=fun b o w=>by simp[go_sem]
theorem GY:AJ Tryd.prog 29 11 73:=fun b o w=>by simp[go_sem]
theorem KA:AJ Tryd.prog 29 12 105:=fun b o w=>by simp[go_sem]
theorem LL:AJ Tryd.prog 92 7 7:=fun b o w=>by simp[go_sem]
theorem GZ:AJ Tryd.prog 29 13 106:=fun b o w=>by simp[go_sem]
theorem JL:Tryd.prog.underlying 27=some (.int .i64):=by kernel_rfl
theorem JM:AG Tryd.prog 50:=fun _ _=>by kernel_rfl
theorem HW:AJ Tryd.prog 29 0 0:=fun b o w=>by simp[go_sem]
theorem JN{d:Option Tmp}{ty:TypeId}{pos:String}{af:Array Edge}{gd:Option (Nat × Bool)}(σ:Operand→Value)(w:World):(execOp σ ⟨d, .alloc 92,ty,pos,af,gd⟩).run Tryd.prog w = .ok (.value (PQ w.heap.size 0)) (w.alloc (.cells (partsC (⟨false,false,false,false,false,false,false,false⟩:Ag)).toArray 92)):=by kernel_rfl
theorem Gj:(Tryd.prog.info? 92).map (·.size)=some 8:=by kernel_rfl
theorem LM:AJ Tryd.prog 29 1 1:=fun b o w=>by simp[go_sem]
theorem FJ:AG Tryd.prog 55:=fun _ _=>by kernel_rfl
theorem N6:∃fs,Tryd.prog.underlying 29=some (.struct fs):=CU (by kernel_rfl)
theorem MQ:(Tryd.prog.info? 29).map (·.size)=some 107:=by kernel_rfl
theorem N7:∃fs,Tryd.prog.underlying 92=some (.struct fs):=CU (by kernel_rfl)
theorem N8:AG Tryd.prog 56:=fun _ _=>by kernel_rfl
theorem N9:AG Tryd.prog 57:=fun _ _=>by kernel_rfl
theorem JO:AG Tryd.prog 58:=fun _ _=>by kernel_rfl
set_option maxHeartbeats 1600000
theorem Ca(w:World):
  Calls Tryd.prog 50 #[] w fun e w' =>∃b,e = .returned (.map (some b))∧MapF B8 AA (fun _:UInt8=>True) w' b AT∧Ext w w' ∧FH w w' :=by
 refine calls_of_wpF (args:= []) Tryd.func50 rfl 11 rfl (Nat.le_of_ble_eq_true rfl) ?_
 intro am hb
 clear hb
 have hE:=Ext.refl w
 refine sk fun K1 q=>(wt (oA rfl (oZ (tN (q _ _ (sk fun K2 r=>(wt (oS rfl (Yk.mkMap B8 AA (fun _:UInt8=>True) fun a s ap p t aq=> ?_)))))))))
 have hE:=hE.trans t
 have ar:a<s.heap.size:=by omega
 refine oS rfl (Yk.run (v:= .agg (partsC (⟨false,false,false,false,false,false,false,false⟩:Ag)).toArray) (by kernel_rfl) (oS rfl (Yk.insM (ek:=B8) (ev:=AA) (D:=(fun _:UInt8=>True)) (c:=(⟨false,false,false,false,false,false,false,false⟩:Ag)) Cn Co CG (vr (.map (some a)) rfl) (vr (B8 (1)) rfl) (vr (.agg (partsC (⟨false,false,false,false,false,false,false,false⟩:Ag)).toArray) rfl) p trivial fun u f x au=> ?_)))
 have hE:=Ae hE x (Nat.le_trans (Nat.le_refl _) (by omega))
 clear p
 have av:a<u.heap.size:=f.lt
 refine oS rfl (Yk.build1 (vr (.bool (true)) rfl) (fun w=>LB true w) (oS rfl (Yk.insM (ek:=B8) (ev:=AA) (D:=(fun _:UInt8=>True)) (c:=(⟨true,false,false,false,false,false,false,false⟩:Ag)) Cn Co CG (vr (.map (some a)) rfl) (vr (B8 (2)) rfl) (vr (.agg (partsC (⟨true,false,false,false,false,false,false,false⟩:Ag)).toArray) rfl) f trivial fun y g z aw=> ?_)))
 have hE:=Ae hE z (Nat.le_trans (Nat.le_refl _) (by omega))
 clear f
 have ax:a<y.heap.size:=g.lt
 refine oS rfl (Yk.build1 (vr (.bool (true)) rfl) (fun w=>LC true w) (oS rfl (Yk.insM (ek:=B8) (ev:=AA) (D:=(fun _:UInt8=>True)) (c:=(⟨false,true,false,false,false,false,false,false⟩:Ag)) Cn Co CG (vr (.map (some a)) rfl) (vr (B8 (3)) rfl) (vr (.agg (partsC (⟨false,true,false,false,false,false,false,false⟩:Ag)).toArray) rfl) g trivial fun aa h ab ay=> ?_)))
 have hE:=Ae hE ab (Nat.le_trans (Nat.le_refl _) (by omega))
 clear g
 have az:a<aa.heap.size:=h.lt
 refine oS rfl (Yk.build2 (vr (.bool (true)) rfl) (vr (.bool (true)) rfl) (fun w=>JJ true true w) (oS rfl (Yk.insM (ek:=B8) (ev:=AA) (D:=(fun _:UInt8=>True)) (c:=(⟨false,false,true,false,true,false,false,false⟩:Ag)) Cn Co CG (vr (.map (some a)) rfl) (vr (B8 (4)) rfl) (vr (.agg (partsC (⟨false,false,true,false,true,false,false,false⟩:Ag)).toArray) rfl) h trivial fun ac j ad a0=> ?_)))
 have hE:=Ae hE ad (Nat.le_trans (Nat.le_refl _) (by omega))
 clear h
 have a1:a<ac.heap.size:=j.lt
 refine oS rfl (Yk.build1 (vr (.bool (true)) rfl) (fun w=>LD true w) (oS rfl (Yk.insM (ek:=B8) (ev:=AA) (D:=(fun _:UInt8=>True)) (c:=(⟨false,false,false,true,false,false,false,false⟩:Ag)) Cn Co CG (vr (.map (some a)) rfl) (vr (B8 (5)) rfl) (vr (.agg (partsC (⟨false,false,false,true,false,false,false,false⟩:Ag)).toArray) rfl) j trivial fun ae k af a2=> ?_)))
 have hE:=Ae hE af (Nat.le_trans (Nat.le_refl _) (by omega))
 clear j
 have a3:a<ae.heap.size:=k.lt
 refine oS rfl (Yk.build2 (vr (.bool (true)) rfl) (vr (.bool (true)) rfl) (fun w=>JK true true w) (oS rfl (Yk.insM (ek:=B8) (ev:=AA) (D:=(fun _:UInt8=>True)) (c:=(⟨false,false,false,true,false,true,false,false⟩:Ag)) Cn Co CG (vr (.map (some a)) rfl) (vr (B8 (6)) rfl) (vr (.agg (partsC (⟨false,false,false,true,false,true,false,false⟩:Ag)).toArray) rfl) k trivial fun ag l ah a4=> ?_)))
 have hE:=Ae hE ah (Nat.le_trans (Nat.le_refl _) (by omega))
 clear k
 have a5:a<ag.heap.size:=l.lt
 refine oS rfl (Yk.build3 (vr (.bool (true)) rfl) (vr (.bool (true)) rfl) (vr (.bool (true)) rfl) (fun w=>Ik true true true w) (oS rfl (Yk.insM (ek:=B8) (ev:=AA) (D:=(fun _:UInt8=>True)) (c:=(⟨false,false,true,false,true,false,true,false⟩:Ag)) Cn Co CG (vr (.map (some a)) rfl) (vr (B8 (7)) rfl) (vr (.agg (partsC (⟨false,false,true,false,true,false,true,false⟩:Ag)).toArray) rfl) l trivial fun ai m aj a6=> ?_)))
 have hE:=Ae hE aj (Nat.le_trans (Nat.le_refl _) (by omega))
 clear l
 have a7:a<ai.heap.size:=m.lt
 refine oS rfl (Yk.build1 (vr (.bool (true)) rfl) (fun w=>LE true w) (oS rfl (Yk.insM (ek:=B8) (ev:=AA) (D:=(fun _:UInt8=>True)) (c:=(⟨false,false,false,false,false,false,false,true⟩:Ag)) Cn Co CG (vr (.map (some a)) rfl) (vr (B8 (8)) rfl) (vr (.agg (partsC (⟨false,false,false,false,false,false,false,true⟩:Ag)).toArray) rfl) m trivial fun ak n al a8=> ?_)))
 have hE:=Ae hE al (Nat.le_trans (Nat.le_refl _) (by omega))
 clear m
 have a9:a<ak.heap.size:=n.lt
 refine oM rfl (oA rfl (oZ (tN (r _ _ (Ap (Ao (fn:=Tryd.f50) _ rfl [.map (some a)] (.map (some a)) rfl ⟨rfl,trivial⟩ ?_))))))
 refine⟨_,rfl,n,hE,fun i o hi ho=> ?_⟩
 have hb_:=(bl ho)
 obtain rfl:i=a:=by omega
 obtain⟨es,c,hc⟩:=MapF.isMapB n
 rw[hc]at ho
 exact⟨es,c,(Option.some.inj ho).symm⟩

theorem LN(w:World)(x:Am)(hm:MsgAt w x)(p:Ag):
  Calls Tryd.prog 56 #[.agg (msgC x).toArray, .agg (partsC p).toArray] w fun e w' =>e = .returned (.bool (CA x.1 p))∧Ext w w' :=by
 have hmr:=hm.refs
 have hmw:=hm.wants
 have hmh:=hm.haves
 have hmb:=hm.bytes
 refine calls_of_wpF (args:= [.agg (msgC x).toArray, .agg (partsC p).toArray]) Tryd.func56 rfl 99 rfl (Nat.le_of_ble_eq_true rfl) ?_
 intro q hb
 have i:q 0=(.agg (msgC x).toArray:Value):=hb.get 0
 have j:q 1=(.agg (partsC p).toArray:Value):=hb.get 1
 clear hb
 have hE:=Ext.refl w
 refine sk fun K1 v=>(wt (oS rfl (Yk.box (cs:=(msgC x:List Value).toArray) i fun c y af r z ag=> ?_)))
 have hE:=hE.trans z
 have g:=r;clear r
 have ah:c<y.heap.size:=by omega
 refine oS rfl (Yk.box (cs:=(partsC p:List Value).toArray) j fun f aa ab s t ai=> ?_)
 have aj:=hE.size
 have ak:=Bn (bl g) ab
 have hE:=hE.trans t
 have g:=eb t g
 have h:=s;clear s
 have al:f<aa.heap.size:=by omega
 refine oA rfl (oZ (tN (v _ _ (sk fun am ac=>(wt (oS rfl (Yk.fieldAt LF (vr (PQ f 0) rfl) (oS rfl (Yk.cell1 CS rfl (vr (PQ f 0) rfl) (Ac h (show(partsC p)[0]? =some (.bool (p.refs):Value)from BH p)) (oM rfl (Ab (PQ c 2) rfl rfl (gF (vr (.bool (p.refs)) rfl)) (fun hG23=>Yk.fieldAt HK (vr (PQ c 0) rfl) ⟨rfl,rfl⟩) (Ab (x.2.refs) rfl rfl (gF (vr (.bool (p.refs)) rfl)) (fun hG24=>Yk.cell1 DS rfl (mayT (vr (cond (!p.refs) (PQ c 2) undef) rfl) hG24) (Ac g (show(msgC x)[2]? =some (x.2.refs:Value)from Cp x)) ⟨rfl,rfl⟩) (Ab (NI ((x.1.refs).length)) rfl rfl (gF (vr (.bool (p.refs)) rfl)) (fun hG25=>Yk.lenRG DS (RG.of (hmr.keep hE) (mayT (vr (cond (!p.refs) (x.2.refs) undef) rfl) hG25)) ⟨rfl,rfl⟩) (Ab (.bool (decide (((x.1.refs).length:Nat)=(0)))) rfl rfl (gF (vr (.bool (p.refs)) rfl)) (fun hG26=>Yk.eqI (a:=(((x.1.refs).length:Nat):Int)) (b:=((0:Nat):Int)) (mayT (vr (cond (!p.refs) (NI ((x.1.refs).length)) undef) rfl) hG26) (vr (NI 0) rfl) (k_eql _ .i64 ((x.1.refs).length) (0)) ⟨rfl,rfl⟩) (oS rfl (Yk.pickOrN (vr (.bool (p.refs)) rfl) (vr (.bool (true)) rfl) (fun hA=>(mayT (vr (cond (!p.refs) (.bool (decide (((x.1.refs).length:Nat)=(0)))) undef) rfl) (not_i hA))) fun bb27 hbb28=>(oM rfl (Ab (PQ f 1) rfl rfl (gT (vr (.bool (bb27)) rfl)) (fun hG29=>Yk.fieldAt LG (vr (PQ f 0) rfl) ⟨rfl,rfl⟩) (Ab (.bool (p.ids)) rfl rfl (gT (vr (.bool (bb27)) rfl)) (fun hG30=>Yk.cell1 CS rfl (mayT (vr (cond (bb27) (PQ f 1) undef) rfl) hG30) (Ac h (show(partsC p)[1]? =some (.bool (p.ids):Value)from BI p)) ⟨rfl,rfl⟩) ?_)))))))))))))))))))
 refine Ab (.bool (p.ids)) rfl rfl (gT (vr (.bool (bb27)) rfl)) (fun hG31=>Yk.move (mayT (vr (cond (bb27) (.bool (p.ids)) undef) rfl) hG31) ⟨rfl,rfl⟩) (Ab (PQ c 3) rfl rfl (Bk (vr (cond (bb27) (.bool (p.ids)) undef) rfl)) (fun hG32=>Yk.fieldAt HM (vr (PQ c 0) rfl) ⟨rfl,rfl⟩) (Ab (x.2.wants) rfl rfl (Bk (vr (cond (bb27) (.bool (p.ids)) undef) rfl)) (fun hG33=>Yk.cell1 BT rfl (mayT (vr (cond (bb27&& !p.ids) (PQ c 3) undef) rfl) hG33) (Ac g (show(msgC x)[3]? =some (x.2.wants:Value)from Fj x)) ⟨rfl,rfl⟩) (Ab (NI ((x.1.wants).length)) rfl rfl (Bk (vr (cond (bb27) (.bool (p.ids)) undef) rfl)) (fun hG34=>Yk.lenRG BT (RG.of (hmw.keep hE) (mayT (vr (cond (bb27&& !p.ids) (x.2.wants) undef) rfl) hG34)) ⟨rfl,rfl⟩) (Ab (.bool (decide (((x.1.wants).length:Nat)=(0)))) rfl rfl (Bk (vr (cond (bb27) (.bool (p.ids)) undef) rfl)) (fun hG35=>Yk.eqI (a:=(((x.1.wants).length:Nat):Int)) (b:=((0:Nat):Int)) (mayT (vr (cond (bb27&& !p.ids) (NI ((x.1.wants).length)) undef) rfl) hG35) (vr (NI 0) rfl) (k_eql _ .i64 ((x.1.wants).length) (0)) ⟨rfl,rfl⟩) (Ab (.bool (decide (((x.1.wants).length:Nat)=(0)))) rfl rfl (Bk (vr (cond (bb27) (.bool (p.ids)) undef) rfl)) (fun hG36=>Yk.move (mayT (vr (cond (bb27&& !p.ids) (.bool (decide (((x.1.wants).length:Nat)=(0)))) undef) rfl) hG36) ⟨rfl,rfl⟩) (Ab (PQ c 4) rfl rfl (geT (vr (cond (bb27&& !p.ids) (.bool (decide (((x.1.wants).length:Nat)=(0)))) undef) rfl)) (fun hG37=>Yk.fieldAt HN (vr (PQ c 0) rfl) ⟨rfl,rfl⟩) (Ab (x.2.haves) rfl rfl (geT (vr (cond (bb27&& !p.ids) (.bool (decide (((x.1.wants).length:Nat)=(0)))) undef) rfl)) (fun hG38=>Yk.cell1 BT rfl (mayT (vr (cond ((bb27&& !p.ids)&&(decide (((x.1.wants).length:Nat)=(0)))) (PQ c 4) undef) rfl) hG38) (Ac g (show(msgC x)[4]? =some (x.2.haves:Value)from Fk x)) ⟨rfl,rfl⟩) (Ab (NI ((x.1.haves).length)) rfl rfl (geT (vr (cond (bb27&& !p.ids) (.bool (decide (((x.1.wants).length:Nat)=(0)))) undef) rfl)) (fun hG39=>Yk.lenRG BT (RG.of (hmh.keep hE) (mayT (vr (cond ((bb27&& !p.ids)&&(decide (((x.1.wants).length:Nat)=(0)))) (x.2.haves) undef) rfl) hG39)) ⟨rfl,rfl⟩) (Ab (.bool (decide (((x.1.haves).length:Nat)=(0)))) rfl rfl (geT (vr (cond (bb27&& !p.ids) (.bool (decide (((x.1.wants).length:Nat)=(0)))) undef) rfl)) (fun hG40=>Yk.eqI (a:=(((x.1.haves).length:Nat):Int)) (b:=((0:Nat):Int)) (mayT (vr (cond ((bb27&& !p.ids)&&(decide (((x.1.wants).length:Nat)=(0)))) (NI ((x.1.haves).length)) undef) rfl) hG40) (vr (NI 0) rfl) (k_eql _ .i64 ((x.1.haves).length) (0)) ⟨rfl,rfl⟩) (A7 ((decide (((x.1.wants).length:Nat)=(0)))&&(decide (((x.1.haves).length:Nat)=(0)))) rfl rfl (Bk (vr (cond (bb27) (.bool (p.ids)) undef) rfl)) (fun hG41=>Yk.pickAnd (mayT (vr (cond (bb27&& !p.ids) (.bool (decide (((x.1.wants).length:Nat)=(0)))) undef) rfl) hG41) (fun hA=>(mayT (vr (cond ((bb27&& !p.ids)&&(decide (((x.1.wants).length:Nat)=(0)))) (.bool (decide (((x.1.haves).length:Nat)=(0)))) undef) rfl) (BF hG41 hA))) (vr (.bool (false)) rfl) ⟨rfl,rfl⟩) fun bb42 hbb43=> ?_))))))))))
 refine A7 (p.ids||bb42) rfl rfl (gT (vr (.bool (bb27)) rfl)) (fun hG44=>Yk.pickOr (mayT (vr (cond (bb27) (.bool (p.ids)) undef) rfl) hG44) (vr (.bool (true)) rfl) (fun hA=>(mayT (vr (cond (bb27&& !p.ids) (.bool (bb42)) undef) rfl) (BF hG44 (not_i hA)))) ⟨rfl,rfl⟩) fun bb45 hbb46=>(oS rfl (Yk.pickAndN (vr (.bool (bb27)) rfl) (fun hA=>(mayT (vr (cond (bb27) (.bool (bb45)) undef) rfl) hA)) (vr (.bool (false)) rfl) fun bb47 hbb48=>(oM rfl (Ab (PQ f 2) rfl rfl (gT (vr (.bool (bb47)) rfl)) (fun hG49=>Yk.fieldAt LH (vr (PQ f 0) rfl) ⟨rfl,rfl⟩) (Ab (.bool (p.size)) rfl rfl (gT (vr (.bool (bb47)) rfl)) (fun hG50=>Yk.cell1 CS rfl (mayT (vr (cond (bb47) (PQ f 2) undef) rfl) hG50) (Ac h (show(partsC p)[2]? =some (.bool (p.size):Value)from BJ p)) ⟨rfl,rfl⟩) (Ab (.bool (p.size)) rfl rfl (gT (vr (.bool (bb47)) rfl)) (fun hG51=>Yk.move (mayT (vr (cond (bb47) (.bool (p.size)) undef) rfl) hG51) ⟨rfl,rfl⟩) (Ab (PQ c 5) rfl rfl (Bk (vr (cond (bb47) (.bool (p.size)) undef) rfl)) (fun hG52=>Yk.fieldAt HP (vr (PQ c 0) rfl) ⟨rfl,rfl⟩) (Ab (.int .i64 (x.1.size:Int)) rfl rfl (Bk (vr (cond (bb47) (.bool (p.size)) undef) rfl)) (fun hG53=>Yk.cell1 Fs rfl (mayT (vr (cond (bb47&& !p.size) (PQ c 5) undef) rfl) hG53) (Ac g (show(msgC x)[5]? =some (.int .i64 (x.1.size:Int):Value)from Fl x)) ⟨rfl,rfl⟩) (Ab (.bool (decide ((x.1.size:Int)=((0:Nat):Int)))) rfl rfl (Bk (vr (cond (bb47) (.bool (p.size)) undef) rfl)) (fun hG54=>Yk.eqI (mayT (vr (cond (bb47&& !p.size) (.int .i64 (x.1.size:Int)) undef) rfl) hG54) (vr (NI 0) rfl) (FC _ .i64 (x.1.size:Int) ((0:Nat):Int)) ⟨rfl,rfl⟩) (A7 (p.size||(decide ((x.1.size:Int)=((0:Nat):Int)))) rfl rfl (gT (vr (.bool (bb47)) rfl)) (fun hG55=>Yk.pickOr (mayT (vr (cond (bb47) (.bool (p.size)) undef) rfl) hG55) (vr (.bool (true)) rfl) (fun hA=>(mayT (vr (cond (bb47&& !p.size) (.bool (decide ((x.1.size:Int)=((0:Nat):Int)))) undef) rfl) (BF hG55 (not_i hA)))) ⟨rfl,rfl⟩) fun bb56 hbb57=>(oS rfl (Yk.pickAndN (vr (.bool (bb47)) rfl) (fun hA=>(mayT (vr (cond (bb47) (.bool (bb56)) undef) rfl) hA)) (vr (.bool (false)) rfl) fun bb58 hbb59=>(oM rfl (Ab (PQ f 3) rfl rfl (gT (vr (.bool (bb58)) rfl)) (fun hG60=>Yk.fieldAt LI (vr (PQ f 0) rfl) ⟨rfl,rfl⟩) (Ab (.bool (p.at_)) rfl rfl (gT (vr (.bool (bb58)) rfl)) (fun hG61=>Yk.cell1 CS rfl (mayT (vr (cond (bb58) (PQ f 3) undef) rfl) hG61) (Ac h (show(partsC p)[3]? =some (.bool (p.at_):Value)from BK p)) ⟨rfl,rfl⟩) (Ab (.bool (p.at_)) rfl rfl (gT (vr (.bool (bb58)) rfl)) (fun hG62=>Yk.move (mayT (vr (cond (bb58) (.bool (p.at_)) undef) rfl) hG62) ⟨rfl,rfl⟩) (Ab (PQ c 6) rfl rfl (Bk (vr (cond (bb58) (.bool (p.at_)) undef) rfl)) (fun hG63=>Yk.fieldAt HQ (vr (PQ c 0) rfl) ⟨rfl,rfl⟩) ?_)))))))))))))))))
 refine Ab (.int .i64 (x.1.at_:Int)) rfl rfl (Bk (vr (cond (bb58) (.bool (p.at_)) undef) rfl)) (fun hG64=>Yk.cell1 Fs rfl (mayT (vr (cond (bb58&& !p.at_) (PQ c 6) undef) rfl) hG64) (Ac g (show(msgC x)[6]? =some (.int .i64 (x.1.at_:Int):Value)from Fm x)) ⟨rfl,rfl⟩) (Ab (.bool (decide ((x.1.at_:Int)=((0:Nat):Int)))) rfl rfl (Bk (vr (cond (bb58) (.bool (p.at_)) undef) rfl)) (fun hG65=>Yk.eqI (mayT (vr (cond (bb58&& !p.at_) (.int .i64 (x.1.at_:Int)) undef) rfl) hG65) (vr (NI 0) rfl) (FC _ .i64 (x.1.at_:Int) ((0:Nat):Int)) ⟨rfl,rfl⟩) (A7 (p.at_||(decide ((x.1.at_:Int)=((0:Nat):Int)))) rfl rfl (gT (vr (.bool (bb58)) rfl)) (fun hG66=>Yk.pickOr (mayT (vr (cond (bb58) (.bool (p.at_)) undef) rfl) hG66) (vr (.bool (true)) rfl) (fun hA=>(mayT (vr (cond (bb58&& !p.at_) (.bool (decide ((x.1.at_:Int)=((0:Nat):Int)))) undef) rfl) (BF hG66 (not_i hA)))) ⟨rfl,rfl⟩) fun bb67 hbb68=>(oS rfl (Yk.pickAndN (vr (.bool (bb58)) rfl) (fun hA=>(mayT (vr (cond (bb58) (.bool (bb67)) undef) rfl) hA)) (vr (.bool (false)) rfl) fun bb69 hbb70=>(oM rfl (Ab (PQ f 4) rfl rfl (gT (vr (.bool (bb69)) rfl)) (fun hG71=>Yk.fieldAt LJ (vr (PQ f 0) rfl) ⟨rfl,rfl⟩) (Ab (.bool (p.id)) rfl rfl (gT (vr (.bool (bb69)) rfl)) (fun hG72=>Yk.cell1 CS rfl (mayT (vr (cond (bb69) (PQ f 4) undef) rfl) hG72) (Ac h (show(partsC p)[4]? =some (.bool (p.id):Value)from BL p)) ⟨rfl,rfl⟩) (Ab (.bool (p.id)) rfl rfl (gT (vr (.bool (bb69)) rfl)) (fun hG73=>Yk.move (mayT (vr (cond (bb69) (.bool (p.id)) undef) rfl) hG73) ⟨rfl,rfl⟩) (Ab (PQ c 7) rfl rfl (Bk (vr (cond (bb69) (.bool (p.id)) undef) rfl)) (fun hG74=>Yk.fieldAt LK (vr (PQ c 0) rfl) ⟨rfl,rfl⟩) (Ab (AB x.1.id.1) rfl rfl (Bk (vr (cond (bb69) (.bool (p.id)) undef) rfl)) (fun hG75=>Yk.loadPR (PR.blk g (D4 x) (EL x) (mayT (vr (cond (bb69&& !p.id) (PQ c 7) undef) rfl) hG75)) OA rfl (AH x.1.id.2) ⟨rfl,rfl⟩) (AP (.bool (zeroB x.1.id)) rfl rfl (Bk (vr (cond (bb69) (.bool (p.id)) undef) rfl)) (fun hG76=>Yk.callA1 Hd (mayT (vr (cond (bb69&& !p.id) (AB x.1.id.1) undef) rfl) hG76) ((Dc _ x.1.id).mono (by rintro e u ⟨rfl,hx⟩;exact⟨_,rfl,rfl,hx⟩))) fun an k=> ?_)))))))))))
 have hE:=hE.trans k
 have g:=eb k g
 have h:=eb k h
 refine A7 (p.id||(zeroB x.1.id)) rfl rfl (gT (vr (.bool (bb69)) rfl)) (fun hG80=>Yk.pickOr (mayT (vr (cond (bb69) (.bool (p.id)) undef) rfl) hG80) (vr (.bool (true)) rfl) (fun hA=>(mayT (vr (cond (bb69&& !p.id) (.bool (zeroB x.1.id)) undef) rfl) (BF hG80 (not_i hA)))) ⟨rfl,rfl⟩) fun bb81 hbb82=>(oS rfl (Yk.pickAndN (vr (.bool (bb69)) rfl) (fun hA=>(mayT (vr (cond (bb69) (.bool (bb81)) undef) rfl) hA)) (vr (.bool (false)) rfl) fun bb83 hbb84=>(oM rfl (Ab (PQ f 5) rfl rfl (gT (vr (.bool (bb83)) rfl)) (fun hG85=>Yk.fieldAt HT (vr (PQ f 0) rfl) ⟨rfl,rfl⟩) (Ab (.bool (p.bytes)) rfl rfl (gT (vr (.bool (bb83)) rfl)) (fun hG86=>Yk.cell1 CS rfl (mayT (vr (cond (bb83) (PQ f 5) undef) rfl) hG86) (Ac h (show(partsC p)[5]? =some (.bool (p.bytes):Value)from Bv p)) ⟨rfl,rfl⟩) (Ab (.bool (p.bytes)) rfl rfl (gT (vr (.bool (bb83)) rfl)) (fun hG87=>Yk.move (mayT (vr (cond (bb83) (.bool (p.bytes)) undef) rfl) hG87) ⟨rfl,rfl⟩) (Ab (PQ c 39) rfl rfl (Bk (vr (cond (bb83) (.bool (p.bytes)) undef) rfl)) (fun hG88=>Yk.fieldAt FI (vr (PQ c 0) rfl) ⟨rfl,rfl⟩) (Ab (x.2.bytes) rfl rfl (Bk (vr (cond (bb83) (.bool (p.bytes)) undef) rfl)) (fun hG89=>Yk.cell1 Ff rfl (mayT (vr (cond (bb83&& !p.bytes) (PQ c 39) undef) rfl) hG89) (Ac g (show(msgC x)[39]? =some (x.2.bytes:Value)from Fo x)) ⟨rfl,rfl⟩) (Ab (NI ((x.1.bytes:List UInt8).length)) rfl rfl (Bk (vr (cond (bb83) (.bool (p.bytes)) undef) rfl)) (fun hG90=>Yk.lenRB Ff (RB.of (hmb.keep hE) (mayT (vr (cond (bb83&& !p.bytes) (x.2.bytes) undef) rfl) hG90)) ⟨rfl,rfl⟩) (Ab (.bool (decide (((x.1.bytes:List UInt8).length:Nat)=(0)))) rfl rfl (Bk (vr (cond (bb83) (.bool (p.bytes)) undef) rfl)) (fun hG91=>Yk.eqI (a:=(((x.1.bytes:List UInt8).length:Nat):Int)) (b:=((0:Nat):Int)) (mayT (vr (cond (bb83&& !p.bytes) (NI ((x.1.bytes:List UInt8).length)) undef) rfl) hG91) (vr (NI 0) rfl) (k_eql _ .i64 ((x.1.bytes:List UInt8).length) (0)) ⟨rfl,rfl⟩) (A7 (p.bytes||(decide (((x.1.bytes:List UInt8).length:Nat)=(0)))) rfl rfl (gT (vr (.bool (bb83)) rfl)) (fun hG92=>Yk.pickOr (mayT (vr (cond (bb83) (.bool (p.bytes)) undef) rfl) hG92) (vr (.bool (true)) rfl) (fun hA=>(mayT (vr (cond (bb83&& !p.bytes) (.bool (decide (((x.1.bytes:List UInt8).length:Nat)=(0)))) undef) rfl) (BF hG92 (not_i hA)))) ⟨rfl,rfl⟩) fun bb93 hbb94=>(oS rfl (Yk.pickAndN (vr (.bool (bb83)) rfl) (fun hA=>(mayT (vr (cond (bb83) (.bool (bb93)) undef) rfl) hA)) (vr (.bool (false)) rfl) fun bb95 hbb96=>(oM rfl (Ab (PQ f 6) rfl rfl (gT (vr (.bool (bb95)) rfl)) (fun hG97=>Yk.fieldAt HU (vr (PQ f 0) rfl) ⟨rfl,rfl⟩) (Ab (.bool (p.push)) rfl rfl (gT (vr (.bool (bb95)) rfl)) (fun hG98=>Yk.cell1 CS rfl (mayT (vr (cond (bb95) (PQ f 6) undef) rfl) hG98) (Ac h (show(partsC p)[6]? =some (.bool (p.push):Value)from Bw p)) ⟨rfl,rfl⟩) ?_))))))))))))))))
 refine Ab (.bool (p.push)) rfl rfl (gT (vr (.bool (bb95)) rfl)) (fun hG99=>Yk.move (mayT (vr (cond (bb95) (.bool (p.push)) undef) rfl) hG99) ⟨rfl,rfl⟩) (Ab (PQ c 40) rfl rfl (Bk (vr (cond (bb95) (.bool (p.push)) undef) rfl)) (fun hG100=>Yk.fieldAt HV (vr (PQ c 0) rfl) ⟨rfl,rfl⟩) (Ab (St (x.1.name)) rfl rfl (Bk (vr (cond (bb95) (.bool (p.push)) undef) rfl)) (fun hG101=>Yk.cell1 Dx rfl (mayT (vr (cond (bb95&& !p.push) (PQ c 40) undef) rfl) hG101) (Ac g (show(msgC x)[40]? =some (St (x.1.name):Value)from Ga x)) ⟨rfl,rfl⟩) (Ab (.bool (decide ((x.1.name:List UInt8)=(([]:List UInt8):List UInt8)))) rfl rfl (Bk (vr (cond (bb95) (.bool (p.push)) undef) rfl)) (fun hG102=>Yk.eqSt (l:=x.1.name) (m:=([]:List UInt8)) (.inl rfl) (mayT (vr (cond (bb95&& !p.push) (St (x.1.name)) undef) rfl) hG102) (vr (St (([]:List UInt8))) rfl) (decide ((x.1.name:List UInt8)=(([]:List UInt8):List UInt8))) rfl ⟨rfl,rfl⟩) (Ab (.bool (decide ((x.1.name:List UInt8)=(([]:List UInt8):List UInt8)))) rfl rfl (Bk (vr (cond (bb95) (.bool (p.push)) undef) rfl)) (fun hG103=>Yk.move (mayT (vr (cond (bb95&& !p.push) (.bool (decide ((x.1.name:List UInt8)=(([]:List UInt8):List UInt8)))) undef) rfl) hG103) ⟨rfl,rfl⟩) (Ab (PQ c 41) rfl rfl (geT (vr (cond (bb95&& !p.push) (.bool (decide ((x.1.name:List UInt8)=(([]:List UInt8):List UInt8)))) undef) rfl)) (fun hG104=>Yk.fieldAt Kz (vr (PQ c 0) rfl) ⟨rfl,rfl⟩) (Ab (AB x.1.old.1) rfl rfl (geT (vr (cond (bb95&& !p.push) (.bool (decide ((x.1.name:List UInt8)=(([]:List UInt8):List UInt8)))) undef) rfl)) (fun hG105=>Yk.loadPR (PR.blk g (Ez x) (Fp x) (mayT (vr (cond ((bb95&& !p.push)&&(decide ((x.1.name:List UInt8)=(([]:List UInt8):List UInt8)))) (PQ c 41) undef) rfl) hG105)) OA rfl (AH x.1.old.2) ⟨rfl,rfl⟩) (AP (.bool (zeroB x.1.old)) rfl rfl (geT (vr (cond (bb95&& !p.push) (.bool (decide ((x.1.name:List UInt8)=(([]:List UInt8):List UInt8)))) undef) rfl)) (fun hG106=>Yk.callA1 Hd (mayT (vr (cond ((bb95&& !p.push)&&(decide ((x.1.name:List UInt8)=(([]:List UInt8):List UInt8)))) (AB x.1.old.1) undef) rfl) hG106) ((Dc _ x.1.old).mono (by rintro e u ⟨rfl,hx⟩;exact⟨_,rfl,rfl,hx⟩))) fun ao n=> ?_)))))))
 have hE:=hE.trans n
 have g:=eb n g
 have h:=eb n h
 refine A7 ((decide ((x.1.name:List UInt8)=(([]:List UInt8):List UInt8)))&&(zeroB x.1.old)) rfl rfl (Bk (vr (cond (bb95) (.bool (p.push)) undef) rfl)) (fun hG110=>Yk.pickAnd (mayT (vr (cond (bb95&& !p.push) (.bool (decide ((x.1.name:List UInt8)=(([]:List UInt8):List UInt8)))) undef) rfl) hG110) (fun hA=>(mayT (vr (cond ((bb95&& !p.push)&&(decide ((x.1.name:List UInt8)=(([]:List UInt8):List UInt8)))) (.bool (zeroB x.1.old)) undef) rfl) (BF hG110 hA))) (vr (.bool (false)) rfl) ⟨rfl,rfl⟩) fun bb111 hbb112=>(Ab (.bool (bb111)) rfl rfl (Bk (vr (cond (bb95) (.bool (p.push)) undef) rfl)) (fun hG113=>Yk.move (mayT (vr (cond (bb95&& !p.push) (.bool (bb111)) undef) rfl) hG113) ⟨rfl,rfl⟩) (Ab (PQ c 73) rfl rfl (geT (vr (cond (bb95&& !p.push) (.bool (bb111)) undef) rfl)) (fun hG114=>Yk.fieldAt GY (vr (PQ c 0) rfl) ⟨rfl,rfl⟩) (Ab (AB x.1.new.1) rfl rfl (geT (vr (cond (bb95&& !p.push) (.bool (bb111)) undef) rfl)) (fun hG115=>Yk.loadPR (PR.blk g (DQ x) (EB x) (mayT (vr (cond ((bb95&& !p.push)&&bb111) (PQ c 73) undef) rfl) hG115)) OA rfl (AH x.1.new.2) ⟨rfl,rfl⟩) (AP (.bool (zeroB x.1.new)) rfl rfl (geT (vr (cond (bb95&& !p.push) (.bool (bb111)) undef) rfl)) (fun hG116=>Yk.callA1 Hd (mayT (vr (cond ((bb95&& !p.push)&&bb111) (AB x.1.new.1) undef) rfl) hG116) ((Dc _ x.1.new).mono (by rintro e u ⟨rfl,hx⟩;exact⟨_,rfl,rfl,hx⟩))) fun ap o=> ?_))))
 have hE:=hE.trans o
 have g:=eb o g
 have h:=eb o h
 refine A7 (bb111&&(zeroB x.1.new)) rfl rfl (Bk (vr (cond (bb95) (.bool (p.push)) undef) rfl)) (fun hG120=>Yk.pickAnd (mayT (vr (cond (bb95&& !p.push) (.bool (bb111)) undef) rfl) hG120) (fun hA=>(mayT (vr (cond ((bb95&& !p.push)&&bb111) (.bool (zeroB x.1.new)) undef) rfl) (BF hG120 hA))) (vr (.bool (false)) rfl) ⟨rfl,rfl⟩) fun bb121 hbb122=>(Ab (.bool (bb121)) rfl rfl (Bk (vr (cond (bb95) (.bool (p.push)) undef) rfl)) (fun hG123=>Yk.move (mayT (vr (cond (bb95&& !p.push) (.bool (bb121)) undef) rfl) hG123) ⟨rfl,rfl⟩) (Ab (PQ c 105) rfl rfl (geT (vr (cond (bb95&& !p.push) (.bool (bb121)) undef) rfl)) (fun hG124=>Yk.fieldAt KA (vr (PQ c 0) rfl) ⟨rfl,rfl⟩) (Ab (.bool (x.1.force)) rfl rfl (geT (vr (cond (bb95&& !p.push) (.bool (bb121)) undef) rfl)) (fun hG125=>Yk.cell1 CS rfl (mayT (vr (cond ((bb95&& !p.push)&&bb121) (PQ c 105) undef) rfl) hG125) (Ac g (show(msgC x)[105]? =some (.bool (x.1.force):Value)from GD x)) ⟨rfl,rfl⟩) (Ab (.bool (!(x.1.force))) rfl rfl (geT (vr (cond (bb95&& !p.push) (.bool (bb121)) undef) rfl)) (fun hG126=>Yk.notB (mayT (vr (cond ((bb95&& !p.push)&&bb121) (.bool (x.1.force)) undef) rfl) hG126) ⟨rfl,rfl⟩) (A7 (bb121&&(!(x.1.force))) rfl rfl (Bk (vr (cond (bb95) (.bool (p.push)) undef) rfl)) (fun hG127=>Yk.pickAnd (mayT (vr (cond (bb95&& !p.push) (.bool (bb121)) undef) rfl) hG127) (fun hA=>(mayT (vr (cond ((bb95&& !p.push)&&bb121) (.bool (!(x.1.force))) undef) rfl) (BF hG127 hA))) (vr (.bool (false)) rfl) ⟨rfl,rfl⟩) fun bb128 hbb129=>(A7 (p.push||bb128) rfl rfl (gT (vr (.bool (bb95)) rfl)) (fun hG130=>Yk.pickOr (mayT (vr (cond (bb95) (.bool (p.push)) undef) rfl) hG130) (vr (.bool (true)) rfl) (fun hA=>(mayT (vr (cond (bb95&& !p.push) (.bool (bb128)) undef) rfl) (BF hG130 (not_i hA)))) ⟨rfl,rfl⟩) fun bb131 hbb132=>(oS rfl (Yk.pickAndN (vr (.bool (bb95)) rfl) (fun hA=>(mayT (vr (cond (bb95) (.bool (bb131)) undef) rfl) hA)) (vr (.bool (false)) rfl) fun bb133 hbb134=>(oM rfl (Ab (PQ f 7) rfl rfl (gT (vr (.bool (bb133)) rfl)) (fun hG135=>Yk.fieldAt LL (vr (PQ f 0) rfl) ⟨rfl,rfl⟩) (Ab (.bool (p.code)) rfl rfl (gT (vr (.bool (bb133)) rfl)) (fun hG136=>Yk.cell1 CS rfl (mayT (vr (cond (bb133) (PQ f 7) undef) rfl) hG136) (Ac h (show(partsC p)[7]? =some (.bool (p.code):Value)from Bx p)) ⟨rfl,rfl⟩) (Ab (.bool (p.code)) rfl rfl (gT (vr (.bool (bb133)) rfl)) (fun hG137=>Yk.move (mayT (vr (cond (bb133) (.bool (p.code)) undef) rfl) hG137) ⟨rfl,rfl⟩) (Ab (PQ c 106) rfl rfl (Bk (vr (cond (bb133) (.bool (p.code)) undef) rfl)) (fun hG138=>Yk.fieldAt GZ (vr (PQ c 0) rfl) ⟨rfl,rfl⟩) (Ab (.int .i64 (x.1.code:Int)) rfl rfl (Bk (vr (cond (bb133) (.bool (p.code)) undef) rfl)) (fun hG139=>Yk.cell1 JL rfl (mayT (vr (cond (bb133&& !p.code) (PQ c 106) undef) rfl) hG139) (Ac g (show(msgC x)[106]? =some (.int .i64 (x.1.code:Int):Value)from Fq x)) ⟨rfl,rfl⟩) ?_))))))))))))))
 refine Ab (.bool (decide ((x.1.code:Int)=((0:Nat):Int)))) rfl rfl (Bk (vr (cond (bb133) (.bool (p.code)) undef) rfl)) (fun hG140=>Yk.eqI (mayT (vr (cond (bb133&& !p.code) (.int .i64 (x.1.code:Int)) undef) rfl) hG140) (vr (NI 0) rfl) (FC _ .i64 (x.1.code:Int) ((0:Nat):Int)) ⟨rfl,rfl⟩) (A7 (p.code||(decide ((x.1.code:Int)=((0:Nat):Int)))) rfl rfl (gT (vr (.bool (bb133)) rfl)) (fun hG141=>Yk.pickOr (mayT (vr (cond (bb133) (.bool (p.code)) undef) rfl) hG141) (vr (.bool (true)) rfl) (fun hA=>(mayT (vr (cond (bb133&& !p.code) (.bool (decide ((x.1.code:Int)=((0:Nat):Int)))) undef) rfl) (BF hG141 (not_i hA)))) ⟨rfl,rfl⟩) fun bb142 hbb143=>(oS rfl (Yk.pickAndN (vr (.bool (bb133)) rfl) (fun hA=>(mayT (vr (cond (bb133) (.bool (bb142)) undef) rfl) hA)) (vr (.bool (false)) rfl) fun bb144 hbb145=>(oA rfl (Be [(0, .agg (msgC x).toArray),(1, .agg (partsC p).toArray),(2,PQ c 0),(3,PQ f 0),(4, .bool (bb144))] ⟨i,j,rfl,rfl,rfl,trivial⟩ fun aq ⟨i,j,T2,T3,T4,_⟩=>(tN (ac _ _ (Ap (Ao (fn:=Tryd.f56) _ rfl [.bool (bb144)] (.bool (bb144)) rfl ⟨T4,trivial⟩ ?_)))))))))
 subst hbb28 hbb43 hbb46 hbb48 hbb57 hbb59 hbb68 hbb70 hbb82 hbb84 hbb94 hbb96 hbb112 hbb122 hbb129 hbb132 hbb134 hbb143 hbb145
 exact⟨rfl,hE⟩

theorem CC(w:World)(x:Am)(hm:MsgAt w x)(hL:CX x.1):
  Calls Tryd.prog 19 #[.agg (msgC x).toArray] w fun e w' =>e = .returned (.bool (rightB x.1))∧Ext w w' :=by
 have hmr:=hm.refs
 have hmw:=hm.wants
 have hmh:=hm.haves
 have hmb:=hm.bytes
 refine calls_of_wpF (args:= [.agg (msgC x).toArray]) Tryd.func19 rfl 88 rfl (Nat.le_of_ble_eq_true rfl) ?_
 intro a3 hb
 have n:a3 0=(.agg (msgC x).toArray:Value):=hb.get 0
 clear hb
 have hE:=Ext.refl w
 refine sk fun K1 au=>(wt (oS rfl (Yk.box (cs:=(msgC x:List Value).toArray) n fun i j bs av a4 bt=> ?_)))
 have hE:=hE.trans a4
 have f:=av;clear av
 have bu:i<j.heap.size:=by omega
 refine oA rfl (oZ ?_)
 rcases hK:AT x.1.kind with _ | p
 ·refine tN (au _ _ (sk fun bv a5=> ?_))
  have bw:=hE.size
  have bx:i<j.heap.size:=(bl f)
  refine Du 0 7 8 9 92 (partsC (⟨false,false,false,false,false,false,false,false⟩:Ag)).toArray (partsC Bl).toArray [fun x w' =>∃b,x = .map (some b)∧MapF B8 AA (fun _:UInt8=>True) w' b AT,Is (PQ i 0),Is (B8 (x.1.kind)),Is (.tuple #[.agg (partsC Bl).toArray, .bool (false)]),Is (.tuple #[.agg (partsC Bl).toArray, .bool (false)]),Is (.agg (partsC Bl).toArray),Is (.bool (false)),RowK j 92 8,(fun _ _=>True)] (by kernel_rfl) [6,7,8,9,5,10,11,3,4] (by kernel_rfl) (by kernel_rfl) (by kernel_rfl) (by kernel_rfl) rfl rfl (by kernel_rfl) rfl rfl rfl rfl rfl rfl rfl ⟨(fun _ _ _ ⟨b,h1,h2⟩ k=>⟨b,h1,MapF.stabK h2 k⟩),Stab.is _,Stab.is _,Stab.is _,Stab.is _,Stab.is _,Stab.is _,RowK.stab _ _ _,Stab.any,trivial⟩ rfl ?a6 ?hQ1001
  case a6=>
   refine⟨?_,?_,?_,?_,?_,?_,?_,?_,?_,?_,trivial⟩
   ·refine Av (Aa rfl fun σ w1 hC h=> ?_)
    have hC:Ext j w1:=hC
    refine Yk.callA0 JM ((Ca _).mono ?_)
    rintro e o ⟨b,rfl,hmk,hx,hom⟩
    exact⟨_,rfl,⟨hx,hom⟩,⟨b,rfl,hmk⟩⟩
   ·refine Av (Aa rfl fun σ w1 hC h=> ?_)
    have hC:Ext j w1:=hC
    have v:σ 1=PQ i 0:=(Ad (h 1 (by decide))).trans rfl
    exact Yk.fieldAt HW v ⟨rfl,rfl⟩
   ·refine Av (Aa rfl fun σ w1 hC h=> ?_)
    have hC:Ext j w1:=hC
    have y:=Ad (h 7 (by decide))
    exact Yk.cell1 u5 rfl y (Ac (eb hC f) (show(msgC x)[0]? =some (B8 (x.1.kind):Value)from BS x)) ⟨rfl,rfl⟩
   ·refine Av (Aa rfl fun σ w1 hC h=> ?_)
    have hC:Ext j w1:=hC
    have e6:(fun x w' =>∃b,x = .map (some b)∧MapF B8 AA (fun _:UInt8=>True) w' b AT) (σ 6) w1:=h 6 (by decide)
    have e8:=Ad (h 8 (by decide))
    obtain⟨b6,k6,m6⟩:=(show ∃b,σ 6 = .map (some b)∧MapF B8 AA (fun _:UInt8=>True) w1 b AT from e6)
    exact Yk.lookOkN (ek:=B8) (ev:=AA) (D:=fun _:UInt8=>True) Cn Co (fun _ _=>C2) CG (z:=AA Bl) B9 k6 e8 m6 trivial hK ⟨rfl,rfl⟩
   ·refine Av (Aa rfl fun σ w1 hC h=> ?_)
    have hC:Ext j w1:=hC
    have e9:=Ad (h 9 (by decide))
    exact Yk.move e9 ⟨rfl,rfl⟩
   ·refine Av (Aa rfl fun σ w1 hC h=> ?_)
    have hC:Ext j w1:=hC
    have r:=Ad (h 5 (by decide))
    exact Yk.extract (vs:= [.agg (partsC Bl).toArray, .bool (false)]) r (show _=some (.agg (partsC Bl).toArray:Value)from rfl) ⟨rfl,rfl⟩
   ·refine Av (Aa rfl fun σ w1 hC h=> ?_)
    have hC:Ext j w1:=hC
    have r:=Ad (h 5 (by decide))
    exact Yk.extract (vs:= [.agg (partsC Bl).toArray, .bool (false)]) r (show _=some (.bool (false):Value)from rfl) ⟨rfl,rfl⟩
   ·refine Av (Aa rfl fun σ w1 hC h=> ?_)
    have hC:DT j w1:=hC
    exact Yk.allocX JN ⟨⟨hC,rfl⟩,w1.heap.size,_,rfl,hC.1.size,heap_alloc_new _ _,rfl⟩
   ·refine Av (Aa rfl fun σ w1 hC h=> ?_)
    have hC:Dy j w1:=hC
    have e3:(RowK j 92 8) (σ 3) w1:=h 3 (by decide)
    have ae:=Ad (h 10 (by decide))
    obtain⟨g,cs,h1,h2,h3,h4⟩:=e3
    exact Yk.storeAll h1 ae (show _=some (Obj.cells cs.toList.toArray 92 (0,0)) by simpa using h3) (by rw[show cs.toList.toArray=cs by simp,h4];rfl) (show(Tryd.prog.info? 92).map (·.size)=some 8 from Gj) (B7) fun o a b c=>⟨⟨hC,g,cs,h2,h3,(by rw[h4];rfl),a,b,c⟩,trivial⟩
   ·exact trivial
  intro aw a7 ax hun18 he hf
  obtain⟨-,-,-,-,-,-,k11,k3,-⟩:=hf
  obtain⟨n,m,s,-⟩:=he.hold [(0,_),(1,PQ i 0),(2, .bool (false))] ⟨n,rfl,rfl,trivial⟩ rfl
  clear he
  have hE:=hE.trans ax
  have f:=eb ax f
  obtain⟨ay,cs_,q,a8,az,bz⟩:=(show(RowK j 92 8) (aw 3) a7 from k3)
  obtain rfl:=hun18 ay cs_ _ _ a8 az
  clear k3
  have b0:=bl az
  have t:aw 11 = .bool (false):=k11
  clear k11
  refine oA rfl (oZ (tN (a5 _ _ (sk fun b1 b2=>(sk fun b3 a9=>(wt (oM rfl (oS rfl (Yk.notB t (oM rfl (oN (d:=14) rfl rfl rfl (vr (.bool (true)) rfl) rfl (oN (d:=14) rfl rfl rfl (vr (.bool (true)) rfl) rfl (oN (d:=14) rfl rfl rfl (vr (.bool (true)) rfl) rfl (oN (d:=14) rfl rfl rfl (vr (.bool (true)) rfl) rfl (oS rfl (Yk.pickT (vr (.bool (true)) rfl) (vr (.bool (true)) rfl) (oM rfl (oN (d:=20) rfl rfl rfl (vr (.bool (true)) rfl) rfl ?_))))))))))))))))))
  refine oN (d:=20) rfl rfl rfl (vr (.bool (true)) rfl) rfl (oN (d:=20) rfl rfl rfl (vr (.bool (true)) rfl) rfl (oN (d:=20) rfl rfl rfl (vr (.bool (true)) rfl) rfl (oS rfl (Yk.pickT (vr (.bool (true)) rfl) (vr (.bool (true)) rfl) (oM rfl (oN (d:=26) rfl rfl rfl (vr (.bool (true)) rfl) rfl (oN (d:=26) rfl rfl rfl (vr (.bool (true)) rfl) rfl (oN (d:=26) rfl rfl rfl (vr (.bool (true)) rfl) rfl (oN (d:=26) rfl rfl rfl (vr (.bool (true)) rfl) rfl (oS rfl (Yk.pickT (vr (.bool (true)) rfl) (vr (.bool (true)) rfl) (oM rfl (oN (d:=32) rfl rfl rfl (vr (.bool (true)) rfl) rfl (oN (d:=32) rfl rfl rfl (vr (.bool (true)) rfl) rfl (oN (d:=32) rfl rfl rfl (vr (.bool (true)) rfl) rfl (oN (d:=32) rfl rfl rfl (vr (.bool (true)) rfl) rfl (oS rfl (Yk.pickT (vr (.bool (true)) rfl) (vr (.bool (true)) rfl) ?_))))))))))))))))))
  refine oM rfl (oN (d:=38) rfl rfl rfl (vr (.bool (true)) rfl) rfl (oN (d:=38) rfl rfl rfl (vr (.bool (true)) rfl) rfl (oN (d:=38) rfl rfl rfl (vr (.bool (true)) rfl) rfl (oN (d:=38) rfl rfl rfl (vr (.bool (true)) rfl) rfl (oS rfl (Yk.pickT (vr (.bool (true)) rfl) (vr (.bool (true)) rfl) (Be [(0, .agg (msgC x).toArray),(1,PQ i 0),(2, .bool (false)),(3,PQ ay 0),(4, .bool (false)),(43, .bool (true))] ⟨n,m,s,q,t,rfl,trivial⟩ fun b4 ⟨n,m,s,q,T4,ag,_⟩=>(tN (a9 _ _ (AE ag (sk fun b5 ba=>(wt (oA rfl (oZ (tN (ba _ _ (Ap (As (Ao (fn:=Tryd.f19) _ rfl [.bool (false)] (.bool (false)) rfl ⟨rfl,trivial⟩ ?_)))))))))))))))))))
  exact⟨by rw[Ko hK],hE⟩
 refine tN (au _ _ (sk fun b7 bb=> ?_))
 have b8:=hE.size
 have b9:i<j.heap.size:=(bl f)
 refine Du 0 7 8 9 92 (partsC (⟨false,false,false,false,false,false,false,false⟩:Ag)).toArray (partsC p).toArray [fun x w' =>∃b,x = .map (some b)∧MapF B8 AA (fun _:UInt8=>True) w' b AT,Is (PQ i 0),Is (B8 (x.1.kind)),Is (.tuple #[.agg (partsC p).toArray, .bool (true)]),Is (.tuple #[.agg (partsC p).toArray, .bool (true)]),Is (.agg (partsC p).toArray),Is (.bool (true)),RowK j 92 8,(fun _ _=>True)] (by kernel_rfl) [6,7,8,9,5,10,11,3,4] (by kernel_rfl) (by kernel_rfl) (by kernel_rfl) (by kernel_rfl) rfl rfl (by kernel_rfl) rfl rfl rfl rfl rfl rfl rfl ⟨(fun _ _ _ ⟨b,h1,h2⟩ k=>⟨b,h1,MapF.stabK h2 k⟩),Stab.is _,Stab.is _,Stab.is _,Stab.is _,Stab.is _,Stab.is _,RowK.stab _ _ _,Stab.any,trivial⟩ rfl ?bc ?hQ2001
 case bc=>
  refine⟨?_,?_,?_,?_,?_,?_,?_,?_,?_,?_,trivial⟩
  ·refine Av (Aa rfl fun σ w1 hC h=> ?_)
   have hC:Ext j w1:=hC
   refine Yk.callA0 JM ((Ca _).mono ?_)
   rintro e o ⟨b,rfl,hmk,hx,hom⟩
   exact⟨_,rfl,⟨hx,hom⟩,⟨b,rfl,hmk⟩⟩
  ·refine Av (Aa rfl fun σ w1 hC h=> ?_)
   have hC:Ext j w1:=hC
   have v:σ 1=PQ i 0:=(Ad (h 1 (by decide))).trans rfl
   exact Yk.fieldAt HW v ⟨rfl,rfl⟩
  ·refine Av (Aa rfl fun σ w1 hC h=> ?_)
   have hC:Ext j w1:=hC
   have y:=Ad (h 7 (by decide))
   exact Yk.cell1 u5 rfl y (Ac (eb hC f) (show(msgC x)[0]? =some (B8 (x.1.kind):Value)from BS x)) ⟨rfl,rfl⟩
  ·refine Av (Aa rfl fun σ w1 hC h=> ?_)
   have hC:Ext j w1:=hC
   have e6:(fun x w' =>∃b,x = .map (some b)∧MapF B8 AA (fun _:UInt8=>True) w' b AT) (σ 6) w1:=h 6 (by decide)
   have e8:=Ad (h 8 (by decide))
   obtain⟨b6,k6,m6⟩:=(show ∃b,σ 6 = .map (some b)∧MapF B8 AA (fun _:UInt8=>True) w1 b AT from e6)
   exact Yk.lookOkS (ek:=B8) (ev:=AA) (D:=fun _:UInt8=>True) Cn Co (fun _ _=>C2) CG (z:=AA Bl) B9 k6 e8 m6 trivial hK ⟨rfl,rfl⟩
  ·refine Av (Aa rfl fun σ w1 hC h=> ?_)
   have hC:Ext j w1:=hC
   have e9:=Ad (h 9 (by decide))
   exact Yk.move e9 ⟨rfl,rfl⟩
  ·refine Av (Aa rfl fun σ w1 hC h=> ?_)
   have hC:Ext j w1:=hC
   have r:=Ad (h 5 (by decide))
   exact Yk.extract (vs:= [.agg (partsC p).toArray, .bool (true)]) r (show _=some (.agg (partsC p).toArray:Value)from rfl) ⟨rfl,rfl⟩
  ·refine Av (Aa rfl fun σ w1 hC h=> ?_)
   have hC:Ext j w1:=hC
   have r:=Ad (h 5 (by decide))
   exact Yk.extract (vs:= [.agg (partsC p).toArray, .bool (true)]) r (show _=some (.bool (true):Value)from rfl) ⟨rfl,rfl⟩
  ·refine Av (Aa rfl fun σ w1 hC h=> ?_)
   have hC:DT j w1:=hC
   exact Yk.allocX JN ⟨⟨hC,rfl⟩,w1.heap.size,_,rfl,hC.1.size,heap_alloc_new _ _,rfl⟩
  ·refine Av (Aa rfl fun σ w1 hC h=> ?_)
   have hC:Dy j w1:=hC
   have e3:(RowK j 92 8) (σ 3) w1:=h 3 (by decide)
   have ae:=Ad (h 10 (by decide))
   obtain⟨g,cs,h1,h2,h3,h4⟩:=e3
   exact Yk.storeAll h1 ae (show _=some (Obj.cells cs.toList.toArray 92 (0,0)) by simpa using h3) (by rw[show cs.toList.toArray=cs by simp,h4];rfl) (show(Tryd.prog.info? 92).map (·.size)=some 8 from Gj) (B7) fun o a b c=>⟨⟨hC,g,cs,h2,h3,(by rw[h4];rfl),a,b,c⟩,trivial⟩
  ·exact trivial
 intro a0 bd a1 hun37 he hf
 obtain⟨-,-,-,-,-,-,k11,k3,-⟩:=hf
 obtain⟨n,m,s,-⟩:=he.hold [(0,_),(1,PQ i 0),(2, .bool (false))] ⟨n,rfl,rfl,trivial⟩ rfl
 clear he
 have hE:=hE.trans a1
 have f:=eb a1 f
 obtain⟨u,cs_,q,be,l,ca⟩:=(show(RowK j 92 8) (a0 3) bd from k3)
 obtain rfl:=hun37 u cs_ _ _ be l
 clear k3
 have cb:=bl l
 have t:a0 11 = .bool (true):=k11
 clear k11
 refine oA rfl (oZ (tN (bb _ _ (sk fun cc bf=>(sk fun cd bg=>(wt (oM rfl (oS rfl (Yk.notB t (oM rfl (oY (d:=14) rfl rfl (vr (.bool (false)) rfl) (Yk.fieldAt LM m (oY (d:=14) rfl rfl (vr (.bool (false)) rfl) (Yk.cell1 Fs rfl (vr (PQ i 1) rfl) (Ac f (show(msgC x)[1]? =some (.int .i64 (x.1.session:Int):Value)from Db x)) (oY (d:=14) rfl rfl (vr (.bool (false)) rfl) (Yk.callA2 FJ (vr (.int .i64 (x.1.session:Int)) rfl) (vr (NI 2147483647) rfl) ((E3 _ x.1.session ((2147483647:Nat):Int)).mono ?_)))))))))))))))))
 rintro e ce ⟨rfl,ah⟩
 refine⟨_,rfl,?_⟩
 have hE:=hE.trans ah
 have f:=eb ah f
 have l:=eb ah l
 refine oY (d:=14) rfl rfl (vr (.bool (false)) rfl) (Yk.notB (vr (.bool (boundB x.1.session ((2147483647:Nat):Int))) rfl) (oS rfl (Yk.pickF (vr (.bool (false)) rfl) (vr (.bool (!(boundB x.1.session ((2147483647:Nat):Int)))) rfl) (oM rfl (Ab (.agg (msgC x).toArray) rfl rfl (gF (vr (.bool (!(boundB x.1.session ((2147483647:Nat):Int)))) rfl)) (fun hG48=>Yk.loadAll m f (N6).choose_spec rfl (AF (Az x) MQ) ⟨rfl,rfl⟩) (Ab (.agg (partsC p).toArray) rfl rfl (gF (vr (.bool (!(boundB x.1.session ((2147483647:Nat):Int)))) rfl)) (fun hG49=>Yk.loadAll q l (N7).choose_spec rfl (AF (Bq p) Gj) ⟨rfl,rfl⟩) (AP (.bool (CA x.1 p)) rfl rfl (gF (vr (.bool (!(boundB x.1.session ((2147483647:Nat):Int)))) rfl)) (fun hG50=>Yk.callA2 N8 (mayT (vr (cond (!(!(boundB x.1.session ((2147483647:Nat):Int)))) (.agg (msgC x).toArray) undef) rfl) hG50) (mayT (vr (cond (!(!(boundB x.1.session ((2147483647:Nat):Int)))) (.agg (partsC p).toArray) undef) rfl) hG50) ((LN _ x (MsgAt.mk (hmr.keep hE) (hmw.keep hE) (hmh.keep hE) (hmb.keep hE)) p).mono (by rintro e o ⟨rfl,hx⟩;exact⟨_,rfl,rfl,hx⟩))) fun cf ai=> ?_)))))))
 have hE:=hE.trans ai
 have f:=eb ai f
 have l:=eb ai l
 refine Ab (.bool (!(CA x.1 p))) rfl rfl (gF (vr (.bool (!(boundB x.1.session ((2147483647:Nat):Int)))) rfl)) (fun hG54=>Yk.notB (mayT (vr (cond (!(!(boundB x.1.session ((2147483647:Nat):Int)))) (.bool (CA x.1 p)) undef) rfl) hG54) ⟨rfl,rfl⟩) (oS rfl (Yk.pickOrN (vr (.bool (!(boundB x.1.session ((2147483647:Nat):Int)))) rfl) (vr (.bool (true)) rfl) (fun hA=>(mayT (vr (cond (!(!(boundB x.1.session ((2147483647:Nat):Int)))) (.bool (!(CA x.1 p))) undef) rfl) (not_i hA))) fun bb55 hbb56=>(oM rfl (Ab (PQ i 2) rfl rfl (gF (vr (.bool (bb55)) rfl)) (fun hG57=>Yk.fieldAt HK m ⟨rfl,rfl⟩) (Ab (x.2.refs) rfl rfl (gF (vr (.bool (bb55)) rfl)) (fun hG58=>Yk.cell1 DS rfl (mayT (vr (cond (!bb55) (PQ i 2) undef) rfl) hG58) (Ac f (show(msgC x)[2]? =some (x.2.refs:Value)from Cp x)) ⟨rfl,rfl⟩) (AP (.bool (Cm x.1.refs)) rfl rfl (gF (vr (.bool (bb55)) rfl)) (fun hG59=>Yk.callA1 N9 (mayT (vr (cond (!bb55) (x.2.refs) undef) rfl) hG59) ((MJ _ _ x.1.refs (hmr.keep hE) (by have:=hL.refs;omega) hL.names).mono (by rintro e o ⟨rfl,hx⟩;exact⟨_,rfl,rfl,hx⟩))) fun cg aj=> ?_))))))
 have hE:=hE.trans aj
 have f:=eb aj f
 have l:=eb aj l
 refine Ab (.bool (!(Cm x.1.refs))) rfl rfl (gF (vr (.bool (bb55)) rfl)) (fun hG63=>Yk.notB (mayT (vr (cond (!bb55) (.bool (Cm x.1.refs)) undef) rfl) hG63) ⟨rfl,rfl⟩) (oS rfl (Yk.pickOrN (vr (.bool (bb55)) rfl) (vr (.bool (true)) rfl) (fun hA=>(mayT (vr (cond (!bb55) (.bool (!(Cm x.1.refs))) undef) rfl) (not_i hA))) fun bb64 hbb65=>(oM rfl (Ab (PQ i 3) rfl rfl (gF (vr (.bool (bb64)) rfl)) (fun hG66=>Yk.fieldAt HM m ⟨rfl,rfl⟩) (Ab (x.2.wants) rfl rfl (gF (vr (.bool (bb64)) rfl)) (fun hG67=>Yk.cell1 BT rfl (mayT (vr (cond (!bb64) (PQ i 3) undef) rfl) hG67) (Ac f (show(msgC x)[3]? =some (x.2.wants:Value)from Fj x)) ⟨rfl,rfl⟩) (AP (.bool (CF x.1.wants)) rfl rfl (gF (vr (.bool (bb64)) rfl)) (fun hG68=>Yk.callA1 JO (mayT (vr (cond (!bb64) (x.2.wants) undef) rfl) hG68) ((wset_any _ _ x.1.wants (hmw.keep hE) (by have:=hL.wants;omega)).mono (by rintro e o ⟨rfl,hx⟩;exact⟨_,rfl,rfl,hx⟩))) fun ch ak=> ?_))))))
 have hE:=hE.trans ak
 have f:=eb ak f
 have l:=eb ak l
 refine Ab (.bool (!(CF x.1.wants))) rfl rfl (gF (vr (.bool (bb64)) rfl)) (fun hG72=>Yk.notB (mayT (vr (cond (!bb64) (.bool (CF x.1.wants)) undef) rfl) hG72) ⟨rfl,rfl⟩) (oS rfl (Yk.pickOrN (vr (.bool (bb64)) rfl) (vr (.bool (true)) rfl) (fun hA=>(mayT (vr (cond (!bb64) (.bool (!(CF x.1.wants))) undef) rfl) (not_i hA))) fun bb73 hbb74=>(oM rfl (Ab (PQ i 4) rfl rfl (gF (vr (.bool (bb73)) rfl)) (fun hG75=>Yk.fieldAt HN m ⟨rfl,rfl⟩) (Ab (x.2.haves) rfl rfl (gF (vr (.bool (bb73)) rfl)) (fun hG76=>Yk.cell1 BT rfl (mayT (vr (cond (!bb73) (PQ i 4) undef) rfl) hG76) (Ac f (show(msgC x)[4]? =some (x.2.haves:Value)from Fk x)) ⟨rfl,rfl⟩) (AP (.bool (CF x.1.haves)) rfl rfl (gF (vr (.bool (bb73)) rfl)) (fun hG77=>Yk.callA1 JO (mayT (vr (cond (!bb73) (x.2.haves) undef) rfl) hG77) ((wset_any _ _ x.1.haves (hmh.keep hE) (by have:=hL.haves;omega)).mono (by rintro e o ⟨rfl,hx⟩;exact⟨_,rfl,rfl,hx⟩))) fun ci al=> ?_))))))
 have hE:=hE.trans al
 have f:=eb al f
 have l:=eb al l
 refine Ab (.bool (!(CF x.1.haves))) rfl rfl (gF (vr (.bool (bb73)) rfl)) (fun hG81=>Yk.notB (mayT (vr (cond (!bb73) (.bool (CF x.1.haves)) undef) rfl) hG81) ⟨rfl,rfl⟩) (oS rfl (Yk.pickOrN (vr (.bool (bb73)) rfl) (vr (.bool (true)) rfl) (fun hA=>(mayT (vr (cond (!bb73) (.bool (!(CF x.1.haves))) undef) rfl) (not_i hA))) fun bb82 hbb83=>(Be [(0, .agg (msgC x).toArray),(1,PQ i 0),(2, .bool (false)),(3,PQ u 0),(4, .bool (true)),(43, .bool (bb82))] ⟨n,m,s,q,t,rfl,trivial⟩ fun cj ⟨n,m,s,q,T4,ag,_⟩=>(tN (bg _ _ ?_)))))
 refine A0 (bb82) ag (fun am=> ?_) (fun am=> ?_)
 ·subst hbb56 hbb65 hbb74 hbb83
  have h1c:((((!boundB x.1.session 2147483647|| !CA x.1 p)|| !Cm x.1.refs)|| !CF x.1.wants)|| !CF x.1.haves)=true:=am
  refine sk fun ck bh=>(wt (oA rfl (oZ (tN (bh _ _ (Ap (As (Ao (fn:=Tryd.f19) _ rfl [.bool (false)] (.bool (false)) rfl ⟨rfl,trivial⟩ ?_))))))))
  refine⟨?_,hE⟩
  rw[C5 hK];unfold CR;rw[h1c];rfl
 subst hbb56 hbb65 hbb74 hbb83
 have h1c:((((!boundB x.1.session 2147483647|| !CA x.1 p)|| !Cm x.1.refs)|| !CF x.1.wants)|| !CF x.1.haves)=false:=am
 refine Ak (tN (bf _ _ (sk fun cl bi=>(sk fun cm bj=>(wt (oS rfl (Yk.fieldAt HP m (oS rfl (Yk.cell1 Fs rfl (vr (PQ i 5) rfl) (Ac f (show(msgC x)[5]? =some (.int .i64 (x.1.size:Int):Value)from Fl x)) (oS rfl (Yk.callA2 FJ (vr (.int .i64 (x.1.size:Int)) rfl) (vr (NI 1048576) rfl) ((E3 _ x.1.size ((1048576:Nat):Int)).mono ?_))))))))))))
 rintro e cn ⟨rfl,an⟩
 refine⟨_,rfl,?_⟩
 have hE:=hE.trans an
 have f:=eb an f
 have l:=eb an l
 refine oS rfl (Yk.notB (vr (.bool (boundB x.1.size ((1048576:Nat):Int))) rfl) (oM rfl (Ab (PQ i 6) rfl rfl (gF (vr (.bool (!(boundB x.1.size ((1048576:Nat):Int)))) rfl)) (fun hG90=>Yk.fieldAt HQ m ⟨rfl,rfl⟩) (Ab (.int .i64 (x.1.at_:Int)) rfl rfl (gF (vr (.bool (!(boundB x.1.size ((1048576:Nat):Int)))) rfl)) (fun hG91=>Yk.cell1 Fs rfl (mayT (vr (cond (!(!(boundB x.1.size ((1048576:Nat):Int)))) (PQ i 6) undef) rfl) hG91) (Ac f (show(msgC x)[6]? =some (.int .i64 (x.1.at_:Int):Value)from Fm x)) ⟨rfl,rfl⟩) (AP (.bool (boundB x.1.at_ ((1048576:Nat):Int))) rfl rfl (gF (vr (.bool (!(boundB x.1.size ((1048576:Nat):Int)))) rfl)) (fun hG92=>Yk.callA2 FJ (mayT (vr (cond (!(!(boundB x.1.size ((1048576:Nat):Int)))) (.int .i64 (x.1.at_:Int)) undef) rfl) hG92) (vr (NI 1048576) rfl) ((E3 _ x.1.at_ ((1048576:Nat):Int)).mono (by rintro e o ⟨rfl,hx⟩;exact⟨_,rfl,rfl,hx⟩))) fun co ao=> ?_)))))
 have hE:=hE.trans ao
 have f:=eb ao f
 have l:=eb ao l
 refine Ab (.bool (!(boundB x.1.at_ ((1048576:Nat):Int)))) rfl rfl (gF (vr (.bool (!(boundB x.1.size ((1048576:Nat):Int)))) rfl)) (fun hG96=>Yk.notB (mayT (vr (cond (!(!(boundB x.1.size ((1048576:Nat):Int)))) (.bool (boundB x.1.at_ ((1048576:Nat):Int))) undef) rfl) hG96) ⟨rfl,rfl⟩) (oS rfl (Yk.pickOrN (vr (.bool (!(boundB x.1.size ((1048576:Nat):Int)))) rfl) (vr (.bool (true)) rfl) (fun hA=>(mayT (vr (cond (!(!(boundB x.1.size ((1048576:Nat):Int)))) (.bool (!(boundB x.1.at_ ((1048576:Nat):Int)))) undef) rfl) (not_i hA))) fun bb97 hbb98=>(oM rfl (Ab (PQ i 106) rfl rfl (gF (vr (.bool (bb97)) rfl)) (fun hG99=>Yk.fieldAt GZ m ⟨rfl,rfl⟩) (Ab (.int .i64 (x.1.code:Int)) rfl rfl (gF (vr (.bool (bb97)) rfl)) (fun hG100=>Yk.cell1 JL rfl (mayT (vr (cond (!bb97) (PQ i 106) undef) rfl) hG100) (Ac f (show(msgC x)[106]? =some (.int .i64 (x.1.code:Int):Value)from Fq x)) ⟨rfl,rfl⟩) (AP (.bool (boundB x.1.code ((22:Nat):Int))) rfl rfl (gF (vr (.bool (bb97)) rfl)) (fun hG101=>Yk.callA2 FJ (mayT (vr (cond (!bb97) (.int .i64 (x.1.code:Int)) undef) rfl) hG101) (vr (NI 22) rfl) ((E3 _ x.1.code ((22:Nat):Int)).mono (by rintro e o ⟨rfl,hx⟩;exact⟨_,rfl,rfl,hx⟩))) fun cp ap=> ?_))))))
 have hE:=hE.trans ap
 have f:=eb ap f
 have l:=eb ap l
 refine Ab (.bool (!(boundB x.1.code ((22:Nat):Int)))) rfl rfl (gF (vr (.bool (bb97)) rfl)) (fun hG105=>Yk.notB (mayT (vr (cond (!bb97) (.bool (boundB x.1.code ((22:Nat):Int))) undef) rfl) hG105) ⟨rfl,rfl⟩) (oS rfl (Yk.pickOrN (vr (.bool (bb97)) rfl) (vr (.bool (true)) rfl) (fun hA=>(mayT (vr (cond (!bb97) (.bool (!(boundB x.1.code ((22:Nat):Int)))) undef) rfl) (not_i hA))) fun bb106 hbb107=>(oZ (tN (bj _ _ ?_)))))
 refine A0 (bb106) (vr (.bool (bb106)) rfl) (fun aq=> ?_) (fun aq=> ?_)
 ·subst hbb98 hbb107
  have h2c:((!boundB x.1.size 1048576|| !boundB x.1.at_ 1048576)|| !boundB x.1.code 22)=true:=aq
  refine sk fun cq bk=>(wt (oA rfl (oZ (tN (bk _ _ (Ap (As (Ao (fn:=Tryd.f19) _ rfl [.bool (false)] (.bool (false)) rfl ⟨rfl,trivial⟩ ?_))))))))
  refine⟨?_,hE⟩
  rw[C5 hK];unfold CR;rw[h1c,h2c];rfl
 subst hbb98 hbb107
 have h2c:((!boundB x.1.size 1048576|| !boundB x.1.at_ 1048576)|| !boundB x.1.code 22)=false:=aq
 refine Ak (tN (bi _ _ (sk fun cr bm=>(sk fun ct bn=>(wt (oS rfl (Yk.fieldAt HT q (oS rfl (Yk.cell1 CS rfl (vr (PQ u 5) rfl) (Ac l (show(partsC p)[5]? =some (.bool (p.bytes):Value)from Bv p)) (oM rfl (Ab (PQ i 39) rfl rfl (gT (vr (.bool (p.bytes)) rfl)) (fun hG111=>Yk.fieldAt FI m ⟨rfl,rfl⟩) (Ab (x.2.bytes) rfl rfl (gT (vr (.bool (p.bytes)) rfl)) (fun hG112=>Yk.cell1 Ff rfl (mayT (vr (cond (p.bytes) (PQ i 39) undef) rfl) hG112) (Ac f (show(msgC x)[39]? =some (x.2.bytes:Value)from Fo x)) ⟨rfl,rfl⟩) (Ab (NI ((x.1.bytes:List UInt8).length)) rfl rfl (gT (vr (.bool (p.bytes)) rfl)) (fun hG113=>Yk.lenRB Ff (RB.of (hmb.keep hE) (mayT (vr (cond (p.bytes) (x.2.bytes) undef) rfl) hG113)) ⟨rfl,rfl⟩) (Ab (.bool (decide (((x.1.bytes:List UInt8).length)<(1)))) rfl rfl (gT (vr (.bool (p.bytes)) rfl)) (fun hG114=>Yk.eqI (a:=(((x.1.bytes:List UInt8).length:Nat):Int)) (b:=((1:Nat):Int)) (mayT (vr (cond (p.bytes) (NI ((x.1.bytes:List UInt8).length)) undef) rfl) hG114) (vr (NI 1) rfl) (AZ _ .i64 ((x.1.bytes:List UInt8).length) (1)) ⟨rfl,rfl⟩) (Ab (.bool (decide (((x.1.bytes:List UInt8).length)<(1)))) rfl rfl (gT (vr (.bool (p.bytes)) rfl)) (fun hG115=>Yk.move (mayT (vr (cond (p.bytes) (.bool (decide (((x.1.bytes:List UInt8).length)<(1)))) undef) rfl) hG115) ⟨rfl,rfl⟩) (Ab (PQ i 39) rfl rfl (Bk (vr (cond (p.bytes) (.bool (decide (((x.1.bytes:List UInt8).length)<(1)))) undef) rfl)) (fun hG116=>Yk.fieldAt FI m ⟨rfl,rfl⟩) (Ab (x.2.bytes) rfl rfl (Bk (vr (cond (p.bytes) (.bool (decide (((x.1.bytes:List UInt8).length)<(1)))) undef) rfl)) (fun hG117=>Yk.cell1 Ff rfl (mayT (vr (cond (p.bytes&& !(decide (((x.1.bytes:List UInt8).length)<(1)))) (PQ i 39) undef) rfl) hG117) (Ac f (show(msgC x)[39]? =some (x.2.bytes:Value)from Fo x)) ⟨rfl,rfl⟩) (Ab (NI ((x.1.bytes:List UInt8).length)) rfl rfl (Bk (vr (cond (p.bytes) (.bool (decide (((x.1.bytes:List UInt8).length)<(1)))) undef) rfl)) (fun hG118=>Yk.lenRB Ff (RB.of (hmb.keep hE) (mayT (vr (cond (p.bytes&& !(decide (((x.1.bytes:List UInt8).length)<(1)))) (x.2.bytes) undef) rfl) hG118)) ⟨rfl,rfl⟩) ?_))))))))))))))))))
 refine Ab (.bool (decide ((256)<((x.1.bytes:List UInt8).length)))) rfl rfl (Bk (vr (cond (p.bytes) (.bool (decide (((x.1.bytes:List UInt8).length)<(1)))) undef) rfl)) (fun hG119=>Yk.eqI (a:=(((x.1.bytes:List UInt8).length:Nat):Int)) (b:=((256:Nat):Int)) (mayT (vr (cond (p.bytes&& !(decide (((x.1.bytes:List UInt8).length)<(1)))) (NI ((x.1.bytes:List UInt8).length)) undef) rfl) hG119) (vr (NI 256) rfl) (Ce _ .i64 ((x.1.bytes:List UInt8).length) (256)) ⟨rfl,rfl⟩) (A7 ((decide (((x.1.bytes:List UInt8).length)<(1)))||(decide ((256)<((x.1.bytes:List UInt8).length)))) rfl rfl (gT (vr (.bool (p.bytes)) rfl)) (fun hG120=>Yk.pickOr (mayT (vr (cond (p.bytes) (.bool (decide (((x.1.bytes:List UInt8).length)<(1)))) undef) rfl) hG120) (vr (.bool (true)) rfl) (fun hA=>(mayT (vr (cond (p.bytes&& !(decide (((x.1.bytes:List UInt8).length)<(1)))) (.bool (decide ((256)<((x.1.bytes:List UInt8).length)))) undef) rfl) (BF hG120 (not_i hA)))) ⟨rfl,rfl⟩) fun bb121 hbb122=>(oS rfl (Yk.pickAndN (vr (.bool (p.bytes)) rfl) (fun hA=>(mayT (vr (cond (p.bytes) (.bool (bb121)) undef) rfl) hA)) (vr (.bool (false)) rfl) fun bb123 hbb124=>(oZ (tN (bn _ _ ?_))))))
 refine A0 (bb123) (vr (.bool (bb123)) rfl) (fun ar=> ?_) (fun ar=> ?_)
 ·subst hbb122 hbb124
  have h3c:(p.bytes&&(decide (x.1.bytes.length<1)||decide (256<x.1.bytes.length)))=true:=ar
  refine sk fun cu bo=>(wt (oA rfl (oZ (tN (bo _ _ (Ap (As (Ao (fn:=Tryd.f19) _ rfl [.bool (false)] (.bool (false)) rfl ⟨rfl,trivial⟩ ?_))))))))
  refine⟨?_,hE⟩
  rw[C5 hK];unfold CR;rw[h1c,h2c,h3c];rfl
 subst hbb122 hbb124
 have h3c:(p.bytes&&(decide (x.1.bytes.length<1)||decide (256<x.1.bytes.length)))=false:=ar
 refine Ak (tN (bm _ _ (sk fun cv bp=>(wt (oS rfl (Yk.fieldAt HU q (oS rfl (Yk.cell1 CS rfl (vr (PQ u 6) rfl) (Ac l (show(partsC p)[6]? =some (.bool (p.push):Value)from Bw p)) (oS rfl (Yk.notB (vr (.bool (p.push)) rfl) (oM rfl (Ab (PQ i 40) rfl rfl (gF (vr (.bool (!(p.push))) rfl)) (fun hG127=>Yk.fieldAt HV m ⟨rfl,rfl⟩) (Ab (St (x.1.name)) rfl rfl (gF (vr (.bool (!(p.push))) rfl)) (fun hG128=>Yk.cell1 Dx rfl (mayT (vr (cond (!(!(p.push))) (PQ i 40) undef) rfl) hG128) (Ac f (show(msgC x)[40]? =some (St (x.1.name):Value)from Ga x)) ⟨rfl,rfl⟩) (AP (.bool (nameB x.1.name)) rfl rfl (gF (vr (.bool (!(p.push))) rfl)) (fun hG129=>Yk.callA1 N4 (mayT (vr (cond (!(!(p.push))) (St (x.1.name)) undef) rfl) hG129) ((FE _ x.1.name (by have:=hL.name;omega)).mono (by rintro e o ⟨rfl,hx⟩;exact⟨_,rfl,rfl,hx⟩))) fun cw a2=> ?_))))))))))))))
 have hE:=hE.trans a2
 have f:=eb a2 f
 refine Ab (.bool (nameB x.1.name)) rfl rfl (gF (vr (.bool (!(p.push))) rfl)) (fun hG133=>Yk.move (mayT (vr (cond (!(!(p.push))) (.bool (nameB x.1.name)) undef) rfl) hG133) ⟨rfl,rfl⟩) (Ab (PQ i 73) rfl rfl (geT (vr (cond (!(!(p.push))) (.bool (nameB x.1.name)) undef) rfl)) (fun hG134=>Yk.fieldAt GY m ⟨rfl,rfl⟩) (Ab (AB x.1.new.1) rfl rfl (geT (vr (cond (!(!(p.push))) (.bool (nameB x.1.name)) undef) rfl)) (fun hG135=>Yk.loadPR (PR.blk f (DQ x) (EB x) (mayT (vr (cond ((!(!(p.push)))&&(nameB x.1.name)) (PQ i 73) undef) rfl) hG135)) OA rfl (AH x.1.new.2) ⟨rfl,rfl⟩) (AP (.bool (zeroB x.1.new)) rfl rfl (geT (vr (cond (!(!(p.push))) (.bool (nameB x.1.name)) undef) rfl)) (fun hG136=>Yk.callA1 Hd (mayT (vr (cond ((!(!(p.push)))&&(nameB x.1.name)) (AB x.1.new.1) undef) rfl) hG136) ((Dc _ x.1.new).mono (by rintro e o ⟨rfl,hx⟩;exact⟨_,rfl,rfl,hx⟩))) fun cx bq=> ?_)))
 have hE:=hE.trans bq
 refine Ab (.bool (!(zeroB x.1.new))) rfl rfl (geT (vr (cond (!(!(p.push))) (.bool (nameB x.1.name)) undef) rfl)) (fun hG140=>Yk.notB (mayT (vr (cond ((!(!(p.push)))&&(nameB x.1.name)) (.bool (zeroB x.1.new)) undef) rfl) hG140) ⟨rfl,rfl⟩) (A7 ((nameB x.1.name)&&(!(zeroB x.1.new))) rfl rfl (gF (vr (.bool (!(p.push))) rfl)) (fun hG141=>Yk.pickAnd (mayT (vr (cond (!(!(p.push))) (.bool (nameB x.1.name)) undef) rfl) hG141) (fun hA=>(mayT (vr (cond ((!(!(p.push)))&&(nameB x.1.name)) (.bool (!(zeroB x.1.new))) undef) rfl) (BF hG141 hA))) (vr (.bool (false)) rfl) ⟨rfl,rfl⟩) fun bb142 hbb143=>(oS rfl (Yk.pickOrN (vr (.bool (!(p.push))) rfl) (vr (.bool (true)) rfl) (fun hA=>(mayT (vr (cond (!(!(p.push))) (.bool (bb142)) undef) rfl) (not_i hA))) fun bb144 hbb145=>(oA rfl (Be [(0, .agg (msgC x).toArray),(1,PQ i 0),(2, .bool (bb144)),(3,PQ u 0),(4, .bool (true))] ⟨n,m,rfl,q,T4,trivial⟩ fun cy ⟨n,m,s,q,T4,_⟩=>(tN (bp _ _ (Ap (Ao (fn:=Tryd.f19) _ rfl [.bool (bb144)] (.bool (bb144)) rfl ⟨s,trivial⟩ ?_)))))))))
 subst hbb143 hbb145
 refine⟨?_,hE⟩
 rw[C5 hK];unfold CR;rw[h1c,h2c,h3c];rfl
open Go.RowKit
def GG(l:List Oper)(i:Nat):Option Tmp:=l[i]?.bind (·.dst)
def Jl(m:List Nat):List Nat→Bool
  | []=>true
  | a :: r=>r.all (fun b=>(m.getD b 0).testBit a)&&Jl m r
def OE:List Tmp→Bool
  | []=>true
  | a :: r=> !r.contains a&&OE r
def Gk(l:List Oper)(fs:List (Nat × Tmp))(cs:List Nat):Bool:=
  (List.range l.length).all (fun i=>(fs.map Prod.fst).contains i||cs.contains i) &&
  ((match cs.getLast? with | some c=>fs.all (fun p=>((AX l []).getD c 0).testBit p.1) | none=>false)&&(OE (fs.map Prod.snd)&&(Jl (AX l []) cs &&
  (fs.all (fun p=>match l[p.1]? with
    | some o=>(o.guard.isNone&& !cs.contains p.1)&&(o.dst==some p.2&&(((List.range (p.1+1)).all (fun j=>match l[j]? with | some q=> !(q.looksAt l.toArray).contains p.2 | none=>true))&&((List.range l.length).all (fun j=>Nat.beq j p.1||GG l j != some p.2)&&cs.all (fun c=>match GG l c with | some d=> !(o.looksAt l.toArray).contains d | none=>true))))
    | none=>false) &&
  (cs.all (fun c=>match l[c]? with | some o=>o.guard.isNone | none=>false) &&
   l.all (fun o=>match o.op with | .select .. =>false | _=>true))))))
def chainF(P:Program)(l:List Oper)(I:World→Prop)(K:At→World→Prop):List Nat→At→World→Prop
  | [],ρ,w=>K ρ w
  | i :: r,ρ,w=>match l[i]? with
    | none=>False
    | some o=>Yk P (fun v w' =>(r= []∨I w')∧chainF P l I K r (Bo ρ o.dst v) w') ((execOp (Ai ρ) o).run P w)
def BX:List (Nat × Tmp × Value)→At→At
  | [],ρ=>ρ
  | p :: r,ρ=>BX r (GP ρ p.2.1 p.2.2)
def CT(P:Program)(l:List Oper)(X:World→World→Prop)(I:World→Prop)(J:List PanicEntry→World→Prop)(K:At→World→Prop):List Nat→At→World→Prop
  | [],ρ,w=>K ρ w
  | i :: r,ρ,w=>match l[i]? with
    | none=>False
    | some o=>∀w0,X w w0→Yp P (fun v w' =>(r= []∨I w')∧CT P l X I J K r (Bo ρ o.dst v) w') J ((execOp (Ai ρ) o).run P w0)
def FloatsX(P:Program)(l:List Oper)(X:World→World→Prop)(I:World→Prop)(ρ:At):List (Nat × Tmp × Value)→Prop
  | []=>True
  | p :: r=>(match l[p.1]? with
    | none=>False
    | some o=>∀w,I w→Yk P (fun x w' =>x=p.2.2∧X w w') ((execOp (Ai ρ) o).run P w))∧FloatsX P l X I ρ r
section
variable {P : Program} {l : List Oper} {X : World → World → Prop} {I : World → Prop} {J : List PanicEntry → World → Prop} {K : At → World → Prop} {ρ : At} {w : World}
theorem BU{i:Nat}{r:List Nat}{o:Oper}(ho:l[i]? =some o) 
    (h:∀w0,X w w0→Yp P (fun v w' =>(r= []∨I w')∧CT P l X I J K r (Bo ρ o.dst v) w') J ((execOp (Ai ρ) o).run P w0)):CT P l X I J K (i :: r) ρ w:=by
  unfold CT
  rw[ho]
  exact h
theorem CD{K' :Value→World→Prop}{r:Result Next}(h:Yk P K' r):Yp P K' J r:=Yp.ofK h
theorem OF{p:Prop}(h:p):p:=h
theorem GH(h:K ρ w):CT P l X I J K [] ρ w:=h
end
def FloatsO(P:Program)(l:List Oper)(I:World→Prop)(ρ:At):List (Nat × Tmp × Value)→Prop
  | []=>True
  | p :: r=>(match l[p.1]? with
    | none=>False
    | some o=>∀w,I w→Yk P (fun x w' =>x=p.2.2∧w' =w) ((execOp (Ai ρ) o).run P w))∧FloatsO P l I ρ r
theorem Bm{P:Program}{l:List Oper}{I:World→Prop}{K:At→World→Prop}{i:Nat}{r:List Nat}{ρ:At}{w:World}{o:Oper}(ho:l[i]? =some o) 
    (h:Yk P (fun v w' =>(r= []∨I w')∧chainF P l I K r (Bo ρ o.dst v) w') ((execOp (Ai ρ) o).run P w)):chainF P l I K (i :: r) ρ w:=by
  unfold chainF
  rw[ho]
  exact h
theorem Ft{P:Program}{l:List Oper}{I:World→Prop}{K:At→World→Prop}{ρ:At}{w:World}(h:K ρ w):chainF P l I K [] ρ w:=h
theorem D7{ρ:At}{d:Tmp}{v:Value}:Bo ρ (some d) v=GP ρ d v:=rfl
theorem HX{ρ:At}{d:Tmp}{v:Value}:GP ρ d v d=v:=by simp[GP]
theorem Gl{ρ:At}{d t:Tmp}{v:Value}(h:t≠d):GP ρ d v t=ρ t:=by
  have:Nat.beq t d=false:=by rw[←Bool.not_eq_true,Nat.beq_eq];exact h
  simp[GP,this]
theorem E8:∀(fs:List (Nat × Tmp × Value)) (ρ:At) (t:Tmp),(∀p∈fs,p.2.1≠t)→BX fs ρ t=ρ t
  | [],_,_,_=>rfl
  | p :: r,ρ,t,h=>by
    show BX r (GP ρ p.2.1 p.2.2) t=_
    rw[E8 r _ t (fun q hq=>h q (by simp[hq])),Gl (fun e=>h p (by simp) e.symm)]
theorem G0:∀(fs:List (Nat × Tmp × Value)) (ρ:At),(fs.map fun p=>p.2.1).Nodup→∀p∈fs,BX fs ρ p.2.1=p.2.2
  | q :: r,ρ,h,p,hp=>by
    have hn:=List.nodup_cons.1 h
    show BX r (GP ρ q.2.1 q.2.2) p.2.1=_
    rcases List.mem_cons.1 hp with rfl | hp
    · rw[E8 r _ _ (fun x hx e=>hn.1 (List.mem_map.2 ⟨x,hx,e⟩)),HX]
    · exact G0 r _ hn.2 p hp
theorem FloatsX.get{P:Program}{l:List Oper}{X:World→World→Prop}{I:World→Prop}{ρ:At}:∀ {fs:List (Nat × Tmp × Value)},FloatsX P l X I ρ fs→∀p∈fs,∀o,l[p.1]? =some o→∀w,I w→Yk P (fun x w' =>x=p.2.2∧X w w') ((execOp (Ai ρ) o).run P w)
  | q :: r,h,p,hp,o,ho,w,hI=>by
    rcases List.mem_cons.1 hp with rfl | hp
    · have h1:=h.1
      rw[ho]at h1
      exact h1 w hI
    · exact FloatsX.get h.2 p hp o ho w hI
theorem FloatsO.toX{P:Program}{l:List Oper}{I:World→Prop}{ρ:At}:∀ {fs:List (Nat × Tmp × Value)},FloatsO P l I ρ fs→FloatsX P l Eq I ρ fs
  | [],_=>trivial
  | q :: r,h=>by
    refine⟨?_,FloatsO.toX h.2⟩
    have h1:=h.1
    cases ho:l[q.1]? with
    | none=>rw[ho]at h1;exact h1
    | some o=>rw[ho]at h1;exact fun w hw=>Yk.mono (h1 w hw) fun _ _ h=>⟨h.1,h.2.symm⟩
theorem chainF.toX{P:Program}{l:List Oper}{I:World→Prop}{J:List PanicEntry→World→Prop}{K:At→World→Prop}:∀ {cs:List Nat} {ρ:At} {w:World},chainF P l I K cs ρ w→CT P l Eq I J K cs ρ w
  | [],_,_,h=>h
  | i :: r,ρ,w,h=>by
    unfold chainF at h
    unfold CT
    cases ho:l[i]? with
    | none=>rw[ho]at h;exact h
    | some o=>rw[ho]at h;exact fun w0 e=>by subst e;exact .ofK (Yk.mono h fun _ _ h=>⟨h.1,chainF.toX h.2⟩)
theorem pairB_get{m:List Nat}:∀ {cs:List Nat},Jl m cs=true→∀a b (u v:List Nat),cs=u++a :: v→b∈v→(m.getD b 0).testBit a=true
  | [],_,a,b,u,v,e,_=>by simp at e
  | x :: r,h,a,b,u,v,e,hb=>by
    unfold Jl at h
    rw[Bool.and_eq_true]at h
    cases u with
    | nil=>
      simp at e
      obtain⟨rfl,rfl⟩:=e
      exact List.all_eq_true.1 h.1 b hb
    | cons y u=>
      simp at e
      exact pairB_get h.2 a b u v e.2 hb
theorem HY{ρ σ:At}{o:Oper}{ops:Array Oper}(hs:∀cs b,o.op ≠ .select cs b)(h:∀t∈o.looksAt ops,σ t=ρ t):execOp (Ai σ) o=execOp (Ai ρ) o:=
  execOp_congr o hs fun x hx=>by
    cases x with
    | tmp t=>exact h t (List.mem_append_left _ (List.mem_filterMap.2 ⟨.tmp t,by simpa using hx,rfl⟩))
    | _=>rfl
section
variable {P : Program} {n : Nat} {ρ : At} {w : World} {Q : B2} {l : List Oper} {fs : List (Nat × Tmp × Value)} {cs : List Nat} {I : World → Prop}
structure PH (l : List Oper) (fs : List (Nat × Tmp × Value)) (cs : List Nat) (X : World → World → Prop) (I : World → Prop) (n : Nat) (ρf ρc : At) (wc : World) (rest : List Nat) (listed : Array Bool) (a : Act) (w : World) : Prop where
  size:listed.size=l.length
  closed:∀i o,l[i]? =some o→On listed i→∀e∈o.after,Region.binds .any e=true→On listed e.on
  tmps:a.tmps.size=n
  defers:a.defers= []
  suffix:∃u,cs=u++rest∧(∀c∈u,On listed c)∧∀c∈rest,¬On listed c
  agree:∀t,(∀p∈fs,¬On listed p.1→p.2.1≠t)→a.tmps.getD t undef=ρc t
  ghost:∀t,(∀c∈cs,GG l c≠some t)→ρc t=ρf t
  inv:rest= []∨I w
  turn:X wc w
  same:rest= []→wc=w
theorem JP{a:Act}{o:Oper}{K:Act→World→Prop}{Q' :Exit→Act→World→Prop}(h:Yk P (fun v w' =>K (a.put o.dst v) w') ((execOp a.eval o).run P w)):o.wp P a w K Q' :=by
  unfold Oper.wp Oper.upon
  revert h
  generalize (execOp a.eval o).run P w=r
  intro h
  match r,h with
  | .ok (.value v) w',h=>exact h
  | .ok .skip w',h=>exact h
  | .ok (.enter f args) w',h=>
    refine Calls.mono h ?_
    rintro e w'' ⟨v,rfl,hk⟩
    exact hk
theorem Je{a:Act}{o:Oper}{K:Act→World→Prop}{Q' :Exit→Act→World→Prop}{J:List PanicEntry→World→Prop}(h:Yp P (fun v w' =>K (a.put o.dst v) w') J ((execOp a.eval o).run P w))(hJ:∀ch w',J ch w' →Q' (.panic ch) a w'):o.wp P a w K Q' :=by
  unfold Oper.wp Oper.upon
  revert h
  generalize (execOp a.eval o).run P w=r
  intro h
  match r,h with
  | .ok (.value v) w',h=>exact h
  | .ok .skip w',h=>exact h
  | .halt (.panic v) w',h=>exact hJ _ _ h
  | .ok (.enter f args) w',h=>
    refine Calls.mono h ?_
    intro e w'' hx
    match e,hx with
    | .returned v,hx=>exact hx
    | .panicked ch,hx=>exact hJ _ _ hx
theorem IH:∀ {l:List Tmp},OE l=true→l.Nodup
  | [],_=>List.nodup_nil
  | a :: r,h=>by
    unfold OE at h
    rw[Bool.and_eq_true]at h
    refine List.nodup_cons.2 ⟨fun hm=> ?_,IH h.2⟩
    have:=h.1
    rw[List.contains_iff_mem.2 hm]at this
    cases this
theorem float_any{X:World→World→Prop}(hX:∀a,X a a)(hXt:∀a b c,X a b→X b c→X a c)(hIX:∀a b,I a→X a b→I b)(hg:Ck l n=true)(hb:Gk l (fs.map fun p=>(p.1,p.2.1)) cs=true)(hf:FloatsX P l X I (BX fs ρ) fs):
    ∀(fuel:Nat) (listed:Array Bool) (a:Act) (w:World) (ρc:At) (wc:World) (rest:List Nat),(listed.toList.filter (!·)).length=fuel→PH l fs cs X I n (BX fs ρ) ρc wc rest listed a w→CT P l X I (fun ch w' =>∀ρ',Q (.panic ch) ρ' w') (fun ρ w=>Q .normal ρ w) rest ρc wc →
      wpAny P .any l.toArray (fun e a' w' =>∃ρ',Fits n ρ' a' ∧Q e ρ' w') fuel listed a w:=by
  have g:=Es hg
  unfold Gk at hb
  simp only[Bool.and_eq_true]at hb
  obtain⟨hcov,hlast,hnd,hpair,hfl,hcg,hsel⟩:=hb
  have hcov' :∀i,i<l.length→(∃p∈fs,p.1=i)∨i∈cs:=fun i hi=>by
    have:=List.all_eq_true.1 hcov i (by simpa using hi)
    rw[Bool.or_eq_true]at this
    rcases this with h | h
    · left
      have:=List.contains_iff_mem.1 h
      simp at this
      obtain⟨d,v,h⟩:=this
      exact⟨_,h,rfl⟩
    · exact .inr (List.contains_iff_mem.1 h)
  have hfl' :∀p∈fs,∃o,l[p.1]? =some o∧o.guard=none∧p.1∉cs∧o.dst=some p.2.1∧(∀j q,j≤p.1→l[j]? =some q→p.2.1∉q.looksAt l.toArray)∧(∀j,j<l.length→j≠p.1→GG l j≠some p.2.1)∧∀c∈cs,∀d,GG l c=some d→d∉o.looksAt l.toArray:=fun p hp=>by
    have:=List.all_eq_true.1 hfl (p.1,p.2.1) (List.mem_map.2 ⟨p,hp,rfl⟩)
    dsimp only at this
    cases ho:l[p.1]? with
    | none=>rw[ho]at this;cases this
    | some o=>
      rw[ho]at this
      simp only[Bool.and_eq_true]at this
      obtain⟨⟨h1,h1c⟩,h2,h5,h3,h4⟩:=this
      refine⟨o,rfl,by simpa using h1,fun hc=> ?_,by simpa using h2,fun j q hj hq hx=> ?_,fun j hj hne e=> ?_,fun c hc d hd hx=> ?_⟩
      · rw[List.contains_iff_mem.2 hc]at h1c;cases h1c
      · have:=List.all_eq_true.1 h5 j (by simp;omega)
        rw[hq]at this
        simp only at this
        rw[List.contains_iff_mem.2 hx]at this
        cases this
      · have:=List.all_eq_true.1 h3 j (by simpa using hj)
        rw[Bool.or_eq_true]at this
        rcases this with h | h
        · exact hne (Nat.eq_of_beq_eq_true h)
        · rw[e]at h;simp at h
      · have:=List.all_eq_true.1 h4 c hc
        rw[hd]at this
        simp only at this
        rw[List.contains_iff_mem.2 hx]at this
        cases this
  have hcg' :∀c∈cs,∃o,l[c]? =some o∧o.guard=none:=fun c hc=>by
    have:=List.all_eq_true.1 hcg c hc
    cases ho:l[c]? with
    | none=>rw[ho]at this;cases this
    | some o=>rw[ho]at this;exact⟨o,rfl,by simpa using this⟩
  have hsel' :∀(i:Nat) (o:Oper),l[i]? =some o→∀cs b,o.op≠Op.select cs b:=fun i o ho cs b e=>by
    have:=List.all_eq_true.1 hsel o (List.mem_of_getElem? ho)
    rw[e]at this
    cases this
  have hnew:∀p∈fs,BX fs ρ p.2.1=p.2.2:=G0 fs ρ (by
    have:=IH hnd
    rw[List.map_map]at this
    exact this)
  have hlt:∀(i:Nat) (o:Oper),l[i]? =some o→i<l.length:=fun i o ho=>(List.getElem?_eq_some_iff.1 ho).1
  -- all are done
  have fin:∀(listed:Array Bool) (a:Act) (w:World) (ρc:At) (wc:World) (rest:List Nat),PH l fs cs X I n (BX fs ρ) ρc wc rest listed a w→CT P l X I (fun ch w' =>∀ρ',Q (.panic ch) ρ' w') (fun ρ w=>Q .normal ρ w) rest ρc wc→(∀i,i<l.length→On listed i)→∃ρ',Fits n ρ' a∧Q .normal ρ' w:=fun listed a w ρc wc rest h hc hall=>by
    obtain⟨u,hu,m,s⟩:=h.suffix
    cases rest with
    | nil=>exact⟨ρc,⟨h.tmps,h.defers,fun t=>h.agree t (fun p hp hno=>by
        obtain⟨o,ho,-⟩:=hfl' p hp
        exact absurd (hall p.1 (hlt _ _ ho)) hno)⟩,by have e:=h.same rfl;subst e;exact hc⟩
    | cons c r=>
      obtain⟨o,ho,-⟩:=hcg' c (by rw[hu];simp)
      exact absurd (hall c (hlt _ _ ho)) (s c (by simp))
  intro fuel
  induction fuel with
  | zero=>
    intro listed a w ρc wc rest hfu h hc
    have full:∀i,i<l.length→On listed i:=fun i hi=>by
      have:=Df _ hfu i (by rw[Array.length_toList,h.size];omega)
      unfold On
      simp at this
      simp[this]
    refine⟨?_,fin listed a w ρc wc rest h hc full⟩
    cases hr:Region.ready .any l.toArray listed with
    | nil=>rfl
    | cons x xs=>
      exfalso
      have hmem:x∈Region.ready .any l.toArray listed:=by rw[hr];simp
      obtain⟨h1,o,ho,_⟩:=mem_ready.1 hmem
      have hx:x<l.length:=by simpa using (Array.getElem?_eq_some_iff.1 ho).1
      have h2:=full x hx
      have hx' :x<listed.size:=h2.lt
      unfold On at h2
      simp[hx']at h1 h2
      rw[h1]at h2
      cases h2
  | succ fuel ih=>
    intro listed a w ρc wc rest hfu h hc
    refine⟨fun hr=>fin listed a w ρc wc rest h hc fun i=> ?_,fun i hi=> ?_⟩
    · induction i using Nat.strongRecOn with
      | _ i ih2=>
        intro hi
        refine Classical.byContradiction fun hno=> ?_
        have ho:l[i]? =some l[i]:=List.getElem?_eq_getElem hi
        have:i∈Region.ready .any l.toArray listed:=by
          refine mem_ready.2 ⟨?_,l[i],by rw[List.getElem?_toArray];exact ho,fun e he hb=> ?_⟩
          · have hi' :i<listed.size:=by rw[h.size];exact hi
            unfold On at hno
            simp[hi']at hno ⊢
            exact hno
          · have hlt:=g.back i _ ho e he hb
            exact ih2 e.on hlt (by omega)
        rw[hr]at this
        cases this
    · obtain⟨h1,o,ho,hall0⟩:=mem_ready.1 hi
      have ho' :l[i]? =some o:=by simpa using ho
      have hilt:i<l.length:=hlt i o ho'
      have hil:i<listed.size:=by rw[h.size];exact hilt
      have hno:¬On listed i:=by
        unfold On
        simp[hil]at h1 ⊢
        exact h1
      have hall:∀e∈o.after,Region.binds .any e=true→On listed e.on:=fun e he hb=>hall0 e he hb
      have hI:Inv l (fun _=> []) (fun _ _=>True) (fun _ _=>True) (fun _ _ _=>True) a listed a w:=
        ⟨h.size,h.closed,rfl,rfl,fun _ _ _=>trivial,trivial,fun _ _=>rfl,fun _ _ _ _ _ _ _ _=>trivial⟩
      have hmr:∀k,((AX l []).getD i 0).testBit k=true→On listed k:=fun k hk=>hI.maskReady ho' hall hk
      have hcnt:((listed.setIfInBounds i true).toList.filter (!·)).length=fuel:=by
        rw[Array.toList_setIfInBounds]
        have:=Dz listed.toList i (by
          simp[hil]at h1
          simp[hil,h1])
        omega
      have hcl:∀j oj,l[j]? =some oj→On (listed.setIfInBounds i true) j→∀e∈oj.after,Region.binds .any e=true→On (listed.setIfInBounds i true) e.on:=fun j oj hj hon e he hb=>by
        rcases(on_set hil).1 hon with rfl | hon
        · obtain rfl:o=oj:=by rw[ho']at hj;exact Option.some.inj hj
          exact(on_set hil).2 (.inr (hall e he hb))
        · exact(on_set hil).2 (.inr (h.closed j oj hj hon e he hb))
      have hF:Fits n (fun t=>a.tmps.getD t undef) a:=⟨h.tmps,h.defers,fun t=>rfl⟩
      have hroom:∀t,o.dst=some t→t<n:=fun t ht=>g.room i o t ho' ht
      -- what it looks at is as in the frame in order
      have hlook:∀t∈o.looksAt l.toArray,a.tmps.getD t undef=ρc t:=fun t ht=>h.agree t fun q hq hnq e=>by
        subst e
        obtain⟨oq,hoq,-,-,hdq,hearly,-⟩:=hfl' q hq
        by_cases hqi:i≤q.1
        · exact hearly i o hqi ho' ht
        · exact hnq (hmr q.1 (g.tied i o q.1 oq q.2.1 ho' hoq (by omega) (.inl ⟨hdq,List.mem_append_right _ ht⟩)))
      unfold wpOp
      simp only[List.getElem?_toArray,ho']
      obtain⟨u,hu,m,s⟩:=h.suffix
      have hguard:o.guard=none:=by
        rcases hcov' i hilt with ⟨p,hp,rfl⟩ | hic
        · obtain⟨o2,f,h2,-⟩:=hfl' p hp
          rw[ho']at f
          cases f
          exact h2
        · obtain⟨o2,f,h2⟩:=hcg' i hic
          rw[ho']at f
          cases f
          exact h2
      have hw:Region.wanted o (yielded l.toArray a.tmps)=true:=by unfold Region.wanted;rw[hguard]
      rw[if_pos hw]
      rcases hcov' i hilt with ⟨p,hp,rfl⟩ | hic
      · refine .inl (JP ?_)
        rw[hF.eval]
        obtain⟨o2,f,h2,hpc,hpd,hearly,huniq,hpl⟩:=hfl' p hp
        rw[ho']at f
        cases f
        have hghost:∀t∈o.looksAt l.toArray,a.tmps.getD t undef=BX fs ρ t:=fun t ht=>(hlook t ht).trans (h.ghost t fun c hc e=>hpl c hc t e ht)
        rw[HY (ρ:=BX fs ρ) (hsel' _ _ ho') hghost]
        have hrn:rest≠ []:=fun e=>by
          subst e
          rw[List.append_nil]at hu
          cases hgl:cs.getLast? with
          | none=>rw[hgl]at hlast;cases hlast
          | some c=>
            rw[hgl]at hlast
            have hcm:c∈cs:=List.mem_of_getLast? hgl
            have y:=List.all_eq_true.1 hlast (p.1,p.2.1) (List.mem_map.2 ⟨p,hp,rfl⟩)
            exact absurd (hI.mask c p.1 (m c (hu▸hcm)) y) hno
        have hIw:I w:=h.inv.elim (fun e=>absurd e hrn) (fun x=>x)
        refine Yk.mono (hf.get p hp o ho' w hIw) ?_
        rintro v w' ⟨rfl,hxw⟩
        refine ih _ _ _ ρc wc rest hcnt ⟨by simpa using h.size,hcl,(hF.put o.dst hroom _).size,(hF.put o.dst hroom _).defers,⟨u,hu,fun c hc=>(on_set hil).2 (.inr (m c hc)),fun c hc hx=> ?_⟩,fun t ht=> ?_,h.ghost, .inr (hIX _ _ hIw hxw),hXt _ _ _ h.turn hxw,fun e=>absurd e hrn⟩ hc
        · rcases(on_set hil).1 hx with rfl | hx
          · exact hpc (by rw[hu];exact List.mem_append_right _ hc)
          · exact s c hc hx
        · rw[(hF.put o.dst hroom _).get t,hpd]
          by_cases e:t=p.2.1
          · subst e
            rw[D7,HX,h.ghost _ (fun c hc e=> ?_),hnew p hp]
            obtain⟨oc,hoc,-⟩:=hcg' c hc
            exact huniq c (hlt _ _ hoc) (fun x=>hpc (x▸hc)) e
          · rw[D7,Gl e]
            refine h.agree t fun q hq hnq=> ?_
            by_cases hqi:q.1=p.1
            · obtain⟨oq,hoq,-,-,hdq,-⟩:=hfl' q hq
              rw[hqi,ho']at hoq
              cases hoq
              rw[hpd]at hdq
              exact fun x=>e (x.symm.trans (Option.some.inj hdq).symm)
            · exact ht q hq (fun x=>by
                rcases(on_set hil).1 x with x | x
                · exact hqi x
                · exact hnq x)
      · have hir:i∈rest:=by
          rw[hu]at hic
          rcases List.mem_append.1 hic with x | x
          · exact absurd (m i x) hno
          · exact x
        cases rest with
        | nil=>cases hir
        | cons b r=>
          have hib:i=b:=by
            refine Classical.byContradiction fun hne=> ?_
            rcases List.mem_cons.1 hir with x | x
            · exact hne x
            · exact s b (by simp) (hmr b (pairB_get hpair b i u r hu x))
          subst hib
          have hc' :Yp P (fun v w' =>(r= []∨I w')∧CT P l X I (fun ch w' =>∀ρ',Q (.panic ch) ρ' w') (fun ρ w=>Q .normal ρ w) r (Bo ρc o.dst v) w') (fun ch w' =>∀ρ',Q (.panic ch) ρ' w') ((execOp (Ai ρc) o).run P w):=by
            unfold CT at hc
            rw[ho']at hc
            exact hc w h.turn
          refine .inl (Je (J:=fun ch w' =>∀ρ',Q (.panic ch) ρ' w') ?_ fun ch w' h=>⟨_,hF,h _⟩)
          rw[hF.eval]
          rw[HY (ρ:=ρc) (hsel' _ _ ho') hlook]
          refine Yp.mono' hc' ?_ fun _ _ h=>h
          rintro v w' ⟨hIw,hcr⟩
          refine ih _ _ _ _ w' r hcnt ⟨by simpa using h.size,hcl,(hF.put o.dst hroom _).size,(hF.put o.dst hroom _).defers,⟨u++ [i],by rw[hu];simp,fun c hcm=> ?_,fun c hcm hx=> ?_⟩,fun t ht=> ?_,fun t ht=> ?_,hIw,hX _,fun _=>rfl⟩ hcr
          · rcases List.mem_append.1 hcm with x | x
            · exact(on_set hil).2 (.inr (m c x))
            · exact(on_set hil).2 (.inl (List.mem_singleton.1 x))
          · rcases(on_set hil).1 hx with rfl | hx
            · exact hno (hmr c (pairB_get hpair c c u r hu hcm))
            · exact s c (by simp[hcm]) hx
          · rw[(hF.put o.dst hroom _).get t]
            cases hd:o.dst with
            | none=>
              exact h.agree t fun q hq hnq=>ht q hq (fun x=>by
                rcases(on_set hil).1 x with x | x
                · obtain⟨_,_,_,hpc,_⟩:=hfl' q hq
                  exact hpc (x▸hic)
                · exact hnq x)
            | some d=>
              rw[D7,D7]
              by_cases e:t=d
              · subst e;rw[HX,HX]
              · rw[Gl e,Gl e]
                exact h.agree t fun q hq hnq=>ht q hq (fun x=>by
                  rcases(on_set hil).1 x with x | x
                  · obtain⟨_,_,_,hpc,_⟩:=hfl' q hq
                    exact hpc (x▸hic)
                  · exact hnq x)
          · have hne:=ht i hic
            unfold GG at hne
            rw[ho']at hne
            simp only[Option.bind_some]at hne
            cases hd:o.dst with
            | none=>exact h.ghost t ht
            | some d=>
              rw[hd]at hne
              rw[D7,Gl (fun e=>hne (by rw[e]))]
              exact h.ghost t ht
theorem H0{X:World→World→Prop}(hX:∀a,X a a)(hXt:∀a b c,X a b→X b c→X a c)(fs:List (Nat × Tmp × Value))(cs:List Nat)(I:World→Prop)(hIX:∀a b,I a→X a b→I b){id:Nat}(hm:P.follows .mixedOrders=true)(hg:Ck l n=true)(hb:Gk l (fs.map fun p=>(p.1,p.2.1)) cs=true)(hI:I w.drew)(hf:FloatsX P l X I (BX fs ρ) fs) 
    (hc:CT P l X I (fun ch w' =>∀ρ',Q (.panic ch) ρ' w') (fun ρ w=>Q .normal ρ w) cs (BX fs ρ) w.drew):B1 P n (.region id l.toArray true) Q ρ w:=by
  intro a ha
  exact wp_region_any hm (float_any hX hXt hIX (ρ:=ρ) hg hb hf _ _ _ _ (BX fs ρ) w.drew cs (by simp) ⟨by simp,fun i o _ h=>absurd h On.not_replicate,ha.size,ha.defers,⟨[],rfl,(fun c hc=>by cases hc),fun c _ h=>On.not_replicate h⟩,fun t ht=>(ha.get t).trans (E8 fs ρ t (fun p hp=>ht p hp On.not_replicate)).symm,fun t _=>rfl, .inr hI,hX _,fun _=>rfl⟩ hc)
theorem D8(fs:List (Nat × Tmp × Value))(cs:List Nat)(I:World→Prop){id:Nat}(hm:P.follows .mixedOrders=true)(hg:Ck l n=true)(hb:Gk l (fs.map fun p=>(p.1,p.2.1)) cs=true)(hI:I w.drew)(hf:FloatsO P l I (BX fs ρ) fs) 
    (hc:chainF P l I (fun ρ w=>Q .normal ρ w) cs (BX fs ρ) w.drew):B1 P n (.region id l.toArray true) Q ρ w:=
  H0 (X:=Eq) (fun _=>rfl) (fun _ _ _ h1 h2=>h1.trans h2) fs cs I (fun _ _ h e=>e▸h) hm hg hb hI hf.toX hc.toX
theorem Em(fs:List (Nat × Tmp × Value))(cs:List Nat)(I:World→Prop)(hIX:∀a b,I a→Ext a b→I b){id:Nat}(hm:P.follows .mixedOrders=true)(hg:Ck l n=true)(hb:Gk l (fs.map fun p=>(p.1,p.2.1)) cs=true)(hI:I w.drew)(hf:FloatsX P l Ext I (BX fs ρ) fs) 
    (hc:CT P l Ext I (fun ch w' =>∀ρ',Q (.panic ch) ρ' w') (fun ρ w=>Q .normal ρ w) cs (BX fs ρ) w.drew):B1 P n (.region id l.toArray true) Q ρ w:=
  H0 Ext.refl (fun _ _ _ h1 h2=>h1.trans h2) fs cs I hIX hm hg hb hI hf hc
end
open Go.RowKit
set_option maxHeartbeats 400000 in
theorem KB(w:World)(v:Value)(l:List UInt8)(hr:RB w v l)(s:ByteArray)(hl:l.length+s.size+16≤140737488355328):
    Calls Tryd.prog 52 #[v, .string s] w fun e w' =>∃v',e = .returned v' ∧NewB 5 w w' v' (l++Lib.uvarint s.size++s.data.toList):=by
  obtain⟨i0,hi,a,b,c⟩:=info_parts Lf
  have h9:=Ds s.size (by omega)
  have hss:s.data.toList.length=s.size:=by simp
  have HSS:=Lib.hid hss
  clear hss
  go_enter Tryd.func52,Tryd.ntmps52
  go_wp2_with fail
  refine(If _ _ l hr (by omega)).mono ?_
  rintro e w1 ⟨f,rfl,h1⟩
  go_wp2_with fail
  refine(Hm w.heap.size l.length s.size (by omega) f _ w1 h1.own h1.by_.size (by omega)).mono ?_
  rintro e h ⟨i,rfl,ho,g⟩
  have h2:=h1.more g ho
  go_wp2_with (at_builtin;refine CJ _ rfl _ _ 26 9 rfl w.heap.size 5 i0 (.int .u8 0) 1 1 Ff hi a b c rfl _ _ _ rfl h2.own (.string s) _ _ rfl (Mf Pu _ s) ?c1 ?c2 ?c3 ?_)
  case c1=>have:=HSS.out;rw[this,List.length_append];unfold maxLen;omega
  case c2=>have:=HSS.out;rw[this,List.length_append];omega
  case c3=>exact h2.by_.size
  intro v' j hown' hgrow
  go_wp2
  go_ret
  exact⟨v',rfl,h2.more hgrow (by rw[HSS.out,List.length_append];exact hown')⟩

open Go.RowKit
def Bz(s:Bs):Bs:=Lib.uvarint s.length++s
def Cf(u:AO):Bs:= [u.kind]++Bz u.name++u.new.1
def CY(l:List Bs):Bs:=Lib.uvarint l.length++l.flatMap fun x=>x
def EP(b:Bool):UInt8:=bif b then 1 else 0
def Ba(m:Msg):Bs:=
  if m.kind=2 then Lib.uvarint m.refs.length++m.refs.flatMap Cf
  else if m.kind=3 then CY m.wants++CY m.haves
  else if m.kind=4 then Lib.uvarint m.size.toNat++m.id.1
  else if m.kind=5 then Lib.uvarint m.at_.toNat
  else if m.kind=6 then Lib.uvarint m.at_.toNat++Bz m.bytes
  else if m.kind=7 then Lib.uvarint m.size.toNat++(m.id.1++(Bz m.name++(m.old.1++(m.new.1++ [EP m.force]))))
  else if m.kind=8 then Lib.uvarint m.code.toNat
  else []
def BM(m:Msg):Bs:=m.kind :: (Lib.uvarint m.session.toNat++Ba m)
theorem En{m:Msg}(h:rightB m=true):∃p,AT m.kind=some p∧CR m p=true:=by
  unfold rightB at h
  split at h
  · cases h
  · rename_i p hp
    exact⟨p,hp,h⟩
theorem EQ{k:UInt8}{p:Ag}(h:AT k=some p):
    (k=1∧p=⟨false,false,false,false,false,false,false,false⟩)∨(k=2∧p=⟨true,false,false,false,false,false,false,false⟩)∨(k=3∧p=⟨false,true,false,false,false,false,false,false⟩)∨(k=4∧p=⟨false,false,true,false,true,false,false,false⟩)∨(k=5∧p=⟨false,false,false,true,false,false,false,false⟩)∨(k=6∧p=⟨false,false,false,true,false,true,false,false⟩)∨(k=7∧p=⟨false,false,true,false,true,false,true,false⟩)∨(k=8∧p=⟨false,false,false,false,false,false,false,true⟩):=by
  unfold AT updM at h
  split at h
  · cases h;rename_i e;simp[e]
  · split at h
    · cases h;rename_i e;simp[e]
    · split at h
      · cases h;rename_i e;simp[e]
      · split at h
        · cases h;rename_i e;simp[e]
        · split at h
          · cases h;rename_i e;simp[e]
          · split at h
            · cases h;rename_i e;simp[e]
            · split at h
              · cases h;rename_i e;simp[e]
              · split at h
                · cases h;rename_i e;simp[e,Bl]
                · cases h
structure PI (m : Msg) (p : Ag) : Prop where
  session:0≤m.session∧m.session≤2147483647
  size:0≤m.size∧m.size≤1048576
  at_:0≤m.at_∧m.at_≤1048576
  code:0≤m.code∧m.code≤22
  refs:m.refs.length≤128∧∀u∈m.refs,u.name.length≤32
  wants:m.wants.length≤65536
  haves:m.haves.length≤65536
  bytes:p.bytes=true→m.bytes.length≤256
  name:p.push=true→m.name.length≤32
theorem Eo{n m:Int}(h:boundB n m=true):0≤n∧n≤m:=by
  unfold boundB at h
  simp only[Bool.and_eq_true,decide_eq_true_eq]at h
  omega
theorem MR{u:AO}(h:EM u=false):u.name.length≤32:=by
  unfold EM at h
  simp only[Bool.or_eq_false_iff]at h
  have h1:=h.1.1.2
  exact(Gf (by simpa using h1)).2
theorem listB_facts{l:List AO}(h:Cm l=true):l.length≤128∧∀u∈l,u.name.length≤32:=by
  classical
  unfold Cm at h
  have h1:=of_decide_eq_true h
  refine⟨h1.2,fun u hu=> ?_⟩
  obtain⟨i,hi,rfl⟩:=List.getElem_of_mem hu
  have:=(h1.1 i hi).1
  rw[List.getD_eq_getElem?_getD,List.getElem?_eq_getElem hi]at this
  exact MR this
theorem JQ{l:List Bs}(h:CF l=true):l.length≤65536:=by
  unfold CF at h
  simp only[Bool.and_eq_true,decide_eq_true_eq]at h
  exact h.1.1
theorem DK{m:Msg}{p:Ag}(h:CR m p=true):PI m p:=by
  unfold CR at h
  simp only[Bool.and_eq_true,Bool.not_eq_true',Bool.or_eq_false_iff,Bool.not_eq_false']at h
  obtain⟨⟨⟨⟨⟨h1,h2⟩,h3⟩,h4⟩,h5⟩,⟨⟨h6,h7⟩,h8⟩,h9,h10⟩:=h
  refine⟨Eo h1,Eo h6,Eo h7,Eo h8,listB_facts h3,JQ h4,JQ h5,fun hp=> ?_,fun hp=> ?_⟩
  · rw[hp]at h9
    simp at h9
    omega
  · rw[hp]at h10
    simp at h10
    exact(Gf h10.1).2
theorem Oa{u:AO}(h:u.name.length≤32):(Cf u).length≤74:=by
  unfold Cf Bz
  have:=Ds u.name.length (by omega)
  simp only[List.length_append,List.length_singleton,u.new.2]
  omega
theorem Gm:∀ {l:List AO},(∀u∈l,u.name.length≤32)→(l.flatMap Cf).length≤74*l.length
  | [],_=>Nat.le_refl _
  | u :: r,h=>by
    have h1:=Oa (h u (by simp))
    have h2:=Gm (l:=r) (fun x hx=>h x (by simp[hx]))
    rw[List.flatMap_cons,List.length_append,List.length_cons]
    omega
theorem MS{l:List AO}{i:Nat}(h:i<l.length):((l.take (i+1)).flatMap Cf)=((l.take i).flatMap Cf)++Cf (l.getD i Aj):=by
  rw[List.take_succ_eq_append_getElem h,List.flatMap_append,List.flatMap_singleton,List.getD_eq_getElem?_getD,List.getElem?_eq_getElem h]
  rfl
theorem He(w:World)(v:Value)(l:Bs)(hr:RB w v l)(s:Bs)(hl:l.length+s.length+16≤140737488355328):
    Calls Tryd.prog 52 #[v,St s] w fun e w' =>∃v',e = .returned v' ∧NewB 5 w w' v' (l++Bz s):=by
  have hs:(⟨s.toArray⟩:ByteArray).size=s.length:=by show s.toArray.size=_;rw[List.size_toArray]
  have h:=KB w v l hr ⟨s.toArray⟩ (by rw[hs];omega)
  have e:l++Lib.uvarint (⟨s.toArray⟩:ByteArray).size++(⟨s.toArray⟩:ByteArray).data.toList=l++Bz s:=by
    unfold Bz
    rw[hs,List.append_assoc]
  rw[e]at h
  exact h
theorem MT{l:List Bs}{i:Nat}(h:i<l.length):((l.take (i+1)).flatMap fun x=>x)=((l.take i).flatMap fun x=>x)++l.getD i []:=by
  rw[List.take_succ_eq_append_getElem h,List.flatMap_append,List.flatMap_singleton,List.getD_eq_getElem?_getD,List.getElem?_eq_getElem h]
  rfl
theorem RG.lens{w:World}{v:Value}{l:List Bs}(h:RG 32 Lib.byteCells w v l):∀x∈l,x.length=32:=fun x hx=>Bp (h.1 x hx)
theorem FK:∀ {l:List Bs},(∀x∈l,x.length=32)→(l.flatMap fun x=>x).length=32*l.length
  | [],_=>rfl
  | a :: r,h=>by rw[List.flatMap_cons,List.length_append,h a (by simp),FK (fun x hx=>h x (by simp[hx])),List.length_cons];omega
theorem Jf{l:List Bs}(h:∀x∈l,x.length=32)(i:Nat)(hi:i≤l.length):((l.take i).flatMap fun x=>x).length=32*i:=by
  rw[FK (fun x hx=>h x (List.mem_of_mem_take hx)),List.length_take]
  omega
theorem Cj{n:Nat}(h:n≤9223372036854775807):(Lib.uvarint n).length≤9:=Ds n (by omega)
theorem JR{l:List Bs}(h:∀x∈l,x.length=32)(hl:l.length≤65536):(CY l).length≤2097200:=by
  unfold CY
  have h1:=Ds l.length (by omega)
  rw[List.length_append,FK h]
  omega
open Go.RowKit
theorem CL{w:World}{α:Type}{b k:Nat}{e:TypeId}{enc:α→List Value}{v:Value}{l l' :List α}(h:OG b e k enc w v l)(e' :l=l'):OG b e k enc w v l' :=by rw[←e'];exact h
open Go.RowKit
theorem Fu{P:Program}{e:TypeId}{k b:Nat}(h:(P.info? e).map (fun i=>(i.zero.map (fun z=>z.cells.size),i.size,i.bytes))=some (some k,k,b)):∃z,(P.info? e).map (fun i=>(i.zero,i.size,i.bytes))=some (some z,k,b)∧z.cells.size=k:=by
  cases hi:P.info? e with
  | none=>rw[hi]at h;cases h
  | some i=>
    rw[hi]at h
    simp only[Option.map_some,Option.some.injEq,Prod.mk.injEq]at h
    cases hz:i.zero with
    | none=>rw[hz]at h;cases h.1
    | some z=>
      rw[hz]at h
      simp only[Option.map_some,Option.some.injEq]at h
      exact⟨z,by simp[hz,h.2.1,h.2.2],h.1⟩
section
variable {P : Program} {ρ : At} {w : World}
theorem Yp.clo{f:FuncId}{dst:Option Tmp}{ty:TypeId}{pos:String}{af:Array Edge}{gd:Option (Nat × Bool)}{K:Value→World→Prop}{J:List PanicEntry→World→Prop}(hp:AG P f){c:Operand}{args:Array Operand}{at_:Array TypeId}{caps:Array Value}(hc:Ai ρ c = .func (.func f) #[] caps)(vs:Array Value)(hv:args.map (Ai ρ)++caps=vs) 
    (h:Calls P f vs w fun e w' =>match e with | .returned v=>K v w' | .panicked ch=>J ch w' | .outgrown=>False):Yp P K J ((execOp (Ai ρ) ⟨dst, .call ⟨.value c,args,at_⟩,ty,pos,af,gd⟩).run P w):=by
  subst hv
  have hr:(execOp (Ai ρ) ⟨dst, .call ⟨.value c,args,at_⟩,ty,pos,af,gd⟩).run P w = .ok (.enter f (args.map (Ai ρ)++caps)) w:=by
    unfold execOp
    simp[resolve,hc,Deferred.ofValue,invoke,hp _ w]
  rw[hr]
  exact h
end
section
variable {P : Program} {K : Value → World → Prop} {ρ : At} {w : World} {d : Option Tmp} {ty : TypeId} {pos : String} {af : Array Edge} {gd : Option (Nat × Bool)}
theorem Yk.convStr{t e s:TypeId}{u:TypeDesc}(hs:P.underlying s=some u)(ht:P.underlying t=some (.slice e))(he:P.underlying e=some (.int .u8)){x:Operand}{l:List UInt8}(hx:Ai ρ x=St l)(hl:l.length≤9223372036854775807) 
    (hk:∀v w',RB w' v l→Ext w w' →(∀k,v.ownBlock=some k→w.heap.size≤k∧k<w'.heap.size)→K v w'):Yk P K ((execOp (Ai ρ) ⟨d, .convert s t x,ty,pos,af,gd⟩).run P w):=by
  have hr:=Lib.run_convert_string_bytes (P:=P) w s t e ⟨l.toArray⟩ hs ht he
  have hsz:(⟨l.toArray⟩:ByteArray).size=l.length:=by simp[ByteArray.size]
  rw[hsz]at hr
  refine Yk.value (v:= .slice (some ⟨w.heap.size,0,none⟩) l.length (grownCap w l.length 0 e)) (w' :=Lib.bytesWorld w e ⟨l.toArray⟩) ?_ (hk _ _ ?_ (Lib.bytesWorld_below w e _) ?_)
  · unfold execOp
    simp only[hx,hr,Sem.run_bind,Sem.run_pure,Result.andThen_ok]
  · refine⟨by rw[Lib.byteCells_length,Nat.mul_one],_,_,rfl,grownCap_ge w _ _ _,grownCap_le_maxLen w _ _ _ (by simpa [maxLen] using hl),(fun h=>by cases h),fun a ha j u hu=> ?_⟩
    cases ha
    have hj:j<l.length:=by have:=(List.getElem?_eq_some_iff.1 hu).1;rwa [Lib.byteCells_length]at this
    have hc:=Lib.bytesWorld_cell w e ⟨l.toArray⟩ j (by rw[hsz];exact hj)
    rw[show(⟨w.heap.size,0,none⟩:Addr).add j=⟨w.heap.size,j,none⟩ by simp[Addr.add];exact fun h=>h.symm]
    rw[hc,←hu,OS hj]
  · intro k hk
    cases hk
    rw[Lib.bytesWorld_size]
    exact⟨Nat.le_refl _,Nat.lt_succ_self _⟩
end
open Go.RowKit
set_option maxRecDepth 100000
theorem Hf(z0:Int)(z1:ByteArray)(c3_0 c3_1 c3_2 c3_3 c3_4 c3_5 c3_6 c3_7 c3_8 c3_9 c3_10 c3_11 c3_12 c3_13 c3_14 c3_15 c3_16 c3_17 c3_18 c3_19 c3_20 c3_21 c3_22 c3_23 c3_24 c3_25 c3_26 c3_27 c3_28 c3_29 c3_30 c3_31:Value)(w:World):(Instr.build 67 #[(0, .int .u8 z0),(1, .string z1),(3, .agg #[c3_0,c3_1,c3_2,c3_3,c3_4,c3_5,c3_6,c3_7,c3_8,c3_9,c3_10,c3_11,c3_12,c3_13,c3_14,c3_15,c3_16,c3_17,c3_18,c3_19,c3_20,c3_21,c3_22,c3_23,c3_24,c3_25,c3_26,c3_27,c3_28,c3_29,c3_30,c3_31])]).run Tryd.prog w = .ok (.agg #[.int .u8 z0, .string z1, .int .u8 0, .int .u8 0, .int .u8 0, .int .u8 0, .int .u8 0, .int .u8 0, .int .u8 0, .int .u8 0, .int .u8 0, .int .u8 0, .int .u8 0, .int .u8 0, .int .u8 0, .int .u8 0, .int .u8 0, .int .u8 0, .int .u8 0, .int .u8 0, .int .u8 0, .int .u8 0, .int .u8 0, .int .u8 0, .int .u8 0, .int .u8 0, .int .u8 0, .int .u8 0, .int .u8 0, .int .u8 0, .int .u8 0, .int .u8 0, .int .u8 0, .int .u8 0,c3_0,c3_1,c3_2,c3_3,c3_4,c3_5,c3_6,c3_7,c3_8,c3_9,c3_10,c3_11,c3_12,c3_13,c3_14,c3_15,c3_16,c3_17,c3_18,c3_19,c3_20,c3_21,c3_22,c3_23,c3_24,c3_25,c3_26,c3_27,c3_28,c3_29,c3_30,c3_31]) w:=by kernel_rfl
theorem H1(z0:UInt8)(z1:List UInt8)(z3:BZ)(w:World):(Instr.build 67 #[(0,B8 z0),(1,St z1),(3,AB z3.1)]).run Tryd.prog w = .ok (.agg (B8 (z0) :: (St (z1) :: (Lib.byteCells zid.1++(Lib.byteCells z3.1)))).toArray) w:=by
 obtain⟨z3,k3⟩:=z3
 obtain⟨a3_0,a3_1,a3_2,a3_3,a3_4,a3_5,a3_6,a3_7,a3_8,a3_9,a3_10,a3_11,a3_12,a3_13,a3_14,a3_15,a3_16,a3_17,a3_18,a3_19,a3_20,a3_21,a3_22,a3_23,a3_24,a3_25,a3_26,a3_27,a3_28,a3_29,a3_30,a3_31,rfl⟩:=Jp k3
 exact Hf _ _ _ _ _ _ _ _ _ _ _ _ _ _ _ _ _ _ _ _ _ _ _ _ _ _ _ _ _ _ _ _ _ _ w
theorem MU(c0 c1 c2 c3 c4 c5 c6 c7 c8 c9 c10 c11 c12 c13 c14 c15 c16 c17 c18 c19 c20 c21 c22 c23 c24 c25 c26 c27 c28 c29 c30 c31 c32 c33 c34 c35 c36 c37 c38 c39 c40 c41 c42 c43 c44 c45 c46 c47 c48 c49 c50 c51 c52 c53 c54 c55 c56 c57 c58 c59 c60 c61 c62 c63 c64 c65:Value)(w:World):(Instr.buildSlice 22 1 #[(0, .agg #[c0,c1,c2,c3,c4,c5,c6,c7,c8,c9,c10,c11,c12,c13,c14,c15,c16,c17,c18,c19,c20,c21,c22,c23,c24,c25,c26,c27,c28,c29,c30,c31,c32,c33,c34,c35,c36,c37,c38,c39,c40,c41,c42,c43,c44,c45,c46,c47,c48,c49,c50,c51,c52,c53,c54,c55,c56,c57,c58,c59,c60,c61,c62,c63,c64,c65])]).run Tryd.prog w = .ok (.slice (some ⟨w.heap.size,0,none⟩) 1 1) (w.alloc (.cells #[c0,c1,c2,c3,c4,c5,c6,c7,c8,c9,c10,c11,c12,c13,c14,c15,c16,c17,c18,c19,c20,c21,c22,c23,c24,c25,c26,c27,c28,c29,c30,c31,c32,c33,c34,c35,c36,c37,c38,c39,c40,c41,c42,c43,c44,c45,c46,c47,c48,c49,c50,c51,c52,c53,c54,c55,c56,c57,c58,c59,c60,c61,c62,c63,c64,c65] 67)):=by kernel_rfl
theorem MV:∀(cs:Array Value),cs.size=66→∀w:World,(Instr.buildSlice 22 1 #[(0, .agg cs)]).run Tryd.prog w = .ok (.slice (some ⟨w.heap.size,0,none⟩) 1 1) (w.alloc (.cells cs 67))
 | ⟨c0 :: c1 :: c2 :: c3 :: c4 :: c5 :: c6 :: c7 :: c8 :: c9 :: c10 :: c11 :: c12 :: c13 :: c14 :: c15 :: c16 :: c17 :: c18 :: c19 :: c20 :: c21 :: c22 :: c23 :: c24 :: c25 :: c26 :: c27 :: c28 :: c29 :: c30 :: c31 :: c32 :: c33 :: c34 :: c35 :: c36 :: c37 :: c38 :: c39 :: c40 :: c41 :: c42 :: c43 :: c44 :: c45 :: c46 :: c47 :: c48 :: c49 :: c50 :: c51 :: c52 :: c53 :: c54 :: c55 :: c56 :: c57 :: c58 :: c59 :: c60 :: c61 :: c62 :: c63 :: c64 :: c65 :: []⟩,_,w=>MU c0 c1 c2 c3 c4 c5 c6 c7 c8 c9 c10 c11 c12 c13 c14 c15 c16 c17 c18 c19 c20 c21 c22 c23 c24 c25 c26 c27 c28 c29 c30 c31 c32 c33 c34 c35 c36 c37 c38 c39 c40 c41 c42 c43 c44 c45 c46 c47 c48 c49 c50 c51 c52 c53 c54 c55 c56 c57 c58 c59 c60 c61 c62 c63 c64 c65 w
theorem wr22_ig67:∃z,(Tryd.prog.info? 67).map (fun i=>(i.zero,i.size,i.bytes))=some (some z,66,88)∧z.cells.size=66:=Fu (by kernel_rfl)
theorem LO:(Tryd.prog.info? 22).map (·.size)=some 1:=by kernel_rfl
theorem II:∃fs,Tryd.prog.underlying 53=some (.struct fs):=CU (by kernel_rfl)
theorem H2:(Tryd.prog.info? 53).map (·.size)=some 36:=by kernel_rfl
theorem IJ:AG Tryd.prog 31:=fun _ _=>by kernel_rfl
theorem MW{d:Option Tmp}{ty:TypeId}{pos:String}{af:Array Edge}{gd:Option (Nat × Bool)}(σ:Operand→Value)(w:World):(execOp σ ⟨d, .alloc 22,ty,pos,af,gd⟩).run Tryd.prog w = .ok (.value (PQ w.heap.size 0)) (w.alloc (.cells ([(Value.slice none 0 0)]).toArray 22)):=by kernel_rfl
theorem IK:AG Tryd.prog 87:=fun _ _=>by kernel_rfl
set_option maxHeartbeats 1600000
theorem KS(w0 w:World)(c:Ext w0 w)(gb:Nat)(hgb:w0.heap.size≤gb)(vb:Value)(L:List AO)(hb:w.heap[gb]? =some (.cells ([vb]).toArray 22 (0,0)))(ho:OG w0.heap.size 67 66 (updC) w vb (L))(hap:OB vb gb)(k:UInt8)(v:Value)(l:List BC)(hq:RG 33 nmdC w0 v l)(hl:L.length+l.length≤1000000):
  Calls Tryd.prog 87 #[B8 k,v,PQ gb 0] w fun e w' =>∃v',e = .returned (.tuple #[])∧w'.heap[gb]? =some (.cells ([v']).toArray 22 (0,0))∧OG w0.heap.size 67 66 (updC) w' v' (L++l.map (By k))∧OB v' gb∧Ext w0 w' :=by
 have hgl:=(bl hb)
 have hsz0:=c.size
 refine calls_of_wpF (args:= [B8 (k),v,PQ gb 0]) Tryd.func87 rfl 23 rfl (Nat.le_of_ble_eq_true rfl) ?_
 intro z hb
 have p:z 0=(B8 (k):Value):=hb.get 0
 have j:z 1=(v:Value):=hb.get 1
 have m:z 2=(PQ gb 0:Value):=hb.get 2
 clear hb
 refine sk fun K1 am=>(wt (oM rfl (oS rfl (Yk.lenRG DB (RG.of (hq.keep c) j) (oM rfl (Be [(0,B8 (k)),(1,v),(2,PQ gb 0),(7,v),(8,NI l.length),(9,NI 0)] ⟨p,j,m,j,rfl,rfl,trivial⟩ fun a5 ⟨p,j,m,q,r,n,_⟩=>(tN (am _ _ (Ax (Bc (fun(ρ:At) (wz:World)=>∃i:Nat,∃vb1:Value,ρ 0=(B8 (k):Value)∧ρ 1=(v:Value)∧ρ 2=(PQ gb 0:Value)∧ρ 7=(v:Value)∧ρ 8=(NI l.length:Value)∧ρ 9=(NI i:Value)∧Ext w0 wz∧wz.heap[gb]? =some (.cells ([vb1]).toArray 22 (0,0))∧OG w0.heap.size 67 66 (updC) wz vb1 (L++(l.take i).map (By k))∧(i≤l.length)∧(OB vb1 gb)∧True) (fun ρ _=>l.length-(intOf (ρ 9)).toNat) ⟨0,vb,p,j,m,q,r,n,c,hb,CL ho (by simp),Nat.zero_le _,hap,trivial⟩ ?_))))))))))
 clear hb
 clear ho
 clear c
 rintro an w4 ⟨i,vb1,p,j,m,q,r,n,c,g,h,hi,aa,-⟩
 have q9:=n
 have hgl:=(bl g)
 refine sk fun K5 ao=>(wt (oS rfl (Yk.eqI (a:=(i:Nat)) (b:=(l.length:Nat)) n r (AZ _ _ _ _) (oZ (tN (ao _ _ (sk fun K6 ap=> ?_)))))))
 refine A2 ((i)<(l.length)) (vr (.bool (decide ((i)<(l.length)))) rfl) (fun ae=> ?_) (fun ae=> ?_)
 ·have hlt:i<l.length:=ae
  refine Ak (tN (ap _ _ (sk fun K7 aq=>(Ax (sk fun K8 ar=>(wt ?_))))))
  have bb:(nmdC (l.getD (i) Af)).length=33:=(RG.elem (hq.keep c) Af (by omega))
  refine oS rfl (Yk.atRG DB HF (by decide) Af (RG.of (hq.keep c) q) n (by omega) fun v9 af=>(oS rfl (Yk.loadPR (PR.of af (vr v9 rfl)) (ML).choose_spec rfl (by rw[C4];exact HH) (oS rfl (Yk.alloc (cs:=(nmdC (⟨[],zid⟩:BC)).toArray) MM fun o av aw ag ab bc=> ?_)))))
  have ax:=c.size
  have bd:=Bn (bl g) aw
  have ay:OB vb1 o:=AW h.2 (by omega)
  have c:=c.trans ab
  have g:=eb ab g
  have h:=h.keep ab
  have s:=ag;clear ag
  have be:o<av.heap.size:=by omega
  refine oS rfl (Yk.storeAll (vr (PQ o 0) rfl) (vr (.agg (nmdC (l.getD (i) Af)).toArray) rfl) s (by simp only[List.size_toArray,C4]) (AF (C4 _) HH) (Gz (x:=(l.getD (i) Af))) fun az ah ac bf=> ?_)
  have c:=Ae c ac (Nat.le_trans ax (by omega))
  have g:=kb ac g (by omega)
  have h:=OG.kept h ac ay
  clear s
  have s:az.heap[o]? =some (.cells (nmdC (l.getD (i) Af)).toArray 70 (0,0)):=ah;clear ah
  have bg:=bl s
  refine oZ ?_
  clear af
  refine tN (ar _ _ (wt (oS rfl (Yk.cell1 DS rfl m (Ac g (show _=some (vb1:Value)from rfl)) (oM rfl (oS rfl (Yk.fieldAt E6 (vr (PQ o 0) rfl) (oS rfl (Yk.cell1 Dx rfl (vr (PQ o 0) rfl) (Ac s (show(nmdC (l.getD (i) Af))[0]? =some (St (((l.getD (i) Af)).name):Value)from Hp (l.getD (i) Af))) (oS rfl (Yk.fieldAt Kq (vr (PQ o 0) rfl) (oS rfl (Yk.loadPR (PR.blk s (Jt (l.getD (i) Af)) (Ju (l.getD (i) Af)) (vr (PQ o 1) rfl)) OA rfl (AH ((l.getD (i) Af)).id.2) (oS rfl (Yk.build3 p (vr (St (((l.getD (i) Af)).name)) rfl) (vr (AB (((l.getD (i) Af)).id.1)) rfl) (fun w=>H1 k (((l.getD (i) Af)).name) (((l.getD (i) Af)).id) w) (oS rfl (Yk.lit1G (a:=(⟨k,(((l.getD (i) Af)).name),zid,((l.getD (i) Af)).id⟩:AO)) (enc:=updC) (vr (.agg (updC (⟨k,(((l.getD (i) Af)).name),zid,((l.getD (i) Af)).id⟩:AO)).toArray) rfl) (BW _) MV fun a0 a1 ai ad=> ?_)))))))))))))))))
  have c:=c.trans ad
  have g:=eb ad g
  have h:=h.keep ad
  refine oS rfl (Yk.appendRG _ _ w0.heap.size _ 88 DS wr22_ig67.choose_spec.1 wr22_ig67.choose_spec.2 DS (L++(l.take i).map (By k)) ([(⟨k,(((l.getD (i) Af)).name),zid,((l.getD (i) Af)).id⟩:AO)]) (OG.of h (vr vb1 rfl)) (RG.of ai (vr a0 rfl)) (fun _ _=>DM) (by simp only[List.length_append,List.length_map,List.length_take,List.length_cons,List.length_nil];omega) (by simp only[List.length_append,List.length_map,List.length_take,List.length_cons,List.length_nil];omega) c.size fun t a2 u y=> ?_)
  have y:Grew a1 a2 vb1 t:=y
  have aj:OB t gb:=AV y aa (bl g)
  have c:=BG c y h.2 (Nat.le_refl _)
  have g:=AR g y aa
  clear h
  clear ai
  refine oS rfl (Yk.storeC (i:=0) (v:=t) m (vr t rfl) g (Nat.le_of_ble_eq_true rfl) LO (AY u.2).1 (AY u.2).2 fun bh ak al bi=> ?_)
  have c:=Ae c al (Nat.le_trans (Nat.le_refl _) (by omega))
  clear g
  have u:=OG.kept u al aj
  have g:=ak;clear ak
  have bj:=bl g
  refine oZ (bN (tN (aq _ _ (wt (oS rfl (Yk.bin (xv:=NI i) (yv:=NI 1) n rfl rfl (AN _ _ _ (by omega)) (oM rfl (Be [(0,B8 (k)),(1,v),(2,PQ gb 0),(6,PQ o 0),(7,v),(8,NI l.length),(9,NI ((i)+(1)))] ⟨p,j,m,rfl,q,r,rfl,trivial⟩ fun a3 ⟨p,j,m,T6,q,r,n,_⟩=>(tN (And.intro ⟨i+1,t,p,j,m,q,r,n,c,g,CL u (Eb (f:=By k) (d:=Af) hlt),by omega,aj,trivial⟩ ?_))))))))))
  show l.length-(intOf (a3 9)).toNat<l.length-(intOf (an 9)).toNat
  rw[n,q9]
  simp only[intOf,Int.toNat_natCast];omega
 refine A6 (Aw (Aw (AM (F3 (fn:=Tryd.f87) [] rfl [] (.tuple #[]) rfl trivial ?_))))
 refine⟨_,rfl,g,?_,aa,c⟩
 exact CL h (by rw[List.take_of_length_le (by omega)])

theorem PJ(w:World)(x:Ay)(hm:RefsAt w x)(hL:Fr x.1)(hc:x.1.branches.length≤80∧x.1.tags.length≤80):
  Calls Tryd.prog 36 #[.agg (refsC x).toArray] w fun e w' =>∃v,e = .returned v∧RG 66 updC w' v (ofB x.1)∧Ext w w' :=by
 have hmt:=hm.branches
 have hmg:=hm.tags
 have hml:=hm.log
 obtain⟨aw,ax⟩:=hc
 refine calls_of_wpF (args:= [.agg (refsC x).toArray]) Tryd.func36 rfl 18 rfl (Nat.le_of_ble_eq_true rfl) ?_
 intro ad hb
 have T0:ad 0=(.agg (refsC x).toArray:Value):=hb.get 0
 clear hb
 have hE:=Ext.refl w
 refine sk fun K1 m=>(wt (oS rfl (Yk.box (cs:=(refsC x:List Value).toArray) T0 fun c g az n af a0=> ?_)))
 have hE:=hE.trans af
 have a:=n;clear n
 have a1:c<g.heap.size:=by omega
 refine oA rfl (oZ ?_)
 rcases hR:Cx x.1 with _ | _
 ·refine tN (m _ _ (sk fun a2 a3=>(sk fun a4 ag=>(wt (oS rfl (Yk.loadAll (vr (PQ c 0) rfl) a (II).choose_spec rfl (AF (B5 x) H2) (oS rfl (Yk.callA1 IJ (vr (.agg (refsC x).toArray) rfl) (((show Calls _ _ _ _ (fun e k=>e = .returned (.bool false)∧Ext g k)from by have h:=HI g x (RefsAt.mk (hmt.keep hE) (hmg.keep hE) (hml.keep hE)) hL;rw[hR]at h;exact h)).mono ?_)))))))))
  rintro e a5 ⟨rfl,o⟩
  refine⟨_,rfl,?_⟩
  have hE:=hE.trans o
  have a:=eb o a
  refine oS rfl (Yk.notB (vr (.bool (false)) rfl) (oZ ?_))
  refine tN (ag _ _ (AE (vr (.bool (true)) rfl) (sk fun a6 ah=>(wt (oA rfl (oZ (tN (ah _ _ (Ap (As (Ao (fn:=Tryd.f36) _ rfl [(Value.slice none 0 0)] ((Value.slice none 0 0)) rfl ⟨rfl,trivial⟩ ?_)))))))))))
  exact⟨_,rfl,by unfold ofB;rw[hR];exact RG.nil _ _ _,hE⟩
 refine tN (m _ _ (sk fun a7 ai=>(sk fun a8 aj=>(wt (oS rfl (Yk.loadAll (vr (PQ c 0) rfl) a (II).choose_spec rfl (AF (B5 x) H2) (oS rfl (Yk.callA1 IJ (vr (.agg (refsC x).toArray) rfl) (((show Calls _ _ _ _ (fun e k=>e = .returned (.bool true)∧Ext g k)from by have h:=HI g x (RefsAt.mk (hmt.keep hE) (hmg.keep hE) (hml.keep hE)) hL;rw[hR]at h;exact h)).mono ?_)))))))))
 rintro e i ⟨rfl,p⟩
 refine⟨_,rfl,?_⟩
 have hE:=hE.trans p
 have a:=eb p a
 refine oS rfl (Yk.notB (vr (.bool (true)) rfl) (oZ ?_))
 have hq22:=(hmt.keep hE)
 have hq23:=(hmg.keep hE)
 have hq24:=a
 refine tN (aj _ _ (Al (vr (.bool (false)) rfl) (Ak (tN (ai _ _ (sk fun a9 ak=>(wt (oS rfl (Yk.alloc (cs:=([(Value.slice none 0 0)]).toArray) MW fun b q r s t ba=> ?_)))))))))
 have j:=Ext.refl i
 have al:=hE
 have bb:=hE.size
 have bc:=Bn (bl a) r
 have a:=eb t a
 have j:=j.trans t
 have f:=s;clear s
 have bd:b<q.heap.size:=by omega
 refine oZ ?_
 have u:OG i.heap.size 67 66 (updC) q (Value.slice none 0 0) ([]:List AO):=OG.nil _ _ _ _ _
 have hgb_:=Nat.le_of_eq r
 refine tN (ak _ _ (sk fun be am=>(wt (oS rfl (Yk.mkFunc (vs:= #[PQ b 0]) (by simp only[List.map_toArray,List.map_cons,List.map_nil];exact congrArg List.toArray (DX (vr (PQ b 0) rfl))) (oA rfl (oZ (tN (am _ _ (sk fun bf an=>(wt (oM rfl (oS rfl (Yk.fieldAt Kr (vr (PQ c 0) rfl) (oS rfl (Yk.cell1 DB rfl (vr (PQ c 0) rfl) (Ac a (show(refsC x)[0]? =some (x.2.branches:Value)from CN x)) (oS rfl (Yk.clo IK (caps:= #[PQ b 0]) (vr (.func (.func 87) #[] #[PQ b 0]) rfl) #[B8 (1),x.2.branches,PQ b 0] (by simp only[List.map_toArray,List.map_cons,List.map_nil,List.append_toArray,List.cons_append,List.nil_append];exact congrArg List.toArray (Jk (vr (B8 (1)) rfl) (vr x.2.branches rfl) rfl)) ((KS i _ j b hgb_ (Value.slice none 0 0) ([]) f u (fun h=>by cases h) 1 x.2.branches (x.1.branches) hq22 (by simp only[List.length_map,List.length_append,List.length_nil];omega)).mono ?_)))))))))))))))))))
 rintro e y ⟨ao,rfl,z,aa,ap,ab⟩
 refine⟨_,rfl,?_⟩
 have a:y.heap[c]? =some (.cells (refsC x).toArray 53 (0,0)):=eb ab hq24
 have j:Ext i y:=ab
 clear f
 clear u
 have f:=z;clear z
 refine oZ (tN (an _ _ (sk fun bg aq=>(wt (oM rfl (oS rfl (Yk.fieldAt Ks (vr (PQ c 0) rfl) (oS rfl (Yk.cell1 DB rfl (vr (PQ c 1) rfl) (Ac a (show(refsC x)[1]? =some (x.2.tags:Value)from CO x)) (oS rfl (Yk.clo IK (caps:= #[PQ b 0]) (vr (.func (.func 87) #[] #[PQ b 0]) rfl) #[B8 (2),x.2.tags,PQ b 0] (by simp only[List.map_toArray,List.map_cons,List.map_nil,List.append_toArray,List.cons_append,List.nil_append];exact congrArg List.toArray (Jk (vr (B8 (2)) rfl) (vr x.2.tags rfl) rfl)) ((KS i _ j b hgb_ ao (([]:List AO)++(x.1.branches).map (By 1)) f aa ap 2 x.2.tags (x.1.tags) hq23 (by simp only[List.length_map,List.length_append,List.length_nil];omega)).mono ?_))))))))))))
 rintro e bh ⟨l,rfl,ac,ar,bi,au⟩
 refine⟨_,rfl,?_⟩
 have hE:=al.trans au
 clear f
 clear aa
 have f:=ac;clear ac
 refine oZ (tN (aq _ _ (sk fun bj av=>(wt (oS rfl (Yk.cell1 DS rfl (vr (PQ b 0) rfl) (Ac f (show _=some (l:Value)from rfl)) (oA rfl (oZ (tN (av _ _ (Ap (Ao (fn:=Tryd.f36) _ rfl [l] (l) rfl ⟨rfl,trivial⟩ ?_))))))))))))
 exact⟨_,rfl,RG.ofOwn (CL ar (by unfold ofB;rw[hR];rfl)),hE⟩
open Go.RowKit
set_option maxRecDepth 100000
theorem IL{α:Type}{l:List α}{i:Nat}{d:α}(h:i<l.length):l.take i++ [l.getD i d]=l.take (i+1):=by
 rw[List.take_add_one,List.getElem?_eq_getElem h,List.getD_eq_getElem?_getD,List.getElem?_eq_getElem h];rfl
theorem IM{d:Option Tmp}{ty:TypeId}{pos:String}{af:Array Edge}{gd:Option (Nat × Bool)}(σ:Operand→Value)(w:World):(execOp σ ⟨d, .alloc 53,ty,pos,af,gd⟩).run Tryd.prog w = .ok (.value (PQ w.heap.size 0)) (w.alloc (.cells (refsC ((⟨[],[],[],zid,[]⟩,⟨.slice none 0 0, .slice none 0 0, .slice none 0 0⟩):Ay)).toArray 53)):=by kernel_rfl
theorem E9:AJ Tryd.prog 49 0 0:=fun b o w=>by simp[go_sem]
theorem Cb:Tryd.prog.underlying 46=some (.slice 69):=by kernel_rfl
theorem Ep:∀w' :World,(sizeOf 69).run Tryd.prog w' = .ok 33 w' :=fun _=>by kernel_rfl
theorem G1:AJ Tryd.prog 69 0 0:=fun b o w=>by simp[go_sem]
theorem G2:AJ Tryd.prog 69 1 1:=fun b o w=>by simp[go_sem]
theorem Il(z0:ByteArray)(c1_0 c1_1 c1_2 c1_3 c1_4 c1_5 c1_6 c1_7 c1_8 c1_9 c1_10 c1_11 c1_12 c1_13 c1_14 c1_15 c1_16 c1_17 c1_18 c1_19 c1_20 c1_21 c1_22 c1_23 c1_24 c1_25 c1_26 c1_27 c1_28 c1_29 c1_30 c1_31:Value)(w:World):(Instr.build 70 #[(0, .string z0),(1, .agg #[c1_0,c1_1,c1_2,c1_3,c1_4,c1_5,c1_6,c1_7,c1_8,c1_9,c1_10,c1_11,c1_12,c1_13,c1_14,c1_15,c1_16,c1_17,c1_18,c1_19,c1_20,c1_21,c1_22,c1_23,c1_24,c1_25,c1_26,c1_27,c1_28,c1_29,c1_30,c1_31])]).run Tryd.prog w = .ok (.agg #[.string z0,c1_0,c1_1,c1_2,c1_3,c1_4,c1_5,c1_6,c1_7,c1_8,c1_9,c1_10,c1_11,c1_12,c1_13,c1_14,c1_15,c1_16,c1_17,c1_18,c1_19,c1_20,c1_21,c1_22,c1_23,c1_24,c1_25,c1_26,c1_27,c1_28,c1_29,c1_30,c1_31]) w:=by kernel_rfl
theorem FW(z0:List UInt8)(z1:BZ)(w:World):(Instr.build 70 #[(0,St z0),(1,AB z1.1)]).run Tryd.prog w = .ok (.agg (St (z0) :: (Lib.byteCells z1.1)).toArray) w:=by
 obtain⟨z1,k1⟩:=z1
 obtain⟨a1_0,a1_1,a1_2,a1_3,a1_4,a1_5,a1_6,a1_7,a1_8,a1_9,a1_10,a1_11,a1_12,a1_13,a1_14,a1_15,a1_16,a1_17,a1_18,a1_19,a1_20,a1_21,a1_22,a1_23,a1_24,a1_25,a1_26,a1_27,a1_28,a1_29,a1_30,a1_31,rfl⟩:=Jp k1
 exact Il _ _ _ _ _ _ _ _ _ _ _ _ _ _ _ _ _ _ _ _ _ _ _ _ _ _ _ _ _ _ _ _ _ w
theorem MX(c0 c1 c2 c3 c4 c5 c6 c7 c8 c9 c10 c11 c12 c13 c14 c15 c16 c17 c18 c19 c20 c21 c22 c23 c24 c25 c26 c27 c28 c29 c30 c31 c32:Value)(w:World):(Instr.buildSlice 51 1 #[(0, .agg #[c0,c1,c2,c3,c4,c5,c6,c7,c8,c9,c10,c11,c12,c13,c14,c15,c16,c17,c18,c19,c20,c21,c22,c23,c24,c25,c26,c27,c28,c29,c30,c31,c32])]).run Tryd.prog w = .ok (.slice (some ⟨w.heap.size,0,none⟩) 1 1) (w.alloc (.cells #[c0,c1,c2,c3,c4,c5,c6,c7,c8,c9,c10,c11,c12,c13,c14,c15,c16,c17,c18,c19,c20,c21,c22,c23,c24,c25,c26,c27,c28,c29,c30,c31,c32] 70)):=by kernel_rfl
theorem IN:∀(cs:Array Value),cs.size=33→∀w:World,(Instr.buildSlice 51 1 #[(0, .agg cs)]).run Tryd.prog w = .ok (.slice (some ⟨w.heap.size,0,none⟩) 1 1) (w.alloc (.cells cs 70))
 | ⟨c0 :: c1 :: c2 :: c3 :: c4 :: c5 :: c6 :: c7 :: c8 :: c9 :: c10 :: c11 :: c12 :: c13 :: c14 :: c15 :: c16 :: c17 :: c18 :: c19 :: c20 :: c21 :: c22 :: c23 :: c24 :: c25 :: c26 :: c27 :: c28 :: c29 :: c30 :: c31 :: c32 :: []⟩,_,w=>MX c0 c1 c2 c3 c4 c5 c6 c7 c8 c9 c10 c11 c12 c13 c14 c15 c16 c17 c18 c19 c20 c21 c22 c23 c24 c25 c26 c27 c28 c29 c30 c31 c32 w
theorem wr23_ig70:∃z,(Tryd.prog.info? 70).map (fun i=>(i.zero,i.size,i.bytes))=some (some z,33,48)∧z.cells.size=33:=Fu (by kernel_rfl)
theorem H3:(Tryd.prog.info? 51).map (·.size)=some 1:=by kernel_rfl
theorem Fa:AJ Tryd.prog 49 1 1:=fun b o w=>by simp[go_sem]
theorem KC:AJ Tryd.prog 49 2 2:=fun b o w=>by simp[go_sem]
theorem KD:AJ Tryd.prog 49 3 3:=fun b o w=>by simp[go_sem]
theorem MY:(Tryd.prog.info? 9).map (·.size)=some 1:=by kernel_rfl
theorem KE:AJ Tryd.prog 49 4 35:=fun b o w=>by simp[go_sem]
theorem wr23_ig122:∃z,(Tryd.prog.info? 122).map (fun i=>(i.zero,i.size,i.bytes))=some (some z,67,104)∧z.cells.size=67:=Fu (by kernel_rfl)
theorem LP:(Tryd.prog.info? 47).map (·.size)=some 1:=by kernel_rfl
set_option maxHeartbeats 1600000
theorem LQ(w:World)(y:Ay)(hm:RefsAt w y)(hc:y.1.branches.length≤80∧y.1.tags.length≤80∧y.1.log.length≤80):
  Calls Tryd.prog 37 #[.agg (refsC y).toArray] w fun e w' =>∃z,e = .returned (.agg (refsC (y.1,z)).toArray)∧RefsAt w' (y.1,z)∧Ext w w' :=by
 have hmt:=hm.branches
 have hmg:=hm.tags
 have hml:=hm.log
 obtain⟨az,d5,d6⟩:=hc
 refine calls_of_wpF (args:= [.agg (refsC y).toArray]) Tryd.func37 rfl 69 rfl (Nat.le_of_ble_eq_true rfl) ?_
 intro b1 hb
 have r:b1 0=(.agg (refsC y).toArray:Value):=hb.get 0
 clear hb
 have hE:=Ext.refl w
 refine sk fun K1 b2=>(wt (oS rfl (Yk.box (cs:=(refsC y:List Value).toArray) r fun l w3 d8 a9 b3 d9=> ?_)))
 have hE:=hE.trans b3
 have c:=a9;clear a9
 have ea:l<w3.heap.size:=by omega
 refine oS rfl (Yk.alloc (cs:=(refsC ((⟨[],[],[],zid,[]⟩,⟨.slice none 0 0, .slice none 0 0, .slice none 0 0⟩):Ay)).toArray) IM fun u b4 b5 ba a0 ec=> ?_)
 have ax:=Ext.refl w3
 have b6:=hE.size
 have ed:=Bn (bl c) b5
 have hE:=hE.trans a0
 have c:=eb a0 c
 have ax:=ax.trans a0
 have f:=ba;clear ba
 have ee:u<b4.heap.size:=by omega
 refine oZ (tN (b2 _ _ (sk fun ef b7=>(wt (oS rfl (Yk.alloc (cs:=(refsC ((⟨[],[],[],zid,[]⟩,⟨.slice none 0 0, .slice none 0 0, .slice none 0 0⟩):Ay)).toArray) IM fun j b8 bb bc a1 eg=> ?_))))))
 have ak:=hE.size
 have eh:=ax.size
 have ei:=Bn (bl c) bb
 have ej:=Bn (bl f) bb
 have hE:=hE.trans a1
 have c:=eb a1 c
 have f:=eb a1 f
 have bd:=bc;clear bc
 have el:j<b8.heap.size:=by omega
 refine oZ (tN (b7 _ _ (sk fun em b9=>(sk fun en ca=>(wt (oA rfl (Be [(0, .agg (refsC y).toArray),(1,PQ l 0),(2,PQ u 0),(3,PQ j 0),(4,NI 0)] ⟨r,rfl,rfl,rfl,rfl,trivial⟩ fun eo ⟨r,o,t,p,q,_⟩=>(tN (ca _ _ (Ax (Bc (fun(ρ:At) (wz:World)=>∃i1:Nat,∃vb1:Value,ρ 0=(.agg (refsC y).toArray:Value)∧ρ 1=(PQ l 0:Value)∧ρ 2=(PQ u 0:Value)∧ρ 3=(PQ j 0:Value)∧ρ 4=(NI i1:Value)∧Ext w wz∧wz.heap[l]? =some (.cells (refsC y).toArray 49 (0,0))∧wz.heap[u]? =some (.cells (refsC ((⟨[],[],[],zid,[]⟩,⟨.slice none 0 0, .slice none 0 0, .slice none 0 0⟩):Ay)).toArray 53 (0,0))∧wz.heap[j]? =some (.cells (refsC ((⟨(y.1.branches.take i1),[],(((⟨[],[],[],zid,[]⟩,⟨.slice none 0 0, .slice none 0 0, .slice none 0 0⟩):Ay)).1.head,(((⟨[],[],[],zid,[]⟩,⟨.slice none 0 0, .slice none 0 0, .slice none 0 0⟩):Ay)).1.at_,[]⟩,⟨vb1,(Value.slice none 0 0),(Value.slice none 0 0)⟩):Ay)).toArray 53 (0,0))∧OG w.heap.size 70 33 (nmdC) wz vb1 (y.1.branches.take i1)∧(i1≤y.1.branches.length)∧(OB vb1 l)∧(OB vb1 u)∧(OB vb1 j)∧True) (fun ρ _=>y.1.branches.length-(intOf (ρ 4)).toNat) ⟨0,(Value.slice none 0 0),r,o,t,p,q,hE,c,f,bd,OG.nil _ _ _ _ _,Nat.zero_le _,(fun h=>by cases h),(fun h=>by cases h),(fun h=>by cases h),trivial⟩ ?_)))))))))))
 clear ax
 clear bd
 clear hE c f
 rintro cb ep ⟨i1,vb1,r,o,t,p,q,hE,c,f,hm1,g,hi1,hap_vb1_n2,hap_vb1_n10,hap_vb1_n23,-⟩
 have q4:=q
 have eq:=(bl c)
 have er:=(bl f)
 have es:=(bl hm1)
 refine sk fun et cc=>(sk fun eu cd=>(wt (oM rfl (oS rfl (Yk.fieldAt E9 o (oS rfl (Yk.cell1 Cb rfl (vr (PQ l 0) rfl) (Ac c (show(refsC y)[0]? =some (y.2.branches:Value)from CN y)) (oS rfl (Yk.lenRG Cb (RG.of (hmt.keep hE) (vr y.2.branches rfl)) (oS rfl (Yk.eqI (a:=(i1:Nat)) (b:=((y.1.branches).length:Nat)) q rfl (AZ _ _ _ _) (oZ (tN (cd _ _ ?_))))))))))))))
 refine A2 ((i1)<((y.1.branches).length)) (vr (.bool (decide ((i1)<((y.1.branches).length)))) rfl) (fun be=> ?_) (fun be=> ?_)
 ·have ce:i1<y.1.branches.length:=be
  refine Ak (tN (cc _ _ (sk fun ew cf=>(Ax ?_))))
  refine DJ 16 [Is (PQ j 0),Is (vb1),Is (PQ l 0),Is (y.2.branches),Is (NI i1),fun x w' =>PR (nmdC ((y.1.branches).getD (i1) Af)) x w',BD (St (((y.1.branches).getD (i1) Af).name)),Is (St (((y.1.branches).getD (i1) Af).name)),Is (PQ l 0),Is (y.2.branches),Is (NI i1),fun x w' =>PR (nmdC ((y.1.branches).getD (i1) Af)) x w',fun x w' =>PR (Lib.byteCells ((y.1.branches).getD (i1) Af).id.1) x w',Is (AB (((y.1.branches).getD (i1) Af).id.1)),Is (.agg (nmdC (⟨(((y.1.branches).getD (i1) Af).name),((y.1.branches).getD (i1) Af).id⟩:BC)).toArray),fun x w' =>RG 33 (nmdC) w' x ([(⟨(((y.1.branches).getD (i1) Af).name),((y.1.branches).getD (i1) Af).id⟩:BC)])] (by kernel_rfl) [13,14,15,16,17,18,19,20,21,22,23,24,25,26,27,28,29,30] (by kernel_rfl) (by kernel_rfl) (by kernel_rfl) (by kernel_rfl) rfl rfl (Jn ⟨(fun _ _ _ h k=>PR.keep h k),Stab.pcell _,(EG ⟨(fun _ _ _ h k=>PR.keep h k),(fun _ _ _ h k=>PR.keep h k),(Cz ⟨(fun _ _ _ h k=>RG.keep h k),trivial⟩)⟩)⟩) ?cg ?hQ2005
  case cg=>
   refine⟨?_,?_,?_,?_,?_,?_,?_,?_,?_,?_,?_,?_,?_,?_,?_,?_,?_,?_,?_,trivial⟩
   ·refine Av (Aa rfl fun σ w1 hC h=> ?_)
    have e3:=(Ad (h 3 (by decide))).trans p
    exact Yk.fieldAt Kr e3 ⟨Ext.refl _,rfl⟩
   ·refine Av (Aa rfl fun σ w1 hC h=> ?_)
    have ch:=Ad (h 13 (by decide))
    exact Yk.cell1 DB rfl ch (Ac (eb hC hm1) (show(refsC ((⟨(y.1.branches.take i1),[],(((⟨[],[],[],zid,[]⟩,⟨.slice none 0 0, .slice none 0 0, .slice none 0 0⟩):Ay)).1.head,(((⟨[],[],[],zid,[]⟩,⟨.slice none 0 0, .slice none 0 0, .slice none 0 0⟩):Ay)).1.at_,[]⟩,⟨vb1,(Value.slice none 0 0),(Value.slice none 0 0)⟩):Ay))[0]? =some (vb1:Value)from CN ((⟨(y.1.branches.take i1),[],(((⟨[],[],[],zid,[]⟩,⟨.slice none 0 0, .slice none 0 0, .slice none 0 0⟩):Ay)).1.head,(((⟨[],[],[],zid,[]⟩,⟨.slice none 0 0, .slice none 0 0, .slice none 0 0⟩):Ay)).1.at_,[]⟩,⟨vb1,(Value.slice none 0 0),(Value.slice none 0 0)⟩):Ay))) ⟨Ext.refl _,rfl⟩
   ·refine Av (Aa rfl fun σ w1 hC h=> ?_)
    have e1:=(Ad (h 1 (by decide))).trans o
    exact Yk.fieldAt E9 e1 ⟨Ext.refl _,rfl⟩
   ·refine Av (Aa rfl fun σ w1 hC h=> ?_)
    have ci:=Ad (h 15 (by decide))
    exact Yk.cell1 Cb rfl ci (Ac (eb hC c) (show(refsC y)[0]? =some (y.2.branches:Value)from CN y)) ⟨Ext.refl _,rfl⟩
   ·refine Av (Aa rfl fun σ w1 hC h=> ?_)
    have e4:=(Ad (h 4 (by decide))).trans q
    exact Yk.move e4 ⟨Ext.refl _,rfl⟩
   ·refine Av (Aa rfl fun σ w1 hC h=> ?_)
    have cj:=Ad (h 16 (by decide))
    have ck:=Ad (h 17 (by decide))
    exact Yk.atRG Cb Ep (by decide) Af (RG.of (hmt.keep (hE.trans hC)) cj) ck (by omega) fun v h=>⟨Ext.refl _,h⟩
   ·refine Av (Aa rfl fun σ w1 hC h=> ?_)
    have cl:(fun x w' =>PR (nmdC ((y.1.branches).getD (i1) Af)) x w') (σ 18) w1:=h 18 (by decide)
    exact Yk.fieldPR (n:=1) G1 cl fun v h=>⟨Ext.refl _,PR.pcell (by rw[D3]at h;exact h)⟩
   ·refine Av (Aa rfl fun σ w1 hC h=> ?_)
    have cm:(BD (St (((y.1.branches).getD (i1) Af).name))) (σ 19) w1:=h 19 (by decide)
    exact Yk.loadC Dx rfl cm ⟨Ext.refl _,rfl⟩
   ·refine Av (Aa rfl fun σ w1 hC h=> ?_)
    have e1:=(Ad (h 1 (by decide))).trans o
    exact Yk.fieldAt E9 e1 ⟨Ext.refl _,rfl⟩
   ·refine Av (Aa rfl fun σ w1 hC h=> ?_)
    have cn:=Ad (h 21 (by decide))
    exact Yk.cell1 Cb rfl cn (Ac (eb hC c) (show(refsC y)[0]? =some (y.2.branches:Value)from CN y)) ⟨Ext.refl _,rfl⟩
   ·refine Av (Aa rfl fun σ w1 hC h=> ?_)
    have e4:=(Ad (h 4 (by decide))).trans q
    exact Yk.move e4 ⟨Ext.refl _,rfl⟩
   ·refine Av (Aa rfl fun σ w1 hC h=> ?_)
    have co:=Ad (h 22 (by decide))
    have cp:=Ad (h 23 (by decide))
    exact Yk.atRG Cb Ep (by decide) Af (RG.of (hmt.keep (hE.trans hC)) co) cp (by omega) fun v h=>⟨Ext.refl _,h⟩
   ·refine Av (Aa rfl fun σ w1 hC h=> ?_)
    have cq:(fun x w' =>PR (nmdC ((y.1.branches).getD (i1) Af)) x w') (σ 24) w1:=h 24 (by decide)
    exact Yk.fieldPR (n:=32) G2 cq fun v h=>⟨Ext.refl _,by rw[F8]at h;exact h⟩
   ·refine Av (Aa rfl fun σ w1 hC h=> ?_)
    have cr:(fun x w' =>PR (Lib.byteCells ((y.1.branches).getD (i1) Af).id.1) x w') (σ 25) w1:=h 25 (by decide)
    exact Yk.loadPR cr OA rfl (by rw[Lib.byteCells_length,((y.1.branches).getD (i1) Af).id.2];exact Mx) ⟨Ext.refl _,rfl⟩
   ·refine Av (Aa rfl fun σ w1 hC h=> ?_)
    have ct:=Ad (h 20 (by decide))
    have cu:=Ad (h 26 (by decide))
    exact Yk.build2 ct cu (fun w=>FW (((y.1.branches).getD (i1) Af).name) (((y.1.branches).getD (i1) Af).id) w) ⟨Ext.refl _,rfl⟩
   ·refine Av (Aa rfl fun σ w1 hC h=> ?_)
    have cv:=Ad (h 27 (by decide))
    exact Yk.lit1G (a:=(⟨(((y.1.branches).getD (i1) Af).name),((y.1.branches).getD (i1) Af).id⟩:BC)) (enc:=nmdC) cv (C4 _) IN fun v w2 h hx=>⟨hx,h⟩
   ·exact trivial
   ·exact trivial
   ·exact trivial
  intro a4 bf al he hf
  obtain⟨-,k14,-,-,-,-,-,-,-,-,-,-,-,-,-,k28,-⟩:=hf
  obtain⟨r,o,t,p,q,-⟩:=he.hold [(0,_),(1,_),(2,_),(3,_),(4,_)] ⟨r,o,t,p,q,trivial⟩ rfl
  clear he
  have hE:=hE.trans al
  have c:=eb al c
  have f:=eb al f
  have hm1:=eb al hm1
  have g:=g.keep al
  have bg:a4 14=vb1:=k14
  have k28:(fun x w' =>RG 33 (nmdC) w' x ([(⟨(((y.1.branches).getD (i1) Af).name),((y.1.branches).getD (i1) Af).id⟩:BC)])) (a4 28) bf:=k28
  obtain⟨ex,bh⟩:∃v,a4 28=v:=⟨_,rfl⟩
  rw[bh]at k28
  have bi:=k28;clear k28
  clear k14
  refine oS rfl (Yk.appendRG _ _ w.heap.size _ 48 DB wr23_ig70.choose_spec.1 wr23_ig70.choose_spec.2 DB (y.1.branches.take i1) ([(⟨(((y.1.branches).getD (i1) Af).name),((y.1.branches).getD (i1) Af).id⟩:BC)]) (OG.of g bg) (RG.of bi bh) (fun _ _=>Gz) (by simp only[List.length_take,List.length_append,List.length_cons,List.length_nil];omega) (by simp only[List.length_take,List.length_append,List.length_cons,List.length_nil];omega) hE.size fun ag cx am ah=> ?_)
  have ah:Grew bf cx vb1 ag:= .eqv bg ah
  have cy:OB ag l:=AV ah hap_vb1_n2 (bl c)
  have cz:OB ag u:=AV ah hap_vb1_n10 (bl f)
  have bj:OB ag j:=AV ah hap_vb1_n23 (bl hm1)
  have hE:=BG hE ah g.2 (Nat.le_refl _)
  have c:=AR c ah hap_vb1_n2
  have f:=AR f ah hap_vb1_n10
  have hm1:=AR hm1 ah hap_vb1_n23
  clear g
  clear bi
  refine oS rfl (Yk.fieldAt Kr p (oS rfl (Yk.storeC (i:=0) (v:=ag) (vr (PQ j 0) rfl) (vr ag rfl) hm1 (by rw[B5];decide) H3 (RG.one (RG.ofOwn am)).1 (RG.one (RG.ofOwn am)).2 fun c0 bk ay ey=> ?_)))
  have hE:=Ae hE ay (Nat.le_trans ak (by omega))
  have c:=kb ay c (by omega)
  have f:=kb ay f (by omega)
  clear hm1
  have am:=OG.kept am ay bj
  have hm1:c0.heap[j]? =some (.cells (refsC ((⟨(y.1.branches.take i1)++ [(⟨(((y.1.branches).getD (i1) Af).name),((y.1.branches).getD (i1) Af).id⟩:BC)],[],(((⟨[],[],[],zid,[]⟩,⟨.slice none 0 0, .slice none 0 0, .slice none 0 0⟩):Ay)).1.head,(((⟨[],[],[],zid,[]⟩,⟨.slice none 0 0, .slice none 0 0, .slice none 0 0⟩):Ay)).1.at_,[]⟩,⟨ag,(Value.slice none 0 0),(Value.slice none 0 0)⟩):Ay)).toArray 53 (0,0)):=Bf bk (OV ((⟨(y.1.branches.take i1),[],(((⟨[],[],[],zid,[]⟩,⟨.slice none 0 0, .slice none 0 0, .slice none 0 0⟩):Ay)).1.head,(((⟨[],[],[],zid,[]⟩,⟨.slice none 0 0, .slice none 0 0, .slice none 0 0⟩):Ay)).1.at_,[]⟩,⟨vb1,(Value.slice none 0 0),(Value.slice none 0 0)⟩):Ay) ag ((y.1.branches.take i1)++ [(⟨(((y.1.branches).getD (i1) Af).name),((y.1.branches).getD (i1) Af).id⟩:BC)]));clear bk
  have ez:=bl hm1
  refine oZ (bN (tN (cf _ _ (wt (oM rfl (oS rfl (Yk.bin (xv:=NI i1) (yv:=NI 1) q rfl rfl (AN _ _ _ (by omega)) (oA rfl (Be [(0, .agg (refsC y).toArray),(1,PQ l 0),(2,PQ u 0),(3,PQ j 0),(4,NI ((i1)+(1)))] ⟨r,o,t,p,rfl,trivial⟩ fun c1 ⟨r,o,t,p,q,_⟩=>(tN (And.intro ⟨i1+1,ag,r,o,t,p,q,hE,c,f,hm1,CL am (IL ce),by omega,cy,cz,bj,trivial⟩ ?_)))))))))))
  show y.1.branches.length-(intOf (c1 4)).toNat<y.1.branches.length-(intOf (cb 4)).toNat
  rw[q,q4]
  simp only[intOf,Int.toNat_natCast];omega
 refine A6 (Aw (Aw (AM (tN (b9 _ _ (sk fun e0 c2=>(sk fun e6 c3=>(wt (oA rfl (Be [(0, .agg (refsC y).toArray),(1,PQ l 0),(2,PQ u 0),(3,PQ j 0),(4,NI i1),(5,NI 0)] ⟨r,o,t,p,q,rfl,trivial⟩ fun e7 ⟨r,o,t,p,q,T5,_⟩=>(tN (c3 _ _ (Ax (Bc (fun(ρ:At) (wz:World)=>∃i2:Nat,∃vb2:Value,ρ 0=(.agg (refsC y).toArray:Value)∧ρ 1=(PQ l 0:Value)∧ρ 2=(PQ u 0:Value)∧ρ 3=(PQ j 0:Value)∧ρ 4=(NI i1:Value)∧ρ 5=(NI i2:Value)∧Ext w wz∧wz.heap[l]? =some (.cells (refsC y).toArray 49 (0,0))∧wz.heap[u]? =some (.cells (refsC ((⟨[],[],[],zid,[]⟩,⟨.slice none 0 0, .slice none 0 0, .slice none 0 0⟩):Ay)).toArray 53 (0,0))∧OG w.heap.size 70 33 (nmdC) wz vb1 (y.1.branches.take i1)∧wz.heap[j]? =some (.cells (refsC ((⟨(y.1.branches.take i1),(y.1.tags.take i2),(((⟨[],[],[],zid,[]⟩,⟨.slice none 0 0, .slice none 0 0, .slice none 0 0⟩):Ay)).1.head,(((⟨[],[],[],zid,[]⟩,⟨.slice none 0 0, .slice none 0 0, .slice none 0 0⟩):Ay)).1.at_,[]⟩,⟨vb1,vb2,(Value.slice none 0 0)⟩):Ay)).toArray 53 (0,0))∧OG w.heap.size 70 33 (nmdC) wz vb2 (y.1.tags.take i2)∧(i2≤y.1.tags.length)∧(OB vb2 l)∧(OB vb2 u)∧(OB vb2 j)∧(ApartV vb2 vb1)∧True) (fun ρ _=>y.1.tags.length-(intOf (ρ 5)).toNat) ⟨0,(Value.slice none 0 0),r,o,t,p,q,T5,hE,c,f,g,hm1,OG.nil _ _ _ _ _,Nat.zero_le _,(fun h=>by cases h),(fun h=>by cases h),(fun h=>by cases h),(fun k h=>by cases h),trivial⟩ ?_))))))))))))))
 clear hm1
 clear hE c f g
 rintro c4 bm ⟨i2,vb2,r,o,t,p,q,T5,hE,c,f,g,hm2,s,hi2,hap_vb2_n2,hap_vb2_n10,hap_vb2_n23,hap_vb2_vb1,-⟩
 have q5:=T5
 have e8:=(bl c)
 have e9:=(bl f)
 have fa:=(bl hm2)
 refine sk fun fb c5=>(sk fun fc c6=>(wt (oM rfl (oS rfl (Yk.fieldAt Fa o (oS rfl (Yk.cell1 Cb rfl (vr (PQ l 1) rfl) (Ac c (show(refsC y)[1]? =some (y.2.tags:Value)from CO y)) (oS rfl (Yk.lenRG Cb (RG.of (hmg.keep hE) (vr y.2.tags rfl)) (oS rfl (Yk.eqI (a:=(i2:Nat)) (b:=((y.1.tags).length:Nat)) T5 rfl (AZ _ _ _ _) (oZ (tN (c6 _ _ ?_))))))))))))))
 refine A2 ((i2)<((y.1.tags).length)) (vr (.bool (decide ((i2)<((y.1.tags).length)))) rfl) (fun az=> ?_) (fun az=> ?_)
 ·have c7:i2<y.1.tags.length:=az
  refine Ak (tN (c5 _ _ (sk fun fd c8=>(Ax ?_))))
  refine DJ 16 [Is (PQ j 1),Is (vb2),Is (PQ l 1),Is (y.2.tags),Is (NI i2),fun x w' =>PR (nmdC ((y.1.tags).getD (i2) Af)) x w',BD (St (((y.1.tags).getD (i2) Af).name)),Is (St (((y.1.tags).getD (i2) Af).name)),Is (PQ l 1),Is (y.2.tags),Is (NI i2),fun x w' =>PR (nmdC ((y.1.tags).getD (i2) Af)) x w',fun x w' =>PR (Lib.byteCells ((y.1.tags).getD (i2) Af).id.1) x w',Is (AB (((y.1.tags).getD (i2) Af).id.1)),Is (.agg (nmdC (⟨(((y.1.tags).getD (i2) Af).name),((y.1.tags).getD (i2) Af).id⟩:BC)).toArray),fun x w' =>RG 33 (nmdC) w' x ([(⟨(((y.1.tags).getD (i2) Af).name),((y.1.tags).getD (i2) Af).id⟩:BC)])] (by kernel_rfl) [38,39,40,41,42,43,44,45,46,47,48,49,50,51,52,53,54,55] (by kernel_rfl) (by kernel_rfl) (by kernel_rfl) (by kernel_rfl) rfl rfl (Jn ⟨(fun _ _ _ h k=>PR.keep h k),Stab.pcell _,(EG ⟨(fun _ _ _ h k=>PR.keep h k),(fun _ _ _ h k=>PR.keep h k),(Cz ⟨(fun _ _ _ h k=>RG.keep h k),trivial⟩)⟩)⟩) ?c9 ?hQ3009
  case c9=>
   refine⟨?_,?_,?_,?_,?_,?_,?_,?_,?_,?_,?_,?_,?_,?_,?_,?_,?_,?_,?_,trivial⟩
   ·refine Av (Aa rfl fun σ w1 hC h=> ?_)
    have e3:=(Ad (h 3 (by decide))).trans p
    exact Yk.fieldAt Ks e3 ⟨Ext.refl _,rfl⟩
   ·refine Av (Aa rfl fun σ w1 hC h=> ?_)
    have da:=Ad (h 38 (by decide))
    exact Yk.cell1 DB rfl da (Ac (eb hC hm2) (show(refsC ((⟨(y.1.branches.take i1),(y.1.tags.take i2),(((⟨[],[],[],zid,[]⟩,⟨.slice none 0 0, .slice none 0 0, .slice none 0 0⟩):Ay)).1.head,(((⟨[],[],[],zid,[]⟩,⟨.slice none 0 0, .slice none 0 0, .slice none 0 0⟩):Ay)).1.at_,[]⟩,⟨vb1,vb2,(Value.slice none 0 0)⟩):Ay))[1]? =some (vb2:Value)from CO ((⟨(y.1.branches.take i1),(y.1.tags.take i2),(((⟨[],[],[],zid,[]⟩,⟨.slice none 0 0, .slice none 0 0, .slice none 0 0⟩):Ay)).1.head,(((⟨[],[],[],zid,[]⟩,⟨.slice none 0 0, .slice none 0 0, .slice none 0 0⟩):Ay)).1.at_,[]⟩,⟨vb1,vb2,(Value.slice none 0 0)⟩):Ay))) ⟨Ext.refl _,rfl⟩
   ·refine Av (Aa rfl fun σ w1 hC h=> ?_)
    have e1:=(Ad (h 1 (by decide))).trans o
    exact Yk.fieldAt Fa e1 ⟨Ext.refl _,rfl⟩
   ·refine Av (Aa rfl fun σ w1 hC h=> ?_)
    have db:=Ad (h 40 (by decide))
    exact Yk.cell1 Cb rfl db (Ac (eb hC c) (show(refsC y)[1]? =some (y.2.tags:Value)from CO y)) ⟨Ext.refl _,rfl⟩
   ·refine Av (Aa rfl fun σ w1 hC h=> ?_)
    have e5:=(Ad (h 5 (by decide))).trans T5
    exact Yk.move e5 ⟨Ext.refl _,rfl⟩
   ·refine Av (Aa rfl fun σ w1 hC h=> ?_)
    have dc:=Ad (h 41 (by decide))
    have dd:=Ad (h 42 (by decide))
    exact Yk.atRG Cb Ep (by decide) Af (RG.of (hmg.keep (hE.trans hC)) dc) dd (by omega) fun v h=>⟨Ext.refl _,h⟩
   ·refine Av (Aa rfl fun σ w1 hC h=> ?_)
    have de:(fun x w' =>PR (nmdC ((y.1.tags).getD (i2) Af)) x w') (σ 43) w1:=h 43 (by decide)
    exact Yk.fieldPR (n:=1) G1 de fun v h=>⟨Ext.refl _,PR.pcell (by rw[D3]at h;exact h)⟩
   ·refine Av (Aa rfl fun σ w1 hC h=> ?_)
    have df:(BD (St (((y.1.tags).getD (i2) Af).name))) (σ 44) w1:=h 44 (by decide)
    exact Yk.loadC Dx rfl df ⟨Ext.refl _,rfl⟩
   ·refine Av (Aa rfl fun σ w1 hC h=> ?_)
    have e1:=(Ad (h 1 (by decide))).trans o
    exact Yk.fieldAt Fa e1 ⟨Ext.refl _,rfl⟩
   ·refine Av (Aa rfl fun σ w1 hC h=> ?_)
    have dg:=Ad (h 46 (by decide))
    exact Yk.cell1 Cb rfl dg (Ac (eb hC c) (show(refsC y)[1]? =some (y.2.tags:Value)from CO y)) ⟨Ext.refl _,rfl⟩
   ·refine Av (Aa rfl fun σ w1 hC h=> ?_)
    have e5:=(Ad (h 5 (by decide))).trans T5
    exact Yk.move e5 ⟨Ext.refl _,rfl⟩
   ·refine Av (Aa rfl fun σ w1 hC h=> ?_)
    have dh:=Ad (h 47 (by decide))
    have di:=Ad (h 48 (by decide))
    exact Yk.atRG Cb Ep (by decide) Af (RG.of (hmg.keep (hE.trans hC)) dh) di (by omega) fun v h=>⟨Ext.refl _,h⟩
   ·refine Av (Aa rfl fun σ w1 hC h=> ?_)
    have dj:(fun x w' =>PR (nmdC ((y.1.tags).getD (i2) Af)) x w') (σ 49) w1:=h 49 (by decide)
    exact Yk.fieldPR (n:=32) G2 dj fun v h=>⟨Ext.refl _,by rw[F8]at h;exact h⟩
   ·refine Av (Aa rfl fun σ w1 hC h=> ?_)
    have dk:(fun x w' =>PR (Lib.byteCells ((y.1.tags).getD (i2) Af).id.1) x w') (σ 50) w1:=h 50 (by decide)
    exact Yk.loadPR dk OA rfl (by rw[Lib.byteCells_length,((y.1.tags).getD (i2) Af).id.2];exact Mx) ⟨Ext.refl _,rfl⟩
   ·refine Av (Aa rfl fun σ w1 hC h=> ?_)
    have dl:=Ad (h 45 (by decide))
    have dm:=Ad (h 51 (by decide))
    exact Yk.build2 dl dm (fun w=>FW (((y.1.tags).getD (i2) Af).name) (((y.1.tags).getD (i2) Af).id) w) ⟨Ext.refl _,rfl⟩
   ·refine Av (Aa rfl fun σ w1 hC h=> ?_)
    have dn:=Ad (h 52 (by decide))
    exact Yk.lit1G (a:=(⟨(((y.1.tags).getD (i2) Af).name),((y.1.tags).getD (i2) Af).id⟩:BC)) (enc:=nmdC) dn (C4 _) IN fun v w2 h hx=>⟨hx,h⟩
   ·exact trivial
   ·exact trivial
   ·exact trivial
  intro a6 bn ai he hf
  obtain⟨-,k39,-,-,-,-,-,-,-,-,-,-,-,-,-,k53,-⟩:=hf
  obtain⟨r,o,t,p,q,T5,-⟩:=he.hold [(0,_),(1,_),(2,_),(3,_),(4,_),(5,_)] ⟨r,o,t,p,q,T5,trivial⟩ rfl
  clear he
  have hE:=hE.trans ai
  have c:=eb ai c
  have f:=eb ai f
  have g:=g.keep ai
  have hm2:=eb ai hm2
  have s:=s.keep ai
  have bo:a6 39=vb2:=k39
  have k53:(fun x w' =>RG 33 (nmdC) w' x ([(⟨(((y.1.tags).getD (i2) Af).name),((y.1.tags).getD (i2) Af).id⟩:BC)])) (a6 53) bn:=k53
  obtain⟨fe,bp⟩:∃v,a6 53=v:=⟨_,rfl⟩
  rw[bp]at k53
  have bq:=k53;clear k53
  clear k39
  refine oS rfl (Yk.appendRG _ _ w.heap.size _ 48 DB wr23_ig70.choose_spec.1 wr23_ig70.choose_spec.2 DB (y.1.tags.take i2) ([(⟨(((y.1.tags).getD (i2) Af).name),((y.1.tags).getD (i2) Af).id⟩:BC)]) (OG.of s bo) (RG.of bq bp) (fun _ _=>Gz) (by simp only[List.length_take,List.length_append,List.length_cons,List.length_nil];omega) (by simp only[List.length_take,List.length_append,List.length_cons,List.length_nil];omega) hE.size fun ae dp an ac=> ?_)
  have ac:Grew bn dp vb2 ae:= .eqv bo ac
  have dq:OB ae l:=AV ac hap_vb2_n2 (bl c)
  have dr:OB ae u:=AV ac hap_vb2_n10 (bl f)
  have br:OB ae j:=AV ac hap_vb2_n23 (bl hm2)
  have ds:ApartV ae vb1:=GS ac hap_vb2_vb1 g.2
  have hE:=BG hE ac s.2 (Nat.le_refl _)
  have c:=AR c ac hap_vb2_n2
  have f:=AR f ac hap_vb2_n10
  have g:=KQ g ac hap_vb2_vb1
  have hm2:=AR hm2 ac hap_vb2_n23
  clear s
  clear bq
  refine oS rfl (Yk.fieldAt Ks p (oS rfl (Yk.storeC (i:=1) (v:=ae) (vr (PQ j 1) rfl) (vr ae rfl) hm2 (by rw[B5];decide) H3 (RG.one (RG.ofOwn an)).1 (RG.one (RG.ofOwn an)).2 fun dt bs ao ff=> ?_)))
  have hE:=Ae hE ao (Nat.le_trans ak (by omega))
  have c:=kb ao c (by omega)
  have f:=kb ao f (by omega)
  have g:=OG.kept g ao hap_vb1_n23
  clear hm2
  have an:=OG.kept an ao br
  have hm2:dt.heap[j]? =some (.cells (refsC ((⟨(y.1.branches.take i1),(y.1.tags.take i2)++ [(⟨(((y.1.tags).getD (i2) Af).name),((y.1.tags).getD (i2) Af).id⟩:BC)],(((⟨[],[],[],zid,[]⟩,⟨.slice none 0 0, .slice none 0 0, .slice none 0 0⟩):Ay)).1.head,(((⟨[],[],[],zid,[]⟩,⟨.slice none 0 0, .slice none 0 0, .slice none 0 0⟩):Ay)).1.at_,[]⟩,⟨vb1,ae,(Value.slice none 0 0)⟩):Ay)).toArray 53 (0,0)):=Bf bs (OW ((⟨(y.1.branches.take i1),(y.1.tags.take i2),(((⟨[],[],[],zid,[]⟩,⟨.slice none 0 0, .slice none 0 0, .slice none 0 0⟩):Ay)).1.head,(((⟨[],[],[],zid,[]⟩,⟨.slice none 0 0, .slice none 0 0, .slice none 0 0⟩):Ay)).1.at_,[]⟩,⟨vb1,vb2,(Value.slice none 0 0)⟩):Ay) ae ((y.1.tags.take i2)++ [(⟨(((y.1.tags).getD (i2) Af).name),((y.1.tags).getD (i2) Af).id⟩:BC)]));clear bs
  have fg:=bl hm2
  refine oZ (bN (tN (c8 _ _ (wt (oM rfl (oS rfl (Yk.bin (xv:=NI i2) (yv:=NI 1) T5 rfl rfl (AN _ _ _ (by omega)) (oA rfl (Be [(0, .agg (refsC y).toArray),(1,PQ l 0),(2,PQ u 0),(3,PQ j 0),(4,NI i1),(5,NI ((i2)+(1)))] ⟨r,o,t,p,q,rfl,trivial⟩ fun du ⟨r,o,t,p,q,T5,_⟩=>(tN (And.intro ⟨i2+1,ae,r,o,t,p,q,T5,hE,c,f,g,hm2,CL an (IL c7),by omega,dq,dr,br,ds,trivial⟩ ?_)))))))))))
  show y.1.tags.length-(intOf (du 5)).toNat<y.1.tags.length-(intOf (c4 5)).toNat
  rw[T5,q5]
  simp only[intOf,Int.toNat_natCast];omega
 refine A6 (Aw (Aw (AM (tN (c2 _ _ (sk fun fh dv=> ?_))))))
 have aj:Ext bm (World.drew bm):=(Below.refl _ _).drew
 have hE:=hE.trans aj
 have c:=eb aj c
 have f:=eb aj f
 have g:=g.keep aj
 have hm2:=eb aj hm2
 have s:=s.keep aj
 refine D8 [(0,56,PQ l 2),(1,57,St (y.1.head)),(2,58,PQ l 3),(3,59,AB y.1.at_.1),(4,60,PQ j 2),(6,61,PQ j 3)] [5,7] (fun wz=>Ext w wz∧wz.heap[l]? =some (.cells (refsC y).toArray 49 (0,0))∧wz.heap[u]? =some (.cells (refsC ((⟨[],[],[],zid,[]⟩,⟨.slice none 0 0, .slice none 0 0, .slice none 0 0⟩):Ay)).toArray 53 (0,0))∧True) (by kernel_rfl) (by kernel_rfl) (by kernel_rfl) ⟨hE,c,f,trivial⟩ ⟨fun ap ⟨hE,c,f,_⟩=>Yk.fieldAt KC o ⟨rfl,rfl⟩,fun ap ⟨hE,c,f,_⟩=>Yk.cell1 Dx rfl (vr (PQ l 2) rfl) (Ac c (show(refsC y)[2]? =some (St (y.1.head):Value)from DO y)) ⟨rfl,rfl⟩,fun ap ⟨hE,c,f,_⟩=>Yk.fieldAt KD o ⟨rfl,rfl⟩,fun ap ⟨hE,c,f,_⟩=>Yk.loadPR (PR.blk c (DP y) (Ex y) (vr (PQ l 3) rfl)) OA rfl (AH y.1.at_.2) ⟨rfl,rfl⟩,fun ap ⟨hE,c,f,_⟩=>Yk.fieldAt E7 p ⟨rfl,rfl⟩,fun ap ⟨hE,c,f,_⟩=>Yk.fieldAt GW p ⟨rfl,rfl⟩,trivial⟩ (Bm rfl (Yk.storeC (i:=2) (v:=St (y.1.head)) (vr (PQ j 2) rfl) (vr (St (y.1.head)) rfl) hm2 (by rw[B5];decide) MY rfl rfl fun dw bt aq fi=> ?_))
 have hE:=Ae hE aq (Nat.le_trans ak (by omega))
 have c:=kb aq c (by omega)
 have f:=kb aq f (by omega)
 have g:=OG.kept g aq hap_vb1_n23
 clear hm2
 have s:=OG.kept s aq hap_vb2_n23
 have hm2:dw.heap[j]? =some (.cells (refsC ((⟨(y.1.branches.take i1),(y.1.tags.take i2),y.1.head,(((⟨[],[],[],zid,[]⟩,⟨.slice none 0 0, .slice none 0 0, .slice none 0 0⟩):Ay)).1.at_,[]⟩,⟨vb1,vb2,(Value.slice none 0 0)⟩):Ay)).toArray 53 (0,0)):=Bf bt (OX ((⟨(y.1.branches.take i1),(y.1.tags.take i2),(((⟨[],[],[],zid,[]⟩,⟨.slice none 0 0, .slice none 0 0, .slice none 0 0⟩):Ay)).1.head,(((⟨[],[],[],zid,[]⟩,⟨.slice none 0 0, .slice none 0 0, .slice none 0 0⟩):Ay)).1.at_,[]⟩,⟨vb1,vb2,(Value.slice none 0 0)⟩):Ay) y.1.head);clear bt
 have fj:=bl hm2
 refine⟨.inr ⟨hE,c,f,trivial⟩,?_⟩
 refine Bm rfl (Yk.storeMid (a:=Ew ((⟨(y.1.branches.take i1),(y.1.tags.take i2),y.1.head,(((⟨[],[],[],zid,[]⟩,⟨.slice none 0 0, .slice none 0 0, .slice none 0 0⟩):Ay)).1.at_,[]⟩,⟨vb1,vb2,(Value.slice none 0 0)⟩):Ay)) (m:=Lib.byteCells ((((⟨[],[],[],zid,[]⟩,⟨.slice none 0 0, .slice none 0 0, .slice none 0 0⟩):Ay)).1.at_).1) (z:=GA ((⟨(y.1.branches.take i1),(y.1.tags.take i2),y.1.head,(((⟨[],[],[],zid,[]⟩,⟨.slice none 0 0, .slice none 0 0, .slice none 0 0⟩):Ay)).1.at_,[]⟩,⟨vb1,vb2,(Value.slice none 0 0)⟩):Ay)) (cells:=Lib.byteCells y.1.at_.1) (vr (PQ j 3) rfl) (vr (AB y.1.at_.1) rfl) (DP ((⟨(y.1.branches.take i1),(y.1.tags.take i2),y.1.head,(((⟨[],[],[],zid,[]⟩,⟨.slice none 0 0, .slice none 0 0, .slice none 0 0⟩):Ay)).1.at_,[]⟩,⟨vb1,vb2,(Value.slice none 0 0)⟩):Ay)▸hm2) (Ex ((⟨(y.1.branches.take i1),(y.1.tags.take i2),y.1.head,(((⟨[],[],[],zid,[]⟩,⟨.slice none 0 0, .slice none 0 0, .slice none 0 0⟩):Ay)).1.at_,[]⟩,⟨vb1,vb2,(Value.slice none 0 0)⟩):Ay)) (by rw[Lib.byteCells_length,Lib.byteCells_length,((((⟨[],[],[],zid,[]⟩,⟨.slice none 0 0, .slice none 0 0, .slice none 0 0⟩):Ay)).1.at_).2,y.1.at_.2]) (by rw[Lib.byteCells_length,y.1.at_.2];exact Mx) (AI _) fun ar bu au fk=> ?_)
 have hE:=Ae hE au (Nat.le_trans ak (by omega))
 have c:=kb au c (by omega)
 have f:=kb au f (by omega)
 have g:=OG.kept g au hap_vb1_n23
 have s:=OG.kept s au hap_vb2_n23
 clear hm2
 have hm2:ar.heap[j]? =some (.cells (refsC ((⟨(y.1.branches.take i1),(y.1.tags.take i2),y.1.head,y.1.at_,[]⟩,⟨vb1,vb2,(Value.slice none 0 0)⟩):Ay)).toArray 53 (0,0)):=Bf bu (OY ((⟨(y.1.branches.take i1),(y.1.tags.take i2),y.1.head,(((⟨[],[],[],zid,[]⟩,⟨.slice none 0 0, .slice none 0 0, .slice none 0 0⟩):Ay)).1.at_,[]⟩,⟨vb1,vb2,(Value.slice none 0 0)⟩):Ay) y.1.at_);clear bu
 have fl:=bl hm2
 refine⟨.inl rfl,?_⟩
 refine Ft (tN (dv _ _ (sk fun fm dx=>(wt (oS rfl (Yk.fieldAt GV p (oS rfl (Yk.cell1 D6 rfl (vr (PQ j 35) rfl) (Ac hm2 (show(refsC ((⟨(y.1.branches.take i1),(y.1.tags.take i2),y.1.head,y.1.at_,[]⟩,⟨vb1,vb2,(Value.slice none 0 0)⟩):Ay))[35]? =some ((Value.slice none 0 0):Value)from DA ((⟨(y.1.branches.take i1),(y.1.tags.take i2),y.1.head,y.1.at_,[]⟩,⟨vb1,vb2,(Value.slice none 0 0)⟩):Ay))) (oS rfl (Yk.fieldAt KE o (oS rfl (Yk.cell1 D6 rfl (vr (PQ l 35) rfl) (Ac c (show(refsC y)[35]? =some (y.2.log:Value)from DA y)) ?_))))))))))))
 have bv:=Ext.refl ar
 have fo:=hE.size
 refine oS rfl (Yk.appendRG _ _ ar.heap.size _ 104 D6 wr23_ig122.choose_spec.1 wr23_ig122.choose_spec.2 D6 ([]) (y.1.log) (OG.of (OG.nil _ _ _ _ _) (vr (Value.slice none 0 0) rfl)) (RG.of (hml.keep hE) (vr y.2.log rfl)) (fun _ _=>Ig) (by simp only[List.length_nil];omega) (by simp only[List.length_nil];omega) bv.size fun aa bw af a7=> ?_)
 have a7:Grew ar bw (.slice none 0 0) aa:=a7
 have fp:=(bl c)
 have dy:=(bl f)
 have dz:=(bl hm2)
 have hx_:Ext ar bw:=Ext.of (by have:=a7.by_;exact this)
 have hE:=hE.trans hx_
 have f:=eb hx_ f
 have g:=g.keep hx_
 have s:=s.keep hx_
 have hm2:=eb hx_ hm2
 have d0:OB aa u:=Bj af.2 dy
 have d1:OB aa j:=Bj af.2 dz
 refine oS rfl (Yk.fieldAt GV p (oS rfl (Yk.storeC (i:=35) (v:=aa) (vr (PQ j 35) rfl) (vr aa rfl) hm2 (by rw[B5];decide) LP (RG.one (RG.ofOwn af)).1 (RG.one (RG.ofOwn af)).2 fun d2 bx av fq=> ?_)))
 have hE:=Ae hE av (Nat.le_trans ak (by omega))
 have f:=kb av f (by omega)
 have g:=OG.kept g av hap_vb1_n23
 have s:=OG.kept s av hap_vb2_n23
 clear hm2
 clear bv
 have af:=OG.kept af av d1
 have hm2:d2.heap[j]? =some (.cells (refsC ((⟨(y.1.branches.take i1),(y.1.tags.take i2),y.1.head,y.1.at_,([])++y.1.log⟩,⟨vb1,vb2,aa⟩):Ay)).toArray 53 (0,0)):=Bf bx (OZ ((⟨(y.1.branches.take i1),(y.1.tags.take i2),y.1.head,y.1.at_,[]⟩,⟨vb1,vb2,(Value.slice none 0 0)⟩):Ay) aa (([])++y.1.log));clear bx
 have fr:=bl hm2
 refine oZ (tN (dx _ _ (sk fun fs d3=>(wt (oS rfl (Yk.loadAll p hm2 (II).choose_spec rfl (AF (B5 ((⟨(y.1.branches.take i1),(y.1.tags.take i2),y.1.head,y.1.at_,([])++y.1.log⟩,⟨vb1,vb2,aa⟩):Ay)) H2) (oS rfl (Yk.storeAll t (vr (.agg (refsC ((⟨(y.1.branches.take i1),(y.1.tags.take i2),y.1.head,y.1.at_,([])++y.1.log⟩,⟨vb1,vb2,aa⟩):Ay)).toArray) rfl) f (by simp only[List.size_toArray,B5]) (AF (B5 _) H2) (NU (x:=((⟨(y.1.branches.take i1),(y.1.tags.take i2),y.1.head,y.1.at_,([])++y.1.log⟩,⟨vb1,vb2,aa⟩):Ay)) (RG.one (RG.ofOwn g)).2 (RG.one (RG.ofOwn s)).2 (RG.one (RG.ofOwn af)).2) fun d4 bz aw ft=> ?_))))))))
 have hE:=Ae hE aw (Nat.le_trans b6 (by omega))
 clear f
 have g:=OG.kept g aw hap_vb1_n10
 have s:=OG.kept s aw hap_vb2_n10
 have af:=OG.kept af aw d0
 have hm2:=kb aw hm2 (by omega)
 have f:d4.heap[u]? =some (.cells (refsC ((⟨(y.1.branches.take i1),(y.1.tags.take i2),y.1.head,y.1.at_,([])++y.1.log⟩,⟨vb1,vb2,aa⟩):Ay)).toArray 53 (0,0)):=bz;clear bz
 have fu:=bl f
 refine oZ (tN (d3 _ _ (Ap (Ao (fn:=Tryd.f37) _ rfl [.agg (refsC ((⟨(y.1.branches.take i1),(y.1.tags.take i2),y.1.head,y.1.at_,([])++y.1.log⟩,⟨vb1,vb2,aa⟩):Ay)).toArray] (.agg (refsC ((⟨(y.1.branches.take i1),(y.1.tags.take i2),y.1.head,y.1.at_,([])++y.1.log⟩,⟨vb1,vb2,aa⟩):Ay)).toArray) rfl ⟨ResF.row t f (II).choose_spec rfl (AF (B5 _) H2),trivial⟩ ?_))))
 have e1:y.1.branches.take i1=y.1.branches:=List.take_of_length_le (by omega)
 have e2:y.1.tags.take i2=y.1.tags:=List.take_of_length_le (by omega)
 refine⟨⟨_,_,_⟩,?_,⟨RG.ofOwn (CL g e1),RG.ofOwn (CL s e2),RG.ofOwn (CL af (by simp))⟩,hE⟩
 rw[e1,e2];rfl
open Go.RowKit
theorem IO{l:List BC}(h:A1 l=true):(∀j,j<l.length→nE l j=false)∧l.length≤64:=by
  classical
  exact of_decide_eq_true h
theorem MZ{r:Cv}(h:Cx r=true):A1 r.branches=true∧A1 r.tags=true:=by
  unfold Cx at h
  have h1:FV r=false:=by cases hq:FV r <;> simp_all
  unfold FV at h1
  cases ha:A1 r.branches <;> cases hb:A1 r.tags <;> simp_all
theorem OH{l:List BC}{j:Nat}(h:nE l j=false):nameB (l.getD j Af).name=true∧zeroB (l.getD j Af).id=false∧(0<j→Op.bytesLess (l.getD (j-1) Af).name (l.getD j Af).name=true):=by
  unfold nE at h
  rw[Bool.or_eq_false_iff,Bool.or_eq_false_iff,Bool.and_eq_false_iff]at h
  obtain⟨⟨h1,h2⟩,h3⟩:=h
  refine⟨by simpa using h1,h2,fun h0=> ?_⟩
  rcases h3 with h3 | h3
  · exact absurd h0 (of_decide_eq_false h3)
  · simpa using h3
theorem M0:zeroB zid=true:=by decide
theorem KT{k:UInt8}{n:BC}(hk:k=1∨k=2)(h1:nameB n.name=true)(h2:zeroB n.id=false):EM (By k n)=false:=by
  unfold EM By
  rcases hk with rfl | rfl <;> simp[h1,h2,M0]
theorem JS{k:UInt8}{l:List BC}{j:Nat}(h:j<l.length):(l.map (By k)).getD j Aj=By k (l.getD j Af):=by
  rw[List.getD_eq_getElem?_getD,List.getElem?_map,List.getD_eq_getElem?_getD,List.getElem?_eq_getElem h];rfl
theorem Im{r:Cv}{j:Nat}(h:j<r.branches.length):(r.branches.map (By 1)++r.tags.map (By 2)).getD j Aj=By 1 (r.branches.getD j Af):=by
  rw[←JS (k:=1) h,List.getD_eq_getElem?_getD,List.getElem?_append_left (by simpa using h),List.getD_eq_getElem?_getD]
theorem KU{r:Cv}{j:Nat}(h:¬j<r.branches.length)(h2:j<r.branches.length+r.tags.length):(r.branches.map (By 1)++r.tags.map (By 2)).getD j Aj=By 2 (r.tags.getD (j-r.branches.length) Af):=by
  rw[←JS (k:=2) (by omega),List.getD_eq_getElem?_getD,List.getElem?_append_right (by simpa using h),List.length_map,List.getD_eq_getElem?_getD]
theorem IP{k:UInt8}{a b:BC}(h:Op.bytesLess a.name b.name=true):Hc (By k a) (By k b)=false:=by
  unfold Hc By
  simp[h]
theorem Ob{r:Cv}:Cm (ofB r)=true:=by
  classical
  unfold ofB
  split
  · rename_i hR
    obtain⟨h1,h2⟩:=MZ hR
    obtain⟨b1,b2⟩:=IO h1
    obtain⟨t1,t2⟩:=IO h2
    refine decide_eq_true ⟨fun j hj=> ?_,by simp;omega⟩
    have hj:j<r.branches.length+r.tags.length:=by simpa using hj
    by_cases hA:j<r.branches.length
    · obtain⟨a,b,c⟩:=OH (b1 j hA)
      rw[Im hA]
      refine⟨KT (.inl rfl) a b,fun h0=> ?_⟩
      rw[Im (by omega)]
      exact IP (c h0)
    · obtain⟨a,b,c⟩:=OH (t1 (j-r.branches.length) (by omega))
      rw[KU hA hj]
      refine⟨KT (.inr rfl) a b,fun h0=> ?_⟩
      by_cases hB:j-1<r.branches.length
      · rw[Im hB]
        unfold Hc By
        simp
      · rw[KU hB (by omega),show j-1-r.branches.length=j-r.branches.length-1 by omega]
        exact IP (c (by omega))
  · refine decide_eq_true ⟨fun j hj=>absurd hj (Nat.not_lt_zero _),Nat.zero_le _⟩
theorem Oc{r:Cv}:∀u∈ofB r,u.name.length≤32:=fun u hu=>by
  have h:=Ob (r:=r)
  classical
  have h:=(of_decide_eq_true h).1
  obtain⟨j,hj,rfl⟩:=List.getElem_of_mem hu
  have:=(h j hj).1
  rw[List.getD_eq_getElem?_getD,List.getElem?_eq_getElem hj]at this
  have hn:nameB (ofB r)[j].name=true:=by
    unfold EM at this
    cases hq:nameB (ofB r)[j].name
    · simp[hq]at this
    · rfl
  exact(Gf hn).2
structure In (r : Cv) : Prop where
  bn:∀u∈r.branches,u.name.length≤9223372036854775807
  tn:∀u∈r.tags,u.name.length≤9223372036854775807
  head:r.head.length≤9223372036854775807
theorem PK{a b c:Nat}(h:((decide (80<a)||decide (80<b))||decide (80<c))=false):a≤80∧b≤80∧c≤80:=by
  simp only[Bool.or_eq_false_iff,decide_eq_false_iff_not]at h
  omega
theorem P9{r:Cv}(h:In r)(hc:r.branches.length≤80∧r.tags.length≤80∧r.log.length≤80):Fr r:=⟨by omega,by omega,by omega,h.bn,h.tn,h.head⟩
noncomputable abbrev Qa(s:Nat)(r:Cv):Msg:=⟨2,((s:Nat):Int),ofB r,[],[],0,0,zid,[],[],zid,zid,false,0⟩
theorem Pb{s:Nat}{r:Cv}(hb:r.branches.length≤80)(ht:r.tags.length≤80):CX (Qa s r):=
  ⟨by show(ofB r).length≤_;unfold ofB;split <;> simp;omega,fun u hu=>Nat.le_trans (Oc u hu) (by decide),by simp,by simp,by simp⟩
open Go.RowKit
set_option maxRecDepth 100000
open Go.ChangeShapes Go.WideShapes Go.ChangeAt Go.Deep
theorem G3{H:Type}{enc:TypeId × Value→H}{W:World}:Opn enc Tryd.prog W 69 nmdC (fun x:BC=>x.name.length≤9223372036854775807):=fun fuel cs x h=>by
 have ht:Tryd.prog.underlying 69=some (.struct (Tryd.prog.fieldsOf 69)):=by kernel_rfl
 obtain⟨a0,a,k0⟩:=BQ (i:=0) (ty:=9) (o:=0) (k:=1) ht h (by kernel_rfl) (by kernel_rfl) (Opn.strL (by kernel_rfl))
 obtain⟨a1,b,k1⟩:=BQ (i:=1) (ty:=25) (o:=1) (k:=32) ht h (by kernel_rfl) (by kernel_rfl) (Opn.id (e:=5) (by kernel_rfl) (by kernel_rfl) (by kernel_rfl) (by kernel_rfl))
 have hl:cs.drop 33= []:=List.drop_of_length_le (Nat.le_of_eq ((Ei ht h).trans (by kernel_rfl)))
 refine⟨⟨a0,a1⟩,?_,k0⟩
 rw[show cs=cs.drop 0 from rfl]
 rw[a]
 rw[show cs.drop (0+1)=_ from b]
 rw[show cs.drop (1+32)= []from hl]
 simp[nmdC]
instance:Inhabited BC:=⟨Af⟩
instance:Inhabited Ed:=⟨Au⟩
theorem KF{H:Type}{enc:TypeId × Value→H}{W:World}:Opn enc Tryd.prog W 67 updC (fun x:AO=>True):=fun fuel cs x h=>by
 have ht:Tryd.prog.underlying 67=some (.struct (Tryd.prog.fieldsOf 67)):=by kernel_rfl
 obtain⟨a0,a,k0⟩:=BQ (i:=0) (ty:=5) (o:=0) (k:=1) ht h (by kernel_rfl) (by kernel_rfl) (Opn.u8 (by kernel_rfl))
 obtain⟨a1,b,k1⟩:=BQ (i:=1) (ty:=9) (o:=1) (k:=1) ht h (by kernel_rfl) (by kernel_rfl) (Opn.str (by kernel_rfl))
 obtain⟨a2,c,k2⟩:=BQ (i:=2) (ty:=25) (o:=2) (k:=32) ht h (by kernel_rfl) (by kernel_rfl) (Opn.id (e:=5) (by kernel_rfl) (by kernel_rfl) (by kernel_rfl) (by kernel_rfl))
 obtain⟨a3,f,k3⟩:=BQ (i:=3) (ty:=25) (o:=34) (k:=32) ht h (by kernel_rfl) (by kernel_rfl) (Opn.id (e:=5) (by kernel_rfl) (by kernel_rfl) (by kernel_rfl) (by kernel_rfl))
 have hl:cs.drop 66= []:=List.drop_of_length_le (Nat.le_of_eq ((Ei ht h).trans (by kernel_rfl)))
 refine⟨⟨a0,a1,a2,a3⟩,?_,trivial⟩
 rw[show cs=cs.drop 0 from rfl]
 rw[a]
 rw[show cs.drop (0+1)=_ from b]
 rw[show cs.drop (1+1)=_ from c]
 rw[show cs.drop (2+32)=_ from f]
 rw[show cs.drop (34+32)= []from hl]
 simp[updC]
theorem JT{H:Type}{enc:TypeId × Value→H}{W:World}:Opn enc Tryd.prog W 122 entC (fun _:Ed=>True):=fun fuel cs _ h=>by
 have ht:Tryd.prog.underlying 122=some (.struct (Tryd.prog.fieldsOf 122)):=by kernel_rfl
 obtain⟨a0,a,-⟩:=BQ (i:=0) (ty:=67) (o:=0) (k:=66) ht h (by kernel_rfl) (by kernel_rfl) (KF)
 obtain⟨a1,b,-⟩:=BQ (i:=1) (ty:=9) (o:=66) (k:=1) ht h (by kernel_rfl) (by kernel_rfl) (Opn.str (by kernel_rfl))
 have hl:cs.drop 67= []:=List.drop_of_length_le (Nat.le_of_eq ((Ei ht h).trans (by kernel_rfl)))
 refine⟨⟨a0.kind,a0.name,a0.old,a0.new,a1⟩,?_,trivial⟩
 rw[show cs=cs.drop 0 from rfl]
 rw[a]
 rw[show cs.drop (0+66)=_ from b]
 rw[show cs.drop (66+1)= []from hl]
 simp[updC,entC]
theorem JU{H:Type}{enc:TypeId × Value→H}{W:World}:Opn enc Tryd.prog W 49 refsC (fun x:Ay=>RG 33 nmdC W x.2.branches x.1.branches∧(∀u∈x.1.branches,u.name.length≤9223372036854775807)∧RG 33 nmdC W x.2.tags x.1.tags∧(∀u∈x.1.tags,u.name.length≤9223372036854775807)∧x.1.head.length≤9223372036854775807∧RG 67 entC W x.2.log x.1.log):=fun fuel cs x h=>by
 have ht:Tryd.prog.underlying 49=some (.struct (Tryd.prog.fieldsOf 49)):=by kernel_rfl
 obtain⟨a0,b,k0⟩:=BQ (i:=0) (ty:=46) (o:=0) (k:=1) ht h (by kernel_rfl) (by kernel_rfl) (Opn.slice (by kernel_rfl) (by kernel_rfl) (by decide) G3 (fun a _=>C4 a))
 obtain⟨a1,c,k1⟩:=BQ (i:=1) (ty:=46) (o:=1) (k:=1) ht h (by kernel_rfl) (by kernel_rfl) (Opn.slice (by kernel_rfl) (by kernel_rfl) (by decide) G3 (fun a _=>C4 a))
 obtain⟨a2,f,k2⟩:=BQ (i:=2) (ty:=9) (o:=2) (k:=1) ht h (by kernel_rfl) (by kernel_rfl) (Opn.strL (by kernel_rfl))
 obtain⟨a3,g,k3⟩:=BQ (i:=3) (ty:=25) (o:=3) (k:=32) ht h (by kernel_rfl) (by kernel_rfl) (Opn.id (e:=5) (by kernel_rfl) (by kernel_rfl) (by kernel_rfl) (by kernel_rfl))
 obtain⟨a4,j,k4⟩:=BQ (i:=4) (ty:=47) (o:=35) (k:=1) ht h (by kernel_rfl) (by kernel_rfl) (Opn.slice (by kernel_rfl) (by kernel_rfl) (by decide) JT (fun a _=>DN a))
 have hl:cs.drop 36= []:=List.drop_of_length_le (Nat.le_of_eq ((Ei ht h).trans (by kernel_rfl)))
 refine⟨(⟨a0.2,a1.2,a2,a3,a4.2⟩,⟨a0.1,a1.1,a4.1⟩),?_,⟨k0.1,k0.2,k1.1,k1.2,k2,k4.1⟩⟩
 rw[show cs=cs.drop 0 from rfl]
 rw[b]
 rw[show cs.drop (0+1)=_ from c]
 rw[show cs.drop (1+1)=_ from f]
 rw[show cs.drop (2+1)=_ from g]
 rw[show cs.drop (3+32)=_ from j]
 rw[show cs.drop (35+1)= []from hl]
 simp[refsC]
theorem M1{H:Type}{enc:TypeId × Value→H}{W:World}{r:Reach}{b0:Nat}{v:Value}{d:DataW H}{ps:List MemPlace}(hval:Value.okWide Tryd.prog W r b0 49 v)(hd:DataW.Trod enc Tryd.prog W 0 (fun _=>true) true 49 v d ps):
  ∃x:Ay,v = .agg (refsC x).toArray∧RefsAt W x∧In x.1∧∀p∈ps,p.block<W.heap.size:=by
 obtain⟨fuel,hf⟩:=hd
 have hlt:=DataW.trod_lt fuel _ _ _ hf
 obtain⟨cs,rfl,-⟩:=okWide_struct (fs:=Tryd.prog.fieldsOf 49) (by kernel_rfl) hval
 obtain⟨x,h1,h2,h3,h4,h5,h6,h7⟩:=JU _ _ _ hf
 have h1:cs.toList=refsC x:=h1
 exact⟨x,by rw[←h1],⟨h2,h4,h7⟩,⟨h3,h5,h6⟩,hlt⟩
open Go.RowKit
def bytesR(n:Nat):List UInt8:=
  if n<128 then [UInt8.ofNat n]
  else if n<2048 then [UInt8.ofNat (192+n/64),UInt8.ofNat (128+n%64)]
  else if n<65536 then [UInt8.ofNat (224+n/4096),UInt8.ofNat (128+n/64%64),UInt8.ofNat (128+n%64)]
  else [UInt8.ofNat (240+n/262144),UInt8.ofNat (128+n/4096%64),UInt8.ofNat (128+n/64%64),UInt8.ofNat (128+n%64)]
def vN(l:List UInt8)(a n:Nat):Int:=
  if n=1 then((l.getD a 0).toNat:Int)else if n=2 then(((l.getD a 0).toNat:Int)-192)*64+((l.getD (a+1) 0).toNat:Int)-128
  else if n=3 then(((l.getD a 0).toNat:Int)-224)*4096+(((l.getD (a+1) 0).toNat:Int)-128)*64+((l.getD (a+2) 0).toNat:Int)-128
  else(((l.getD a 0).toNat:Int)-240)*262144+(((l.getD (a+1) 0).toNat:Int)-128)*4096+(((l.getD (a+2) 0).toNat:Int)-128)*64+((l.getD (a+3) 0).toNat:Int)-128
def Ee(l:List UInt8)(a n:Nat):Prop:=0≤vN l a n∧vN l a n≤1114111∧C6 (vN l a n).toNat=true∧bytesR (vN l a n).toNat=(l.drop a).take n
theorem Od{c:Nat}(h:c<256):c&&&192=128↔(128≤c∧c<192):=by
  have:∀c:Fin 256,c.val&&&192=128↔(128≤c.val∧c.val<192):=by decide+kernel
  exact this ⟨c,h⟩
theorem M2(c:Nat):c&&&63=c%64:=Nat.and_two_pow_sub_one_eq_mod c 6
theorem M3(c:Nat):c&&&31=c%32:=Nat.and_two_pow_sub_one_eq_mod c 5
theorem M4(c:Nat):c&&&15=c%16:=Nat.and_two_pow_sub_one_eq_mod c 4
theorem Oe(c:Nat):c&&&7=c%8:=Nat.and_two_pow_sub_one_eq_mod c 3
theorem PL(q c:Nat):q*2^6|||(c%64)=q*64+c%64:=by
  have:=Nat.two_pow_add_eq_or_of_lt (i:=6) (b:=c%64) (Nat.mod_lt _ (by decide)) q
  rw[Nat.mul_comm q,←this]
theorem CH{x:UInt8}{n:Nat}(h:n<256):UInt8.ofNat n=x↔x.toNat=n:=by
  constructor
  · rintro rfl;simp;omega
  · intro e;rw[←e];simp
theorem take_1{l:List UInt8}{a:Nat}(h:a<l.length):(l.drop a).take 1= [l.getD a 0]:=by
  rw[List.drop_eq_getElem_cons h,List.getD_eq_getElem?_getD,List.getElem?_eq_getElem h];rfl
theorem DC{l:List UInt8}{a n:Nat}(h:a<l.length):(l.drop a).take (n+1)=l.getD a 0 :: (l.drop (a+1)).take n:=by
  rw[List.drop_eq_getElem_cons h,List.getD_eq_getElem?_getD,List.getElem?_eq_getElem h];rfl
def Gn(l:List UInt8)(a n:Nat):Prop:=∃r m q,B3 (l.getD a 0)=some (n-1,r,m)∧CK l (a+1) (n-1) r=some q∧m≤q∧C6 q=true
theorem JV{l:List UInt8}{a b:Nat}(ha:a<l.length):CQ l a=some b↔∃n,1≤n∧a+n=b∧b≤l.length∧Gn l a n:=by
  unfold CQ
  cases hL:B3 (l.getD a 0)with
  | none=>simp only[reduceCtorEq,false_iff];rintro⟨n,-,-,-,r,m,q,h,-⟩;rw[hL]at h;cases h
  | some p=>
    obtain⟨k,r,m⟩:=p
    simp only
    by_cases hs:l.length-a≤k
    · rw[if_pos hs];simp only[reduceCtorEq,false_iff]
      rintro⟨n,h1,h2,h3,r',m',q',h,-⟩
      rw[hL]at h;cases h;omega
    · rw[if_neg hs]
      cases ht:CK l (a+1) k r with
      | none=>simp only[reduceCtorEq,false_iff];rintro⟨n,-,-,-,r',m',q',h,h',-⟩;rw[hL]at h;cases h;rw[ht]at h';cases h'
      | some q=>
        simp only
        constructor
        · intro h
          split at h
          · rename_i hq;cases h;exact⟨k+1,by omega,by omega,by omega,r,m,q,hL,ht,hq.1,hq.2⟩
          · cases h
        · rintro⟨n,h1,h2,h3,r',m',q',h,h',h4,h5⟩
          rw[hL]at h;cases h;rw[ht]at h';cases h'
          rw[if_pos ⟨h4,h5⟩];congr 1;omega
theorem Qk{l:List UInt8}{a:Nat}(h:a<l.length):Ee l a 1↔Gn l a 1:=by
  have hb:=(l.getD a 0).toNat_lt
  unfold Ee Gn
  rw[take_1 h,show vN l a 1=((l.getD a 0).toNat:Int)from rfl]
  simp only[Int.toNat_natCast]
  constructor
  · rintro⟨-,-,h3,h4⟩
    have hc:(l.getD a 0).toNat<128:=by
      unfold bytesR at h4
      split at h4
      · assumption
      · split at h4
        · exact absurd (congrArg List.length h4) (by simp)
        · split at h4 <;> exact absurd (congrArg List.length h4) (by simp)
    exact⟨(l.getD a 0).toNat,0,(l.getD a 0).toNat,by unfold B3;rw[if_pos hc],rfl,Nat.zero_le _,h3⟩
  · rintro⟨r,m,q,h1,h2,h3,h4⟩
    unfold B3 at h1
    by_cases hc:(l.getD a 0).toNat<128
    · rw[if_pos hc]at h1;cases h1;cases h2
      refine⟨by omega,by omega,h4,?_⟩
      unfold bytesR;rw[if_pos hc,(CH (by omega)).2 rfl]
    · rw[if_neg hc]at h1
      split at h1
      · cases h1
      · split at h1
        · cases h1
        · split at h1 <;> cases h1
theorem M5{c:UInt8}{r m:Nat}:B3 c=some (1,r,m)↔(192≤c.toNat∧c.toNat<224)∧r=c.toNat%32∧m=128:=by
  unfold B3
  rw[M3]
  repeat' split
  all_goals simp only[Option.some.injEq,Prod.mk.injEq,reduceCtorEq,false_and,true_and]
  all_goals (constructor <;> intro h <;> first | omega | exact h.elim)
theorem lead_3{c:UInt8}{r m:Nat}:B3 c=some (2,r,m)↔(224≤c.toNat∧c.toNat<240)∧r=c.toNat%16∧m=2048:=by
  unfold B3
  rw[M4]
  repeat' split
  all_goals simp only[Option.some.injEq,Prod.mk.injEq,reduceCtorEq,false_and,true_and]
  all_goals (constructor <;> intro h <;> first | omega | exact h.elim)
theorem lead_4{c:UInt8}{r m:Nat}:B3 c=some (3,r,m)↔(240≤c.toNat∧c.toNat<248)∧r=c.toNat%8∧m=65536:=by
  unfold B3
  rw[Oe]
  repeat' split
  all_goals simp only[Option.some.injEq,Prod.mk.injEq,reduceCtorEq,false_and,true_and]
  all_goals (constructor <;> intro h <;> first | omega | exact h.elim)
theorem tail_iff{l:List UInt8}{p k r q:Nat}:CK l p (k+1) r=some q↔(128≤(l.getD p 0).toNat∧(l.getD p 0).toNat<192)∧CK l (p+1) k (r*64+(l.getD p 0).toNat%64)=some q:=by
  have hc:=Od (l.getD p 0).toNat_lt
  rw[CK,M2,PL]
  split
  · rename_i h;constructor
    · intro h';cases h'
    · rintro⟨h',-⟩;exact absurd (hc.2 h') h
  · rename_i h;have h:=hc.1 (Decidable.of_not_not h);exact⟨fun h' =>⟨h,h'⟩,fun h' =>h'.2⟩
theorem Fv{l:List UInt8}{p r q:Nat}:CK l p 0 r=some q↔r=q:=by rw[CK];exact⟨fun h=>Option.some.inj h,fun h=>congrArg some h⟩
theorem KV{n:Nat}{x y:UInt8}(hn:n≤1114111):bytesR n= [x,y]↔(128≤n∧n<2048)∧x.toNat=192+n/64∧y.toNat=128+n%64:=by
  unfold bytesR
  by_cases h1:n<128
  · rw[if_pos h1];exact⟨fun h=>absurd (congrArg List.length h) (by simp),fun h=>by omega⟩
  · rw[if_neg h1]
    by_cases h2:n<2048
    · rw[if_pos h2,List.cons.injEq,List.cons.injEq,CH (by omega),CH (by omega)]
      exact⟨fun h=>⟨by omega,h.1,h.2.1⟩,fun h=>⟨h.2.1,h.2.2,rfl⟩⟩
    · rw[if_neg h2]
      constructor
      · intro h
        split at h <;> exact absurd (congrArg List.length h) (by simp)
      · intro h;omega
theorem bytes_3{n:Nat}{x y z:UInt8}(hn:n≤1114111):bytesR n= [x,y,z]↔(2048≤n∧n<65536)∧x.toNat=224+n/4096∧y.toNat=128+n/64%64∧z.toNat=128+n%64:=by
  unfold bytesR
  by_cases h1:n<128
  · rw[if_pos h1];exact⟨fun h=>absurd (congrArg List.length h) (by simp),fun h=>by omega⟩
  · rw[if_neg h1]
    by_cases h2:n<2048
    · rw[if_pos h2];exact⟨fun h=>absurd (congrArg List.length h) (by simp),fun h=>by omega⟩
    · rw[if_neg h2]
      by_cases h3:n<65536
      · rw[if_pos h3,List.cons.injEq,List.cons.injEq,List.cons.injEq,CH (by omega),CH (by omega),CH (by omega)]
        exact⟨fun h=>⟨by omega,h.1,h.2.1,h.2.2.1⟩,fun h=>⟨h.2.1,h.2.2.1,h.2.2.2,rfl⟩⟩
      · rw[if_neg h3];exact⟨fun h=>absurd (congrArg List.length h) (by simp),fun h=>by omega⟩
theorem KW{n:Nat}{x y z u:UInt8}(hn:n≤1114111):bytesR n= [x,y,z,u]↔65536≤n∧x.toNat=240+n/262144∧y.toNat=128+n/4096%64∧z.toNat=128+n/64%64∧u.toNat=128+n%64:=by
  unfold bytesR
  by_cases h1:n<128
  · rw[if_pos h1];exact⟨fun h=>absurd (congrArg List.length h) (by simp),fun h=>by omega⟩
  · rw[if_neg h1]
    by_cases h2:n<2048
    · rw[if_pos h2];exact⟨fun h=>absurd (congrArg List.length h) (by simp),fun h=>by omega⟩
    · rw[if_neg h2]
      by_cases h3:n<65536
      · rw[if_pos h3];exact⟨fun h=>absurd (congrArg List.length h) (by simp),fun h=>by omega⟩
      · rw[if_neg h3,List.cons.injEq,List.cons.injEq,List.cons.injEq,List.cons.injEq,CH (by omega),CH (by omega),CH (by omega),CH (by omega)]
        exact⟨fun h=>⟨by omega,h.1,h.2.1,h.2.2.1,h.2.2.2.1⟩,fun h=>⟨h.2.1,h.2.2.1,h.2.2.2.1,h.2.2.2.2,rfl⟩⟩
theorem Ql{l:List UInt8}{a:Nat}(h:a+1<l.length):Ee l a 2↔Gn l a 2:=by
  have hv:vN l a 2=((l.getD a 0).toNat-192:Int)*64+((l.getD (a+1) 0).toNat:Int)-128:=rfl
  unfold Ee Gn
  rw[DC (by omega),take_1 h,hv]
  generalize hx:l.getD a 0=x
  generalize hy:l.getD (a+1) 0=y
  have:=x.toNat_lt;have:=y.toNat_lt
  constructor
  · rintro⟨h1,h2,h3,h4⟩
    obtain⟨n,hn⟩:=Int.eq_ofNat_of_zero_le h1
    rw[hn,Int.toNat_natCast]at h3 h4
    rw[KV (by omega)]at h4
    refine⟨x.toNat%32,128,n,M5.2 ⟨by omega,rfl,rfl⟩,tail_iff.2 ⟨by rw[hy];omega,Fv.2 (by rw[hy];omega)⟩,by omega,h3⟩
  · rintro⟨r,m,q,h1,h2,h3,h4⟩
    obtain⟨h5,rfl,rfl⟩:=M5.1 h1
    obtain⟨h6,h7⟩:=tail_iff.1 h2
    have h7:=Fv.1 h7
    rw[hy]at h6 h7
    have hn:((x.toNat:Int)-192)*64+(y.toNat:Int)-128=(q:Int):=by omega
    rw[hn,Int.toNat_natCast]
    exact⟨by omega,by omega,h4,(KV (by omega)).2 ⟨by omega,by omega,by omega⟩⟩
theorem PM{q:Nat}(h:C6 q=true):q≤1114111:=by unfold C6 at h;simp only[Bool.and_eq_true,decide_eq_true_eq]at h;exact h.1.2
theorem Qm{l:List UInt8}{a:Nat}(h:a+2<l.length):Ee l a 3↔Gn l a 3:=by
  have hv:vN l a 3=((l.getD a 0).toNat-224:Int)*4096+((l.getD (a+1) 0).toNat-128:Int)*64+((l.getD (a+2) 0).toNat:Int)-128:=rfl
  unfold Ee Gn
  rw[DC (by omega),DC (by omega),take_1 h,hv]
  generalize hx:l.getD a 0=x
  generalize hy:l.getD (a+1) 0=y
  generalize hz:l.getD (a+1+1) 0=z
  have:=x.toNat_lt;have:=y.toNat_lt;have:=z.toNat_lt
  constructor
  · rintro⟨h1,h2,h3,h4⟩
    obtain⟨n,hn⟩:=Int.eq_ofNat_of_zero_le h1
    rw[hn,Int.toNat_natCast]at h3 h4
    rw[bytes_3 (by omega)]at h4
    refine⟨x.toNat%16,2048,n,lead_3.2 ⟨by omega,rfl,rfl⟩,tail_iff.2 ⟨by rw[hy];omega,tail_iff.2 ⟨by rw[hz];omega,Fv.2 (by rw[hy,hz];omega)⟩⟩,by omega,h3⟩
  · rintro⟨r,m,q,h1,h2,h3,h4⟩
    obtain⟨h5,rfl,rfl⟩:=lead_3.1 h1
    obtain⟨h6,h7⟩:=tail_iff.1 h2
    obtain⟨h7,h8⟩:=tail_iff.1 h7
    have h8:=Fv.1 h8
    rw[hy]at h6 h8
    rw[hz]at h7 h8
    have hn:((x.toNat:Int)-224)*4096+((y.toNat:Int)-128)*64+(z.toNat:Int)-128=(q:Int):=by omega
    rw[hn,Int.toNat_natCast]
    exact⟨by omega,by omega,h4,(bytes_3 (by omega)).2 ⟨by omega,by omega,by omega,by omega⟩⟩
theorem Qn{l:List UInt8}{a:Nat}(h:a+3<l.length):Ee l a 4↔Gn l a 4:=by
  have hv:vN l a 4=((l.getD a 0).toNat-240:Int)*262144+((l.getD (a+1) 0).toNat-128:Int)*4096+((l.getD (a+2) 0).toNat-128:Int)*64+((l.getD (a+3) 0).toNat:Int)-128:=rfl
  unfold Ee Gn
  rw[DC (by omega),DC (by omega),DC (by omega),take_1 h,hv]
  generalize hx:l.getD a 0=x
  generalize hy:l.getD (a+1) 0=y
  generalize hz:l.getD (a+1+1) 0=z
  generalize hu:l.getD (a+1+1+1) 0=u
  have:=x.toNat_lt;have:=y.toNat_lt;have:=z.toNat_lt;have:=u.toNat_lt
  constructor
  · rintro⟨h1,h2,h3,h4⟩
    obtain⟨n,hn⟩:=Int.eq_ofNat_of_zero_le h1
    rw[hn,Int.toNat_natCast]at h3 h4
    rw[KW (by omega)]at h4
    refine⟨x.toNat%8,65536,n,lead_4.2 ⟨by omega,rfl,rfl⟩,tail_iff.2 ⟨by rw[hy];omega,tail_iff.2 ⟨by rw[hz];omega,tail_iff.2 ⟨by rw[hu];omega,Fv.2 (by rw[hy,hz,hu];omega)⟩⟩⟩,by omega,h3⟩
  · rintro⟨r,m,q,h1,h2,h3,h4⟩
    have hq:=PM h4
    obtain⟨h5,rfl,rfl⟩:=lead_4.1 h1
    obtain⟨h6,h7⟩:=tail_iff.1 h2
    obtain⟨h7,h8⟩:=tail_iff.1 h7
    obtain⟨h8,h9⟩:=tail_iff.1 h8
    have h9:=Fv.1 h9
    rw[hy]at h6 h9
    rw[hz]at h7 h9
    rw[hu]at h8 h9
    have hn:((x.toNat:Int)-240)*262144+((y.toNat:Int)-128)*4096+((z.toNat:Int)-128)*64+(u.toNat:Int)-128=(q:Int):=by omega
    rw[hn,Int.toNat_natCast]
    exact⟨by omega,by omega,h4,(KW (by omega)).2 ⟨by omega,by omega,by omega,by omega,by omega⟩⟩
theorem KX{l:List UInt8}{a n:Nat}(h1:1≤n)(h4:n≤4)(h:a+n≤l.length):Ee l a n↔Gn l a n:=by
  obtain rfl | rfl | rfl | rfl:n=1∨n=2∨n=3∨n=4:=by omega
  · exact Qk (by omega)
  · exact Ql (by omega)
  · exact Qm (by omega)
  · exact Qn (by omega)
theorem M6{l:List UInt8}{a n:Nat}(h:Gn l a n):n≤4:=by
  obtain⟨r,m,q,h,-⟩:=h
  have:=(Ht h).1
  omega
theorem LR{l:List UInt8}{a n:Nat}(ha:a<l.length)(h1:1≤n)(h4:n≤4)(h:a+n≤l.length)(hk:Ee l a n):CQ l a=some (a+n):=
  (JV ha).2 ⟨n,h1,rfl,h,(KX h1 h4 h).1 hk⟩
theorem Pc{l:List UInt8}{a:Nat}(ha:a<l.length)(h:∀n,1≤n→n≤4→a+n≤l.length→¬Ee l a n):CQ l a=none:=by
  cases hd:CQ l a with
  | none=>rfl
  | some b=>
    obtain⟨n,h1,rfl,h3,h5⟩:=(JV ha).1 hd
    exact absurd ((KX h1 (M6 h5) h3).2 h5) (h n h1 (M6 h5) h3)
/-! ### Numbers below 0; a literal of bytes (any program) -/
theorem Fw(t:TypeId)(a b:Int)(h: -9223372036854775808≤a+b∧a+b≤9223372036854775807):Go.binOp .add t (.int .i64 a) (.int .i64 b)=pure (.int .i64 (a+b)):=by
  show pure (Value.int .i64 (IntKind.i64.wrap (a+b)))=_
  rw[IntWalk.i64_in _ h]
theorem DL(t:TypeId)(a b:Int)(h: -9223372036854775808≤a-b∧a-b≤9223372036854775807):Go.binOp .sub t (.int .i64 a) (.int .i64 b)=pure (.int .i64 (a-b)):=by
  show pure (Value.int .i64 (IntKind.i64.wrap (a-b)))=_
  rw[IntWalk.i64_in _ h]
theorem Fx(t:TypeId)(a b:Int)(h: -9223372036854775808≤a*b∧a*b≤9223372036854775807):Go.binOp .mul t (.int .i64 a) (.int .i64 b)=pure (.int .i64 (a*b)):=by
  show pure (Value.int .i64 (IntKind.i64.wrap (a*b)))=_
  rw[IntWalk.i64_in _ h]
section
variable {P : Program} {K : Value → World → Prop} {ρ : At} {w : World} {d : Option Tmp} {ty : TypeId} {pos : String} {af : Array Edge} {gd : Option (Nat × Bool)}
theorem Yk.lit2{t e:TypeId}(hr:∀(z0 z1:Int) (w:World),(Instr.buildSlice t 2 #[(0, .int .u8 z0),(1, .int .u8 z1)]).run P w = .ok (.slice (some ⟨w.heap.size,0,none⟩) 2 2) (w.alloc (.cells #[.int .u8 z0, .int .u8 z1] e))) 
    {x0 x1:Operand} {b0 b1:UInt8} (h0:Ai ρ x0=B8 b0) (h1:Ai ρ x1=B8 b1)
    (hk:∀v w',NewB e w w' v [b0,b1]→K v w'):Yk P K ((execOp (Ai ρ) ⟨d, .buildSlice t 2 #[(0,x0),(1,x1)],ty,pos,af,gd⟩).run P w):=by
  have hr' :(execOp (Ai ρ) ⟨d, .buildSlice t 2 #[(0,x0),(1,x1)],ty,pos,af,gd⟩).run P w = .ok (.value (.slice (some ⟨w.heap.size,0,none⟩) 2 2)) (w.alloc (.cells (Lib.byteCells [b0,b1]).toArray e)):=by
    unfold execOp
    simp only[List.map_toArray,List.map_cons,List.map_nil,h0,h1,Sem.run_bind,hr,Result.andThen_ok,Sem.run_pure]
    rfl
  rw[hr']
  exact hk _ _ (FA w e [b0,b1] (by simp))
theorem Yk.lit3{t e:TypeId}(hr:∀(z0 z1 z2:Int) (w:World),(Instr.buildSlice t 3 #[(0, .int .u8 z0),(1, .int .u8 z1),(2, .int .u8 z2)]).run P w = .ok (.slice (some ⟨w.heap.size,0,none⟩) 3 3) (w.alloc (.cells #[.int .u8 z0, .int .u8 z1, .int .u8 z2] e))) 
    {x0 x1 x2:Operand} {b0 b1 b2:UInt8} (h0:Ai ρ x0=B8 b0) (h1:Ai ρ x1=B8 b1) (h2:Ai ρ x2=B8 b2)
    (hk:∀v w',NewB e w w' v [b0,b1,b2]→K v w'):Yk P K ((execOp (Ai ρ) ⟨d, .buildSlice t 3 #[(0,x0),(1,x1),(2,x2)],ty,pos,af,gd⟩).run P w):=by
  have hr' :(execOp (Ai ρ) ⟨d, .buildSlice t 3 #[(0,x0),(1,x1),(2,x2)],ty,pos,af,gd⟩).run P w = .ok (.value (.slice (some ⟨w.heap.size,0,none⟩) 3 3)) (w.alloc (.cells (Lib.byteCells [b0,b1,b2]).toArray e)):=by
    unfold execOp
    simp only[List.map_toArray,List.map_cons,List.map_nil,h0,h1,h2,Sem.run_bind,hr,Result.andThen_ok,Sem.run_pure]
    rfl
  rw[hr']
  exact hk _ _ (FA w e [b0,b1,b2] (by simp))
theorem Yk.lit4{t e:TypeId}(hr:∀(z0 z1 z2 z3:Int) (w:World),(Instr.buildSlice t 4 #[(0, .int .u8 z0),(1, .int .u8 z1),(2, .int .u8 z2),(3, .int .u8 z3)]).run P w = .ok (.slice (some ⟨w.heap.size,0,none⟩) 4 4) (w.alloc (.cells #[.int .u8 z0, .int .u8 z1, .int .u8 z2, .int .u8 z3] e))) 
    {x0 x1 x2 x3:Operand} {b0 b1 b2 b3:UInt8} (h0:Ai ρ x0=B8 b0) (h1:Ai ρ x1=B8 b1) (h2:Ai ρ x2=B8 b2) (h3:Ai ρ x3=B8 b3)
    (hk:∀v w',NewB e w w' v [b0,b1,b2,b3]→K v w'):Yk P K ((execOp (Ai ρ) ⟨d, .buildSlice t 4 #[(0,x0),(1,x1),(2,x2),(3,x3)],ty,pos,af,gd⟩).run P w):=by
  have hr' :(execOp (Ai ρ) ⟨d, .buildSlice t 4 #[(0,x0),(1,x1),(2,x2),(3,x3)],ty,pos,af,gd⟩).run P w = .ok (.value (.slice (some ⟨w.heap.size,0,none⟩) 4 4)) (w.alloc (.cells (Lib.byteCells [b0,b1,b2,b3]).toArray e)):=by
    unfold execOp
    simp only[List.map_toArray,List.map_cons,List.map_nil,h0,h1,h2,h3,Sem.run_bind,hr,Result.andThen_ok,Sem.run_pure]
    rfl
  rw[hr']
  exact hk _ _ (FA w e [b0,b1,b2,b3] (by simp))
theorem Yk.lit1S{α:Type}{enc:α→List Value}{t e:TypeId}{x:Operand}{a:α}{u:Value}(hx:Ai ρ x=u)(hu:enc a= [u]) 
    (hr:∀w:World,(Instr.buildSlice t 1 #[(0,u)]).run P w = .ok (.slice (some ⟨w.heap.size,0,none⟩) 1 1) (w.alloc (.cells #[u] e)))
    (hk:∀v w',RG 1 enc w' v [a]→Ext w w' →K v w'):Yk P K ((execOp (Ai ρ) ⟨d, .buildSlice t 1 #[(0,x)],ty,pos,af,gd⟩).run P w):=by
  have hE:Ext w (w.alloc (.cells #[u] e)):=(Below.refl _ _).alloc (Nat.le_refl _) _
  have hb:(w.alloc (.cells #[u] e)).heap[w.heap.size]? =some (.cells ([u]:List Value).toArray e (0,0)):=heap_alloc_new w _
  refine Yk.value (v:= .slice (some ⟨w.heap.size,0,none⟩) 1 1) (w' :=w.alloc (.cells #[u] e)) ?_ (hk _ _ ⟨fun y hy=>by rw[List.mem_singleton.1 hy,hu];rfl,by simp[hu],_,1,rfl,Nat.le_refl _,by simp[maxLen],(fun h=>by cases h),fun q hq j z hz=> ?_⟩ hE)
  · unfold execOp
    simp only[List.map_toArray,List.map_cons,List.map_nil,hx,Sem.run_bind,hr,Result.andThen_ok,Sem.run_pure]
  · cases hq
    rw[Addr.add_lit,Nat.zero_add]
    exact Ac hb (by simpa [hu] using hz)
end
end Go.Proofs.YtmonlobfofkbdaaDoor
