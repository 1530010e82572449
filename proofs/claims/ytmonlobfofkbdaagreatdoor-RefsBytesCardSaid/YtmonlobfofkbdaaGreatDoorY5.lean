/- Part 5 of what stands behind these statements: laws and walks of the functions that are reached. Conditions: those that each theorem names. -/
import Derived.Test.YtmonlobfofkbdaaGreatDoorY4
set_option linter.unusedVariables false
set_option linter.unusedSimpArgs false
namespace Go.Proofs.YtmonlobfofkbdaaGreatDoor
open Go.RowKit
set_option maxRecDepth 100000
def CS:PanicEntry:= { v:= .iface 64 (.agg #[]),recovered:=false }
def BH(b:Bs)(i most:Nat):Option (Nat × Nat):=(Di b i).bind fun x=>if x.1≤most then some x else none
theorem OI:∃fs,Tryz.prog.underlying 64=some (.struct fs):=Dw (by kernel_rfl)
theorem Bf:Bm Tryz.prog 68 1 1:=fun b o w=>by simp[go_sem]
theorem BP:Bm Tryz.prog 68 0 0:=fun b o w=>by simp[go_sem]
theorem Cy:AI Tryz.prog 50:=fun _ _=>by kernel_rfl
theorem Dd:(Tryz.prog.info? 3).map (·.size)=some 1:=by kernel_rfl
theorem Hc:AI Tryz.prog 68:=fun _ _=>by kernel_rfl
theorem FB:AI Tryz.prog 66:=fun _ _=>by kernel_rfl
theorem J4:AI Tryz.prog 67:=fun _ _=>by kernel_rfl
set_option maxHeartbeats 1600000
theorem Cb(w:World)(b:Bool):
  Calls Tryz.prog 50 #[.bool b] w fun r w' =>(∃v,r = .returned v∧v = .tuple #[]∧b=true∧Ext w w')∨∃ch,r = .panicked ch∧ch= [CS]∧b=false∧Ext w w' :=by
 refine CP (args:= [.bool (b)]) Tryz.func50 rfl 6 rfl (Nat.le_of_ble_eq_true rfl) ?_
 intro c hb
 have e:c 0=(.bool (b):Value):=hb.get 0
 clear hb
 have hE:=Ext.refl w
 refine sk fun g f=>(wt (oM rfl (oS rfl (Yk.notB e (oZ (tN (f _ _ ?_)))))))
 refine AW (!(b)) (vr (.bool (!(b))) rfl) (fun a=> ?_) (fun a=> ?_)
 ·refine wt (oS rfl (Yk.run (v:= .agg #[]) (by kernel_rfl) (oS rfl (Yk.mkIface (OI).choose_spec (vr (.agg #[]) rfl) (oP rfl (Yp.panic (vr (.iface 64 (.agg #[])) rfl) (A1 ?_)))))))
  exact .inr ⟨_,rfl,rfl,by simpa using a,hE⟩
 refine Aq (GY (fn:=Tryz.f50) [] rfl [] (.tuple #[]) rfl trivial ?_)
 exact .inl ⟨_,rfl,rfl,by simpa using a,hE⟩

theorem OJ(w:World)(r:Nat)(v:Value)(b:Bs)(i:Nat)(hb:w.heap[r]? =some (.cells (Bz (Bj v b (i))).toArray 68 (0,0)))(hr:RB w v b)(hap:b= []∨OB v r)(hi:i≤b.length)(hl:b.length≤4611686018427387904):
  Calls Tryz.prog 49 #[PQ r 0] w fun e w' =>(∃x,e = .returned x∧∃c n,DC b i=some (c,n)∧x=B8 c∧w'.heap[r]? =some (.cells (Bz (Bj v b (n))).toArray 68 (0,0))∧w.grownBy w' (some r))∨∃ch,e = .panicked ch∧DC b i=none∧ch= [CS]∧w.grownBy w' (some r):=by
 have hlr:=(bl hb)
 have hgr:=World.grownBy.refl w (some r)
 refine CP (args:= [PQ r 0]) Tryz.func49 rfl 32 rfl (Nat.le_of_ble_eq_true rfl) ?_
 intro al hb
 have f:al 0=(PQ r 0:Value):=hb.get 0
 clear hb
 have hE:=Ext.refl w
 refine sk fun K1 ad=>(wt (oA rfl (oZ ?_)))
 by_cases hlt:i<b.length
 ·have hP:DC b i=some (b.getD i 0,i+1):=if_pos hlt
  refine tN (ad _ _ (sk fun K2 am=> ?_))
  refine DP 10 _ [Is (PQ r 0),Is (PQ r 0),Is (PQ r 1),Is (NI i),Is (PQ r 0),Is (PQ r 0),Is (PQ r 0),Is (v),Is (NI b.length),Is (.bool (true))] (by kernel_rfl) [3,4,5,6,7,8,9,10,11,12,13] (by kernel_rfl) (by kernel_rfl) (by kernel_rfl) rfl rfl rfl (fun _ _=>trivial) (KO trivial) ?an ?hQ1001
  case an=>
   refine⟨?_,?_,?_,?_,?_,?_,?_,?_,?_,?_,?_,trivial⟩
   ·refine A5 (Aa rfl fun σ w1 hC h=> ?_)
    have g:=(Ae (h 0 (by decide))).trans f
    exact Yk.move g ⟨Ext.refl _,rfl⟩
   ·refine A5 (Aa rfl fun σ w1 hC h=> ?_)
    have k:=Ae (h 3 (by decide))
    exact Yk.nilCheck k ⟨Ext.refl _,rfl⟩
   ·refine A5 (Aa rfl fun σ w1 hC h=> ?_)
    have m:=Ae (h 4 (by decide))
    exact Yk.fieldAt Bf m ⟨Ext.refl _,rfl⟩
   ·refine A5 (Aa rfl fun σ w1 hC h=> ?_)
    have o:=Ae (h 5 (by decide))
    exact Yk.cell1 Li rfl o (Al (eb hC hb) (show(Bz (Bj v b (i)))[1]? =some (NI i:Value)from Dg (Bj v b (i)))) ⟨Ext.refl _,rfl⟩
   ·refine A5 (Aa rfl fun σ w1 hC h=> ?_)
    have g:=(Ae (h 0 (by decide))).trans f
    exact Yk.move g ⟨Ext.refl _,rfl⟩
   ·refine A5 (Aa rfl fun σ w1 hC h=> ?_)
    have p:=Ae (h 7 (by decide))
    exact Yk.nilCheck p ⟨Ext.refl _,rfl⟩
   ·refine A5 (Aa rfl fun σ w1 hC h=> ?_)
    have q:=Ae (h 8 (by decide))
    exact Yk.fieldAt BP q ⟨Ext.refl _,rfl⟩
   ·refine A5 (Aa rfl fun σ w1 hC h=> ?_)
    have s:=Ae (h 9 (by decide))
    exact Yk.cell1 Ek rfl s (Al (eb hC hb) (show(Bz (Bj v b (i)))[0]? =some (v:Value)from Dt (Bj v b (i)))) ⟨Ext.refl _,rfl⟩
   ·refine A5 (Aa rfl fun σ w1 hC h=> ?_)
    have t:=Ae (h 10 (by decide))
    exact Yk.lenRB Ek (RB.of (hr.keep (hE.trans hC)) t) ⟨Ext.refl _,rfl⟩
   ·refine A5 (Aa rfl fun σ w1 hC h=> ?_)
    have u:=Ae (h 6 (by decide))
    have y:=Ae (h 11 (by decide))
    exact Yk.eqI (a:=(i:Nat)) (b:=(b.length:Nat)) u y (AX _ _ _ _) ⟨Ext.refl _,(congrArg Value.bool (decide_eq_true ((by omega))))⟩
   ·exact trivial
  intro ao w4 z he hf
  obtain⟨-,-,-,-,-,-,-,-,-,k12,-⟩:=hf
  obtain⟨f,j,-⟩:=he.hold [(0,_),(2,B8 (0))] ⟨f,rfl,trivial⟩ rfl
  clear he
  have hb:=eb z hb
  have hgr:w.grownBy w4 (some r):=Ab hgr z.grown (fun _ e=>by cases e)
  have hE:=hE.trans z
  have aa:ao 12 = .bool (true):=k12
  clear k12
  refine Yp.callA1 Cy aa ?_
  refine AV (Cb _ (true)) ?_ ?_
  rotate_left
  ·
   rintro ch w8 ⟨rfl,hb,hx⟩
   refine AD (A1 ?_)
   cases hb
  rintro v_ w9 ⟨rfl,bf,ab⟩
  have hb:=eb ab hb
  have hgr:w.grownBy w9 (some r):=Ab hgr ab.grown (fun _ e=>by cases e)
  have hE:=hE.trans ab
  intro ae af
  have f:ae 0=(PQ r 0:Value):=(af 0 (by decide)).trans f
  have j:ae 2=(B8 (0):Value):=(af 2 (by decide)).trans j
  have hr:=(hr.keep hE)
  refine tN (am _ _ (sk fun bg ar=>(wt (oM rfl (oS rfl (Yk.nilCheck f (oS rfl (Yk.fieldAt Bf (vr (PQ r 0) rfl) (oS rfl (Yk.cell1 Li rfl (vr (PQ r 1) rfl) (Al hb (show(Bz (Bj v b (i)))[1]? =some (NI i:Value)from Dg (Bj v b (i)))) (oS rfl (Yk.bin (xv:=NI i) (yv:=NI 1) rfl rfl rfl (AA _ _ _ (by omega)) (oS rfl (Yk.nilCheck f (oS rfl (Yk.fieldAt Bf (vr (PQ r 0) rfl) (oS rfl (Yk.storeC (i:=1) (v:=NI ((i)+(1))) (vr (PQ r 1) rfl) (vr (NI ((i)+(1))) rfl) hb (by rw[Ey];decide) Dd rfl rfl fun ag ah ai bh=> ?_))))))))))))))))))
  have hr:=RB.keptE hr ai hap
  have hgr:w.grownBy ag (some r):=Ab hgr ai (fun _ e=> .inl e)
  clear hE
  clear hb
  have hb:ag.heap[r]? =some (.cells (Bz ((⟨b,(((i)+(1):Nat):Int)⟩,⟨v⟩):D2)).toArray 68 (0,0)):=AG ah (Fu (Bj v b (i)) (((i)+(1):Nat):Int));clear ah
  have bi:=bl hb
  refine oZ (tN (ar _ _ (sk fun bj au=> ?_)))
  refine Bw [Is (PQ r 0),Is (PQ r 0),Is (PQ r 0),Is (v),Is (PQ r 0),Is (PQ r 0),Is (PQ r 1),Is (NI ((i)+(1))),Is (NI (((i)+(1))-(1))),PCell (B8 (b.getD (((i)+(1))-(1)) 0)),Is (B8 (b.getD (((i)+(1))-(1)) 0)),Is (B8 (b.getD (((i)+(1))-(1)) 0))] (by kernel_rfl) [21,22,23,24,25,26,27,28,29,30,31,2] (by kernel_rfl) (by kernel_rfl) (RS ⟨Stab.pcell _,(DG trivial)⟩) ?av ?hQ2003
  case av=>
   refine⟨?_,?_,?_,?_,?_,?_,?_,?_,?_,?_,?_,?_,trivial⟩
   ·refine Aa rfl fun σ w1 hC h=> ?_
    have g:=(Ae (h 0 (by decide))).trans f
    exact Yk.move g ⟨Ext.refl _,rfl⟩
   ·refine Aa rfl fun σ w1 hC h=> ?_
    have aw:=Ae (h 21 (by decide))
    exact Yk.nilCheck aw ⟨Ext.refl _,rfl⟩
   ·refine Aa rfl fun σ w1 hC h=> ?_
    have ax:=Ae (h 22 (by decide))
    exact Yk.fieldAt BP ax ⟨Ext.refl _,rfl⟩
   ·refine Aa rfl fun σ w1 hC h=> ?_
    have ay:=Ae (h 23 (by decide))
    exact Yk.cell1 Ek rfl ay (Al (eb hC hb) (show(Bz ((⟨b,(((i)+(1):Nat):Int)⟩,⟨v⟩):D2))[0]? =some (v:Value)from Dt ((⟨b,(((i)+(1):Nat):Int)⟩,⟨v⟩):D2))) ⟨Ext.refl _,rfl⟩
   ·refine Aa rfl fun σ w1 hC h=> ?_
    have g:=(Ae (h 0 (by decide))).trans f
    exact Yk.move g ⟨Ext.refl _,rfl⟩
   ·refine Aa rfl fun σ w1 hC h=> ?_
    have az:=Ae (h 25 (by decide))
    exact Yk.nilCheck az ⟨Ext.refl _,rfl⟩
   ·refine Aa rfl fun σ w1 hC h=> ?_
    have a0:=Ae (h 26 (by decide))
    exact Yk.fieldAt Bf a0 ⟨Ext.refl _,rfl⟩
   ·refine Aa rfl fun σ w1 hC h=> ?_
    have a1:=Ae (h 27 (by decide))
    exact Yk.cell1 Li rfl a1 (Al (eb hC hb) (show(Bz ((⟨b,(((i)+(1):Nat):Int)⟩,⟨v⟩):D2))[1]? =some (NI ((i)+(1)):Value)from Dg ((⟨b,(((i)+(1):Nat):Int)⟩,⟨v⟩):D2))) ⟨Ext.refl _,rfl⟩
   ·refine Aa rfl fun σ w1 hC h=> ?_
    have a2:=Ae (h 28 (by decide))
    exact Yk.bin (xv:=NI ((i)+(1))) (yv:=NI 1) a2 rfl rfl (B5 _ _ _ (by omega) (by omega)) ⟨Ext.refl _,rfl⟩
   ·refine Aa rfl fun σ w1 hC h=> ?_
    have a3:=Ae (h 24 (by decide))
    have a4:=Ae (h 29 (by decide))
    exact Yk.atRB (l:=b) (i:=((i)+(1))-(1)) Ek MH (RB.of (hr.keep hC) a3) a4 (by omega) fun _ h=>⟨Ext.refl _,h⟩
   ·refine Aa rfl fun σ w1 hC h=> ?_
    have a5:(PCell (B8 (b.getD (((i)+(1))-(1)) 0))) (σ 30) w1:=h 30 (by decide)
    exact Yk.loadC u5 rfl a5 ⟨Ext.refl _,rfl⟩
   ·refine Aa rfl fun σ w1 hC h=> ?_
    have a6:=Ae (h 31 (by decide))
    exact Yk.assign a6 ⟨Ext.refl _,rfl⟩
  intro aj a7 ac he hf
  obtain⟨-,-,-,-,-,-,-,-,-,-,-,k2,-⟩:=hf
  have f:aj 0=PQ r 0:=he.at_ f rfl
  clear he
  have hr:=hr.keep ac
  have hgr:w.grownBy a7 (some r):=Ab hgr ac.grown (fun _ e=>by cases e)
  have hb:=eb ac hb
  have j:aj 2=B8 (b.getD (((i)+(1))-(1)) 0):=k2
  clear k2
  refine tN (au _ _ (Am (CK (fn:=Tryz.f49) _ rfl [B8 (b.getD (((i)+(1))-(1)) 0)] (B8 (b.getD (((i)+(1))-(1)) 0)) rfl ⟨j,trivial⟩ ?_)))
  exact .inl ⟨_,rfl,_,_,hP,rfl,hb,hgr⟩
 have hP:DC b i=none:=if_neg hlt
 refine tN (ad _ _ (sk fun bk bm=> ?_))
 refine DP 10 _ [Is (PQ r 0),Is (PQ r 0),Is (PQ r 1),Is (NI i),Is (PQ r 0),Is (PQ r 0),Is (PQ r 0),Is (v),Is (NI b.length),Is (.bool (false))] (by kernel_rfl) [3,4,5,6,7,8,9,10,11,12,13] (by kernel_rfl) (by kernel_rfl) (by kernel_rfl) rfl rfl rfl (fun _ _=>trivial) (KO trivial) ?a8 ?hQ3001
 case a8=>
  refine⟨?_,?_,?_,?_,?_,?_,?_,?_,?_,?_,?_,trivial⟩
  ·refine A5 (Aa rfl fun σ w1 hC h=> ?_)
   have g:=(Ae (h 0 (by decide))).trans f
   exact Yk.move g ⟨Ext.refl _,rfl⟩
  ·refine A5 (Aa rfl fun σ w1 hC h=> ?_)
   have k:=Ae (h 3 (by decide))
   exact Yk.nilCheck k ⟨Ext.refl _,rfl⟩
  ·refine A5 (Aa rfl fun σ w1 hC h=> ?_)
   have m:=Ae (h 4 (by decide))
   exact Yk.fieldAt Bf m ⟨Ext.refl _,rfl⟩
  ·refine A5 (Aa rfl fun σ w1 hC h=> ?_)
   have o:=Ae (h 5 (by decide))
   exact Yk.cell1 Li rfl o (Al (eb hC hb) (show(Bz (Bj v b (i)))[1]? =some (NI i:Value)from Dg (Bj v b (i)))) ⟨Ext.refl _,rfl⟩
  ·refine A5 (Aa rfl fun σ w1 hC h=> ?_)
   have g:=(Ae (h 0 (by decide))).trans f
   exact Yk.move g ⟨Ext.refl _,rfl⟩
  ·refine A5 (Aa rfl fun σ w1 hC h=> ?_)
   have p:=Ae (h 7 (by decide))
   exact Yk.nilCheck p ⟨Ext.refl _,rfl⟩
  ·refine A5 (Aa rfl fun σ w1 hC h=> ?_)
   have q:=Ae (h 8 (by decide))
   exact Yk.fieldAt BP q ⟨Ext.refl _,rfl⟩
  ·refine A5 (Aa rfl fun σ w1 hC h=> ?_)
   have s:=Ae (h 9 (by decide))
   exact Yk.cell1 Ek rfl s (Al (eb hC hb) (show(Bz (Bj v b (i)))[0]? =some (v:Value)from Dt (Bj v b (i)))) ⟨Ext.refl _,rfl⟩
  ·refine A5 (Aa rfl fun σ w1 hC h=> ?_)
   have t:=Ae (h 10 (by decide))
   exact Yk.lenRB Ek (RB.of (hr.keep (hE.trans hC)) t) ⟨Ext.refl _,rfl⟩
  ·refine A5 (Aa rfl fun σ w1 hC h=> ?_)
   have u:=Ae (h 6 (by decide))
   have y:=Ae (h 11 (by decide))
   exact Yk.eqI (a:=(i:Nat)) (b:=(b.length:Nat)) u y (AX _ _ _ _) ⟨Ext.refl _,(congrArg Value.bool (decide_eq_false ((by omega))))⟩
  ·exact trivial
 intro a9 ba ak he hf
 obtain⟨-,-,-,-,-,-,-,-,-,k12,-⟩:=hf
 obtain⟨f,j,-⟩:=he.hold [(0,_),(2,B8 (0))] ⟨f,rfl,trivial⟩ rfl
 clear he
 have hb:=eb ak hb
 have hgr:w.grownBy ba (some r):=Ab hgr ak.grown (fun _ e=>by cases e)
 have aa:a9 12 = .bool (false):=k12
 clear k12
 refine Yp.callA1 Cy aa ?_
 refine AV (Cb _ (false)) ?_ ?_
 rotate_left
 ·
  rintro ch bn ⟨rfl,hb,hx⟩
  refine AD (A1 ?_)
  exact .inr ⟨_,rfl,hP,rfl,(Ab hgr hx.grown (fun _ e=>by cases e))⟩
 rintro v_ bo ⟨rfl,bb,bp⟩
 cases bb

theorem H1(w:World)(r:Nat)(v:Value)(b:Bs)(i:Nat)(hb:w.heap[r]? =some (.cells (Bz (Bj v b (i))).toArray 68 (0,0)))(hr:RB w v b)(hap:b= []∨OB v r)(hi:i≤b.length)(hl:b.length≤4611686018427387904)(most:Nat):
  Calls Tryz.prog 48 #[PQ r 0,NI most] w fun e w' =>(∃x,e = .returned x∧∃c n,BH b i most=some (c,n)∧x=NI c∧w'.heap[r]? =some (.cells (Bz (Bj v b (n))).toArray 68 (0,0))∧w.grownBy w' (some r))∨∃ch,e = .panicked ch∧BH b i most=none∧ch= [CS]∧w.grownBy w' (some r):=by
 have hlr:=(bl hb)
 have hgr:=World.grownBy.refl w (some r)
 refine CP (args:= [PQ r 0,NI most]) Tryz.func48 rfl 34 rfl (Nat.le_of_ble_eq_true rfl) ?_
 intro an hb
 have g:an 0=(PQ r 0:Value):=hb.get 0
 have l:an 1=(NI most:Value):=hb.get 1
 clear hb
 have hE:=Ext.refl w
 refine sk fun K1 af=>(wt (oA rfl (oZ ?_)))
 rcases hd:AT 0 (b.drop i)with _ | ⟨xn,xk⟩
 ·have hP:BH b i most=none:=by unfold BH Di;rw[hd];rfl
  refine tN (af _ _ (sk fun K2 au=> ?_))
  refine Bw [Is (PQ r 0),Is (PQ r 0),Is (PQ r 0),Is (v),Is (PQ r 0),Is (PQ r 0),Is (PQ r 1),Is (NI i),Is (.tuple #[NI 0,NI 0,NI 6]),Is (.tuple #[NI 0,NI 0,NI 6]),Is (NI 0),Is (NI 0),Is (NI 6),Is (NI 0),Is (NI 0),Is (NI 6)] (by kernel_rfl) [9,10,11,12,13,14,15,16,17,8,18,19,20,5,6,7] (by kernel_rfl) (by kernel_rfl) (EJ (CG trivial)) ?av ?hQ1001
  case av=>
   refine⟨?_,?_,?_,?_,?_,?_,?_,?_,?_,?_,?_,?_,?_,?_,?_,?_,trivial⟩
   ·refine Aa rfl fun σ w1 hC h=> ?_
    have j:=(Ae (h 0 (by decide))).trans g
    exact Yk.move j ⟨Ext.refl _,rfl⟩
   ·refine Aa rfl fun σ w1 hC h=> ?_
    have m:=Ae (h 9 (by decide))
    exact Yk.nilCheck m ⟨Ext.refl _,rfl⟩
   ·refine Aa rfl fun σ w1 hC h=> ?_
    have o:=Ae (h 10 (by decide))
    exact Yk.fieldAt BP o ⟨Ext.refl _,rfl⟩
   ·refine Aa rfl fun σ w1 hC h=> ?_
    have p:=Ae (h 11 (by decide))
    exact Yk.cell1 Ek rfl p (Al (eb hC hb) (show(Bz (Bj v b (i)))[0]? =some (v:Value)from Dt (Bj v b (i)))) ⟨Ext.refl _,rfl⟩
   ·refine Aa rfl fun σ w1 hC h=> ?_
    have j:=(Ae (h 0 (by decide))).trans g
    exact Yk.move j ⟨Ext.refl _,rfl⟩
   ·refine Aa rfl fun σ w1 hC h=> ?_
    have q:=Ae (h 13 (by decide))
    exact Yk.nilCheck q ⟨Ext.refl _,rfl⟩
   ·refine Aa rfl fun σ w1 hC h=> ?_
    have s:=Ae (h 14 (by decide))
    exact Yk.fieldAt Bf s ⟨Ext.refl _,rfl⟩
   ·refine Aa rfl fun σ w1 hC h=> ?_
    have t:=Ae (h 15 (by decide))
    exact Yk.cell1 Li rfl t (Al (eb hC hb) (show(Bz (Bj v b (i)))[1]? =some (NI i:Value)from Dg (Bj v b (i)))) ⟨Ext.refl _,rfl⟩
   ·refine Aa rfl fun σ w1 hC h=> ?_
    have u:=Ae (h 12 (by decide))
    have y:=Ae (h 16 (by decide))
    refine Yk.callA2 Hc u y ?_
    refine((show Calls _ _ _ _ (fun e k=>e = .returned (.tuple #[NI 0,NI 0,NI 6])∧Ext _ k)from(Ir _ v b (hr.keep (hE.trans hC)) i hi).mono fun e k ⟨h1,h2⟩=>by subst h2;subst h1;refine⟨?_,Ext.refl _⟩;rw[hd];rfl)).mono ?_
    rintro e k ⟨rfl,hx⟩
    exact⟨_,rfl,hx,rfl⟩
   ·refine Aa rfl fun σ w1 hC h=> ?_
    have z:=Ae (h 17 (by decide))
    exact Yk.move z ⟨Ext.refl _,rfl⟩
   ·refine Aa rfl fun σ w1 hC h=> ?_
    have f:=Ae (h 8 (by decide))
    exact Yk.extract (vs:= [NI 0,NI 0,NI 6]) f (show _=some (NI 0:Value)from rfl) ⟨Ext.refl _,rfl⟩
   ·refine Aa rfl fun σ w1 hC h=> ?_
    have f:=Ae (h 8 (by decide))
    exact Yk.extract (vs:= [NI 0,NI 0,NI 6]) f (show _=some (NI 0:Value)from rfl) ⟨Ext.refl _,rfl⟩
   ·refine Aa rfl fun σ w1 hC h=> ?_
    have f:=Ae (h 8 (by decide))
    exact Yk.extract (vs:= [NI 0,NI 0,NI 6]) f (show _=some (NI 6:Value)from rfl) ⟨Ext.refl _,rfl⟩
   ·refine Aa rfl fun σ w1 hC h=> ?_
    have aa:=Ae (h 18 (by decide))
    exact Yk.assign aa ⟨Ext.refl _,rfl⟩
   ·refine Aa rfl fun σ w1 hC h=> ?_
    have ab:=Ae (h 19 (by decide))
    exact Yk.assign ab ⟨Ext.refl _,rfl⟩
   ·refine Aa rfl fun σ w1 hC h=> ?_
    have ac:=Ae (h 20 (by decide))
    exact Yk.assign ac ⟨Ext.refl _,rfl⟩
  intro ag w4 ah he hf
  obtain⟨-,-,-,-,-,-,-,-,-,-,-,-,-,k5,k6,k7,-⟩:=hf
  obtain⟨g,l,T4,-⟩:=he.hold [(0,_),(1,_),(4,NI 0)] ⟨g,l,rfl,trivial⟩ rfl
  clear he
  have hb:=eb ah hb
  have hgr:w.grownBy w4 (some r):=Ab hgr ah.grown (fun _ e=>by cases e)
  have hE:=hE.trans ah
  have T5:ag 5=NI 0:=k5
  have T6:ag 6=NI 0:=k6
  have T7:ag 7=NI 6:=k7
  clear k5 k6 k7
  refine tN (au _ _ (sk fun K6 bd=>(wt (oM rfl (oS rfl (Yk.eqI (a:=(6:Nat)) (b:=(0:Nat)) T7 rfl (A2 _ _ _ _) (oM rfl (oN (d:=23) rfl rfl rfl (vr (.bool (false)) (congrArg Value.bool (decide_eq_false (by decide)))) rfl (oN (d:=23) rfl rfl rfl (vr (.bool (false)) (congrArg Value.bool (decide_eq_false (by decide)))) rfl (oN (d:=23) rfl rfl rfl (vr (.bool (false)) (congrArg Value.bool (decide_eq_false (by decide)))) rfl (oS rfl (Yk.pickF (vr (.bool (false)) (congrArg Value.bool (decide_eq_false (by decide)))) (vr (.bool (false)) rfl) (oP rfl (Yp.callA1 Cy (vr (.bool (false)) rfl) ?_))))))))))))))
  refine AV (Cb _ (false)) ?_ ?_
  rotate_left
  ·
   rintro ch w9 ⟨rfl,hb,hx⟩
   refine AD (A1 ?_)
   exact .inr ⟨_,rfl,hP,rfl,(Ab hgr hx.grown (fun _ e=>by cases e))⟩
  rintro v_ bf ⟨rfl,ax,bg⟩
  cases ax
 by_cases hm:xn≤most
 ·have hP:BH b i most=some (xn,i+xk):=by unfold BH Di;rw[hd];exact if_pos hm
  refine tN (af _ _ (sk fun bh ay=> ?_))
  refine Bw [Is (PQ r 0),Is (PQ r 0),Is (PQ r 0),Is (v),Is (PQ r 0),Is (PQ r 0),Is (PQ r 1),Is (NI i),Is (.tuple #[NI xn,NI (i+xk),NI 0]),Is (.tuple #[NI xn,NI (i+xk),NI 0]),Is (NI xn),Is (NI (i+xk)),Is (NI 0),Is (NI xn),Is (NI (i+xk)),Is (NI 0)] (by kernel_rfl) [9,10,11,12,13,14,15,16,17,8,18,19,20,5,6,7] (by kernel_rfl) (by kernel_rfl) (EJ (CG trivial)) ?az ?hQ2001
  case az=>
   refine⟨?_,?_,?_,?_,?_,?_,?_,?_,?_,?_,?_,?_,?_,?_,?_,?_,trivial⟩
   ·refine Aa rfl fun σ w1 hC h=> ?_
    have j:=(Ae (h 0 (by decide))).trans g
    exact Yk.move j ⟨Ext.refl _,rfl⟩
   ·refine Aa rfl fun σ w1 hC h=> ?_
    have m:=Ae (h 9 (by decide))
    exact Yk.nilCheck m ⟨Ext.refl _,rfl⟩
   ·refine Aa rfl fun σ w1 hC h=> ?_
    have o:=Ae (h 10 (by decide))
    exact Yk.fieldAt BP o ⟨Ext.refl _,rfl⟩
   ·refine Aa rfl fun σ w1 hC h=> ?_
    have p:=Ae (h 11 (by decide))
    exact Yk.cell1 Ek rfl p (Al (eb hC hb) (show(Bz (Bj v b (i)))[0]? =some (v:Value)from Dt (Bj v b (i)))) ⟨Ext.refl _,rfl⟩
   ·refine Aa rfl fun σ w1 hC h=> ?_
    have j:=(Ae (h 0 (by decide))).trans g
    exact Yk.move j ⟨Ext.refl _,rfl⟩
   ·refine Aa rfl fun σ w1 hC h=> ?_
    have q:=Ae (h 13 (by decide))
    exact Yk.nilCheck q ⟨Ext.refl _,rfl⟩
   ·refine Aa rfl fun σ w1 hC h=> ?_
    have s:=Ae (h 14 (by decide))
    exact Yk.fieldAt Bf s ⟨Ext.refl _,rfl⟩
   ·refine Aa rfl fun σ w1 hC h=> ?_
    have t:=Ae (h 15 (by decide))
    exact Yk.cell1 Li rfl t (Al (eb hC hb) (show(Bz (Bj v b (i)))[1]? =some (NI i:Value)from Dg (Bj v b (i)))) ⟨Ext.refl _,rfl⟩
   ·refine Aa rfl fun σ w1 hC h=> ?_
    have u:=Ae (h 12 (by decide))
    have y:=Ae (h 16 (by decide))
    refine Yk.callA2 Hc u y ?_
    refine((show Calls _ _ _ _ (fun e k=>e = .returned (.tuple #[NI xn,NI (i+xk),NI 0])∧Ext _ k)from(Ir _ v b (hr.keep (hE.trans hC)) i hi).mono fun e k ⟨h1,h2⟩=>by subst h2;subst h1;refine⟨?_,Ext.refl _⟩;rw[hd];rfl)).mono ?_
    rintro e k ⟨rfl,hx⟩
    exact⟨_,rfl,hx,rfl⟩
   ·refine Aa rfl fun σ w1 hC h=> ?_
    have z:=Ae (h 17 (by decide))
    exact Yk.move z ⟨Ext.refl _,rfl⟩
   ·refine Aa rfl fun σ w1 hC h=> ?_
    have f:=Ae (h 8 (by decide))
    exact Yk.extract (vs:= [NI xn,NI (i+xk),NI 0]) f (show _=some (NI xn:Value)from rfl) ⟨Ext.refl _,rfl⟩
   ·refine Aa rfl fun σ w1 hC h=> ?_
    have f:=Ae (h 8 (by decide))
    exact Yk.extract (vs:= [NI xn,NI (i+xk),NI 0]) f (show _=some (NI (i+xk):Value)from rfl) ⟨Ext.refl _,rfl⟩
   ·refine Aa rfl fun σ w1 hC h=> ?_
    have f:=Ae (h 8 (by decide))
    exact Yk.extract (vs:= [NI xn,NI (i+xk),NI 0]) f (show _=some (NI 0:Value)from rfl) ⟨Ext.refl _,rfl⟩
   ·refine Aa rfl fun σ w1 hC h=> ?_
    have aa:=Ae (h 18 (by decide))
    exact Yk.assign aa ⟨Ext.refl _,rfl⟩
   ·refine Aa rfl fun σ w1 hC h=> ?_
    have ab:=Ae (h 19 (by decide))
    exact Yk.assign ab ⟨Ext.refl _,rfl⟩
   ·refine Aa rfl fun σ w1 hC h=> ?_
    have ac:=Ae (h 20 (by decide))
    exact Yk.assign ac ⟨Ext.refl _,rfl⟩
  intro aj a0 ak he hf
  obtain⟨-,-,-,-,-,-,-,-,-,-,-,-,-,k5,k6,k7,-⟩:=hf
  obtain⟨g,l,T4,-⟩:=he.hold [(0,_),(1,_),(4,NI 0)] ⟨g,l,rfl,trivial⟩ rfl
  clear he
  have hb:=eb ak hb
  have hgr:w.grownBy a0 (some r):=Ab hgr ak.grown (fun _ e=>by cases e)
  have hE:=hE.trans ak
  have T5:aj 5=NI xn:=k5
  have T6:aj 6=NI (i+xk):=k6
  have T7:aj 7=NI 0:=k7
  clear k5 k6 k7
  refine tN (ay _ _ (sk fun bi a1=>(wt (oM rfl (oS rfl (Yk.eqI (a:=(0:Nat)) (b:=(0:Nat)) T7 rfl (A2 _ _ _ _) (oM rfl (oY (d:=23) rfl rfl (vr (.bool (true)) (congrArg Value.bool (decide_eq_true (rfl)))) (Yk.move T5 (oY (d:=23) rfl rfl (vr (.bool (true)) (congrArg Value.bool (decide_eq_true (rfl)))) (Yk.move l (oY (d:=23) rfl rfl (vr (.bool (true)) (congrArg Value.bool (decide_eq_true (rfl)))) (Yk.eqI (a:=(xn:Nat)) (b:=(most:Nat)) rfl rfl (Cs _ _ _ _) (oS rfl (Yk.pickT (vr (.bool (true)) (congrArg Value.bool (decide_eq_true (rfl)))) (vr (.bool (true)) (congrArg Value.bool (decide_eq_true (hm)))) (oP rfl (Yp.callA1 Cy (vr (.bool (true)) rfl) ?_)))))))))))))))))
  refine AV (Cb _ (true)) ?_ ?_
  rotate_left
  ·
   rintro ch bj ⟨rfl,hb,hx⟩
   refine AD (A1 ?_)
   cases hb
  rintro v_ a2 ⟨rfl,bk,al⟩
  have hb:=eb al hb
  have hgr:w.grownBy a2 (some r):=Ab hgr al.grown (fun _ e=>by cases e)
  have hE:=hE.trans al
  refine oZ (tN (a1 _ _ (sk fun bm a3=>(wt (oM rfl (oM rfl (oS rfl (Yk.nilCheck g (oS rfl (Yk.fieldAt Bf (vr (PQ r 0) rfl) (oS rfl (Yk.storeC (i:=1) (v:=NI (i+xk)) (vr (PQ r 1) rfl) T6 hb (by rw[Ey];decide) Dd rfl rfl fun ap aq a4 bn=> ?_))))))))))))
  have hgr:w.grownBy ap (some r):=Ab hgr a4 (fun _ e=> .inl e)
  clear hE
  clear hb
  have hb:ap.heap[r]? =some (.cells (Bz ((⟨b,((i+xk:Nat):Int)⟩,⟨v⟩):D2)).toArray 68 (0,0)):=AG aq (Fu (Bj v b (i)) ((i+xk:Nat):Int));clear aq
  have bo:=bl hb
  refine oZ (tN (a3 _ _ (sk fun bp a5=>(wt (oM rfl (oA rfl (oZ (tN (a5 _ _ (Am (CK (fn:=Tryz.f48) _ rfl [NI xn] (NI xn) rfl ⟨T5,trivial⟩ ?_)))))))))))
  exact .inl ⟨_,rfl,_,_,hP,rfl,hb,hgr⟩
 have hP:BH b i most=none:=by unfold BH Di;rw[hd];exact if_neg hm
 refine tN (af _ _ (sk fun bq a6=> ?_))
 refine Bw [Is (PQ r 0),Is (PQ r 0),Is (PQ r 0),Is (v),Is (PQ r 0),Is (PQ r 0),Is (PQ r 1),Is (NI i),Is (.tuple #[NI xn,NI (i+xk),NI 0]),Is (.tuple #[NI xn,NI (i+xk),NI 0]),Is (NI xn),Is (NI (i+xk)),Is (NI 0),Is (NI xn),Is (NI (i+xk)),Is (NI 0)] (by kernel_rfl) [9,10,11,12,13,14,15,16,17,8,18,19,20,5,6,7] (by kernel_rfl) (by kernel_rfl) (EJ (CG trivial)) ?a7 ?hQ3001
 case a7=>
  refine⟨?_,?_,?_,?_,?_,?_,?_,?_,?_,?_,?_,?_,?_,?_,?_,?_,trivial⟩
  ·refine Aa rfl fun σ w1 hC h=> ?_
   have j:=(Ae (h 0 (by decide))).trans g
   exact Yk.move j ⟨Ext.refl _,rfl⟩
  ·refine Aa rfl fun σ w1 hC h=> ?_
   have m:=Ae (h 9 (by decide))
   exact Yk.nilCheck m ⟨Ext.refl _,rfl⟩
  ·refine Aa rfl fun σ w1 hC h=> ?_
   have o:=Ae (h 10 (by decide))
   exact Yk.fieldAt BP o ⟨Ext.refl _,rfl⟩
  ·refine Aa rfl fun σ w1 hC h=> ?_
   have p:=Ae (h 11 (by decide))
   exact Yk.cell1 Ek rfl p (Al (eb hC hb) (show(Bz (Bj v b (i)))[0]? =some (v:Value)from Dt (Bj v b (i)))) ⟨Ext.refl _,rfl⟩
  ·refine Aa rfl fun σ w1 hC h=> ?_
   have j:=(Ae (h 0 (by decide))).trans g
   exact Yk.move j ⟨Ext.refl _,rfl⟩
  ·refine Aa rfl fun σ w1 hC h=> ?_
   have q:=Ae (h 13 (by decide))
   exact Yk.nilCheck q ⟨Ext.refl _,rfl⟩
  ·refine Aa rfl fun σ w1 hC h=> ?_
   have s:=Ae (h 14 (by decide))
   exact Yk.fieldAt Bf s ⟨Ext.refl _,rfl⟩
  ·refine Aa rfl fun σ w1 hC h=> ?_
   have t:=Ae (h 15 (by decide))
   exact Yk.cell1 Li rfl t (Al (eb hC hb) (show(Bz (Bj v b (i)))[1]? =some (NI i:Value)from Dg (Bj v b (i)))) ⟨Ext.refl _,rfl⟩
  ·refine Aa rfl fun σ w1 hC h=> ?_
   have u:=Ae (h 12 (by decide))
   have y:=Ae (h 16 (by decide))
   refine Yk.callA2 Hc u y ?_
   refine((show Calls _ _ _ _ (fun e k=>e = .returned (.tuple #[NI xn,NI (i+xk),NI 0])∧Ext _ k)from(Ir _ v b (hr.keep (hE.trans hC)) i hi).mono fun e k ⟨h1,h2⟩=>by subst h2;subst h1;refine⟨?_,Ext.refl _⟩;rw[hd];rfl)).mono ?_
   rintro e k ⟨rfl,hx⟩
   exact⟨_,rfl,hx,rfl⟩
  ·refine Aa rfl fun σ w1 hC h=> ?_
   have z:=Ae (h 17 (by decide))
   exact Yk.move z ⟨Ext.refl _,rfl⟩
  ·refine Aa rfl fun σ w1 hC h=> ?_
   have f:=Ae (h 8 (by decide))
   exact Yk.extract (vs:= [NI xn,NI (i+xk),NI 0]) f (show _=some (NI xn:Value)from rfl) ⟨Ext.refl _,rfl⟩
  ·refine Aa rfl fun σ w1 hC h=> ?_
   have f:=Ae (h 8 (by decide))
   exact Yk.extract (vs:= [NI xn,NI (i+xk),NI 0]) f (show _=some (NI (i+xk):Value)from rfl) ⟨Ext.refl _,rfl⟩
  ·refine Aa rfl fun σ w1 hC h=> ?_
   have f:=Ae (h 8 (by decide))
   exact Yk.extract (vs:= [NI xn,NI (i+xk),NI 0]) f (show _=some (NI 0:Value)from rfl) ⟨Ext.refl _,rfl⟩
  ·refine Aa rfl fun σ w1 hC h=> ?_
   have aa:=Ae (h 18 (by decide))
   exact Yk.assign aa ⟨Ext.refl _,rfl⟩
  ·refine Aa rfl fun σ w1 hC h=> ?_
   have ab:=Ae (h 19 (by decide))
   exact Yk.assign ab ⟨Ext.refl _,rfl⟩
  ·refine Aa rfl fun σ w1 hC h=> ?_
   have ac:=Ae (h 20 (by decide))
   exact Yk.assign ac ⟨Ext.refl _,rfl⟩
 intro am a8 ar he hf
 obtain⟨-,-,-,-,-,-,-,-,-,-,-,-,-,k5,k6,k7,-⟩:=hf
 obtain⟨g,l,T4,-⟩:=he.hold [(0,_),(1,_),(4,NI 0)] ⟨g,l,rfl,trivial⟩ rfl
 clear he
 have hb:=eb ar hb
 have hgr:w.grownBy a8 (some r):=Ab hgr ar.grown (fun _ e=>by cases e)
 have T5:am 5=NI xn:=k5
 have T6:am 6=NI (i+xk):=k6
 have T7:am 7=NI 0:=k7
 clear k5 k6 k7
 refine tN (a6 _ _ (sk fun br bs=>(wt (oM rfl (oS rfl (Yk.eqI (a:=(0:Nat)) (b:=(0:Nat)) T7 rfl (A2 _ _ _ _) (oM rfl (oY (d:=23) rfl rfl (vr (.bool (true)) (congrArg Value.bool (decide_eq_true (rfl)))) (Yk.move T5 (oY (d:=23) rfl rfl (vr (.bool (true)) (congrArg Value.bool (decide_eq_true (rfl)))) (Yk.move l (oY (d:=23) rfl rfl (vr (.bool (true)) (congrArg Value.bool (decide_eq_true (rfl)))) (Yk.eqI (a:=(xn:Nat)) (b:=(most:Nat)) rfl rfl (Cs _ _ _ _) (oS rfl (Yk.pickT (vr (.bool (true)) (congrArg Value.bool (decide_eq_true (rfl)))) (vr (.bool (false)) (congrArg Value.bool (decide_eq_false (hm)))) (oP rfl (Yp.callA1 Cy (vr (.bool (false)) rfl) ?_)))))))))))))))))
 refine AV (Cb _ (false)) ?_ ?_
 rotate_left
 ·
  rintro ch bt ⟨rfl,hb,hx⟩
  refine AD (A1 ?_)
  exact .inr ⟨_,rfl,hP,rfl,(Ab hgr hx.grown (fun _ e=>by cases e))⟩
 rintro v_ bu ⟨rfl,a9,bv⟩
 cases a9

theorem FC(w:World)(r:Nat)(v:Value)(b:Bs)(i:Nat)(hb:w.heap[r]? =some (.cells (Bz (Bj v b (i))).toArray 68 (0,0)))(hr:RB w v b)(hap:b= []∨OB v r)(hi:i≤b.length)(hl:b.length≤4611686018427387904):
  Calls Tryz.prog 46 #[PQ r 0] w fun e w' =>(∃x,e = .returned x∧∃c n,BB b i 256=some (c,n)∧x=St c∧w'.heap[r]? =some (.cells (Bz (Bj v b (n))).toArray 68 (0,0))∧w.grownBy w' (some r))∨∃ch,e = .panicked ch∧BB b i 256=none∧ch= [CS]∧w.grownBy w' (some r):=by
 have hlr:=(bl hb)
 have hgr:=World.grownBy.refl w (some r)
 refine CP (args:= [PQ r 0]) Tryz.func46 rfl 27 rfl (Nat.le_of_ble_eq_true rfl) ?_
 intro a4 hb
 have g:a4 0=(PQ r 0:Value):=hb.get 0
 clear hb
 have hE:=Ext.refl w
 refine sk fun K1 af=>(wt (oA rfl (oZ ?_)))
 rcases hd:AT 0 (b.drop i)with _ | ⟨xn,xk⟩
 ·have hP:BB b i 256=none:=by unfold BB;rw[hd]
  refine tN (af _ _ (sk fun K2 a5=> ?_))
  refine Bw [Is (PQ r 0),Is (PQ r 0),Is (PQ r 0),Is (v),Is (PQ r 0),Is (PQ r 0),Is (PQ r 1),Is (NI i),Is (.tuple #[St (([]:List UInt8)),NI 0,NI 6]),Is (.tuple #[St (([]:List UInt8)),NI 0,NI 6]),Is (St (([]:List UInt8))),Is (NI 0),Is (NI 6),Is (St (([]:List UInt8))),Is (NI 0),Is (NI 6)] (by kernel_rfl) [7,8,9,10,11,12,13,14,15,6,16,17,18,3,4,5] (by kernel_rfl) (by kernel_rfl) (EJ (CG trivial)) ?a6 ?hQ1001
  case a6=>
   refine⟨?_,?_,?_,?_,?_,?_,?_,?_,?_,?_,?_,?_,?_,?_,?_,?_,trivial⟩
   ·refine Aa rfl fun σ w1 hC h=> ?_
    have j:=(Ae (h 0 (by decide))).trans g
    exact Yk.move j ⟨Ext.refl _,rfl⟩
   ·refine Aa rfl fun σ w1 hC h=> ?_
    have l:=Ae (h 7 (by decide))
    exact Yk.nilCheck l ⟨Ext.refl _,rfl⟩
   ·refine Aa rfl fun σ w1 hC h=> ?_
    have m:=Ae (h 8 (by decide))
    exact Yk.fieldAt BP m ⟨Ext.refl _,rfl⟩
   ·refine Aa rfl fun σ w1 hC h=> ?_
    have o:=Ae (h 9 (by decide))
    exact Yk.cell1 Ek rfl o (Al (eb hC hb) (show(Bz (Bj v b (i)))[0]? =some (v:Value)from Dt (Bj v b (i)))) ⟨Ext.refl _,rfl⟩
   ·refine Aa rfl fun σ w1 hC h=> ?_
    have j:=(Ae (h 0 (by decide))).trans g
    exact Yk.move j ⟨Ext.refl _,rfl⟩
   ·refine Aa rfl fun σ w1 hC h=> ?_
    have p:=Ae (h 11 (by decide))
    exact Yk.nilCheck p ⟨Ext.refl _,rfl⟩
   ·refine Aa rfl fun σ w1 hC h=> ?_
    have q:=Ae (h 12 (by decide))
    exact Yk.fieldAt Bf q ⟨Ext.refl _,rfl⟩
   ·refine Aa rfl fun σ w1 hC h=> ?_
    have s:=Ae (h 13 (by decide))
    exact Yk.cell1 Li rfl s (Al (eb hC hb) (show(Bz (Bj v b (i)))[1]? =some (NI i:Value)from Dg (Bj v b (i)))) ⟨Ext.refl _,rfl⟩
   ·refine Aa rfl fun σ w1 hC h=> ?_
    have t:=Ae (h 10 (by decide))
    have u:=Ae (h 14 (by decide))
    refine Yk.callA3 FB t u (vr (NI 256) rfl) ?_
    refine((show Calls _ _ _ _ (fun e k=>e = .returned (.tuple #[St (([]:List UInt8)),NI 0,NI 6])∧Ext _ k)from(EQ _ v b (hr.keep (hE.trans hC)) i hi 256).mono fun e k ⟨h1,h2⟩=>by subst h2;subst h1;refine⟨?_,Ext.refl _⟩;unfold BV;rw[hd];simp only;rfl)).mono ?_
    rintro e k ⟨rfl,hx⟩
    exact⟨_,rfl,hx,rfl⟩
   ·refine Aa rfl fun σ w1 hC h=> ?_
    have y:=Ae (h 15 (by decide))
    exact Yk.move y ⟨Ext.refl _,rfl⟩
   ·refine Aa rfl fun σ w1 hC h=> ?_
    have f:=Ae (h 6 (by decide))
    exact Yk.extract (vs:= [St (([]:List UInt8)),NI 0,NI 6]) f (show _=some (St (([]:List UInt8)):Value)from rfl) ⟨Ext.refl _,rfl⟩
   ·refine Aa rfl fun σ w1 hC h=> ?_
    have f:=Ae (h 6 (by decide))
    exact Yk.extract (vs:= [St (([]:List UInt8)),NI 0,NI 6]) f (show _=some (NI 0:Value)from rfl) ⟨Ext.refl _,rfl⟩
   ·refine Aa rfl fun σ w1 hC h=> ?_
    have f:=Ae (h 6 (by decide))
    exact Yk.extract (vs:= [St (([]:List UInt8)),NI 0,NI 6]) f (show _=some (NI 6:Value)from rfl) ⟨Ext.refl _,rfl⟩
   ·refine Aa rfl fun σ w1 hC h=> ?_
    have z:=Ae (h 16 (by decide))
    exact Yk.assign z ⟨Ext.refl _,rfl⟩
   ·refine Aa rfl fun σ w1 hC h=> ?_
    have aa:=Ae (h 17 (by decide))
    exact Yk.assign aa ⟨Ext.refl _,rfl⟩
   ·refine Aa rfl fun σ w1 hC h=> ?_
    have ab:=Ae (h 18 (by decide))
    exact Yk.assign ab ⟨Ext.refl _,rfl⟩
  intro ah w4 ai he hf
  obtain⟨-,-,-,-,-,-,-,-,-,-,-,-,-,k3,k4,k5,-⟩:=hf
  obtain⟨g,T2,-⟩:=he.hold [(0,_),(2,St (([]:List UInt8)))] ⟨g,rfl,trivial⟩ rfl
  clear he
  have hb:=eb ai hb
  have hgr:w.grownBy w4 (some r):=Ab hgr ai.grown (fun _ e=>by cases e)
  have hE:=hE.trans ai
  have T3:ah 3=St (([]:List UInt8)):=k3
  have T4:ah 4=NI 0:=k4
  have T5:ah 5=NI 6:=k5
  clear k3 k4 k5
  refine tN (a5 _ _ (sk fun K6 a8=>(wt (oM rfl (oS rfl (Yk.eqI (a:=(6:Nat)) (b:=(0:Nat)) T5 rfl (A2 _ _ _ _) (oP rfl (Yp.callA1 Cy (vr (.bool (decide ((6:Nat)=(0)))) rfl) ?_))))))))
  refine AV (Cb _ (decide ((6:Nat)=(0)))) ?_ ?_
  rotate_left
  ·
   rintro ch w9 ⟨rfl,hb,hx⟩
   refine AD (A1 ?_)
   have hno:=of_decide_eq_false hb
   exact .inr ⟨_,rfl,hP,rfl,(Ab hgr hx.grown (fun _ e=>by cases e))⟩
  rintro v_ a9 ⟨rfl,ba,ak⟩
  have hb:=eb ak hb
  have hgr:w.grownBy a9 (some r):=Ab hgr ak.grown (fun _ e=>by cases e)
  have hE:=hE.trans ak
  have cb:=of_decide_eq_true ba
  refine oZ (tN (a8 _ _ (sk fun cc bb=>(wt (oM rfl (oM rfl (oS rfl (Yk.nilCheck g (oS rfl (Yk.fieldAt Bf (vr (PQ r 0) rfl) (oS rfl (Yk.storeC (i:=1) (v:=NI 0) (vr (PQ r 1) rfl) T4 hb (by rw[Ey];decide) Dd rfl rfl fun au av bc cd=> ?_))))))))))))
  have hgr:w.grownBy au (some r):=Ab hgr bc (fun _ e=> .inl e)
  clear hE
  clear hb
  have hb:au.heap[r]? =some (.cells (Bz ((⟨b,((0:Nat):Int)⟩,⟨v⟩):D2)).toArray 68 (0,0)):=AG av (Fu (Bj v b (i)) ((0:Nat):Int));clear av
  have ce:=bl hb
  refine oZ (tN (bb _ _ (sk fun cf bd=>(wt (oM rfl (oA rfl (oZ (tN (bd _ _ (Am (CK (fn:=Tryz.f46) _ rfl [St (([]:List UInt8))] (St (([]:List UInt8))) rfl ⟨T3,trivial⟩ ?_)))))))))))
  omega
 by_cases hm:256<xn
 ·have hP:BB b i 256=none:=by unfold BB;rw[hd];exact if_pos hm
  refine tN (af _ _ (sk fun cg be=> ?_))
  refine Bw [Is (PQ r 0),Is (PQ r 0),Is (PQ r 0),Is (v),Is (PQ r 0),Is (PQ r 0),Is (PQ r 1),Is (NI i),Is (.tuple #[St (([]:List UInt8)),NI 0,NI 2]),Is (.tuple #[St (([]:List UInt8)),NI 0,NI 2]),Is (St (([]:List UInt8))),Is (NI 0),Is (NI 2),Is (St (([]:List UInt8))),Is (NI 0),Is (NI 2)] (by kernel_rfl) [7,8,9,10,11,12,13,14,15,6,16,17,18,3,4,5] (by kernel_rfl) (by kernel_rfl) (EJ (CG trivial)) ?bf ?hQ2001
  case bf=>
   refine⟨?_,?_,?_,?_,?_,?_,?_,?_,?_,?_,?_,?_,?_,?_,?_,?_,trivial⟩
   ·refine Aa rfl fun σ w1 hC h=> ?_
    have j:=(Ae (h 0 (by decide))).trans g
    exact Yk.move j ⟨Ext.refl _,rfl⟩
   ·refine Aa rfl fun σ w1 hC h=> ?_
    have l:=Ae (h 7 (by decide))
    exact Yk.nilCheck l ⟨Ext.refl _,rfl⟩
   ·refine Aa rfl fun σ w1 hC h=> ?_
    have m:=Ae (h 8 (by decide))
    exact Yk.fieldAt BP m ⟨Ext.refl _,rfl⟩
   ·refine Aa rfl fun σ w1 hC h=> ?_
    have o:=Ae (h 9 (by decide))
    exact Yk.cell1 Ek rfl o (Al (eb hC hb) (show(Bz (Bj v b (i)))[0]? =some (v:Value)from Dt (Bj v b (i)))) ⟨Ext.refl _,rfl⟩
   ·refine Aa rfl fun σ w1 hC h=> ?_
    have j:=(Ae (h 0 (by decide))).trans g
    exact Yk.move j ⟨Ext.refl _,rfl⟩
   ·refine Aa rfl fun σ w1 hC h=> ?_
    have p:=Ae (h 11 (by decide))
    exact Yk.nilCheck p ⟨Ext.refl _,rfl⟩
   ·refine Aa rfl fun σ w1 hC h=> ?_
    have q:=Ae (h 12 (by decide))
    exact Yk.fieldAt Bf q ⟨Ext.refl _,rfl⟩
   ·refine Aa rfl fun σ w1 hC h=> ?_
    have s:=Ae (h 13 (by decide))
    exact Yk.cell1 Li rfl s (Al (eb hC hb) (show(Bz (Bj v b (i)))[1]? =some (NI i:Value)from Dg (Bj v b (i)))) ⟨Ext.refl _,rfl⟩
   ·refine Aa rfl fun σ w1 hC h=> ?_
    have t:=Ae (h 10 (by decide))
    have u:=Ae (h 14 (by decide))
    refine Yk.callA3 FB t u (vr (NI 256) rfl) ?_
    refine((show Calls _ _ _ _ (fun e k=>e = .returned (.tuple #[St (([]:List UInt8)),NI 0,NI 2])∧Ext _ k)from(EQ _ v b (hr.keep (hE.trans hC)) i hi 256).mono fun e k ⟨h1,h2⟩=>by subst h2;subst h1;refine⟨?_,Ext.refl _⟩;unfold BV;rw[hd];simp only;rw[if_pos (by omega)];rfl)).mono ?_
    rintro e k ⟨rfl,hx⟩
    exact⟨_,rfl,hx,rfl⟩
   ·refine Aa rfl fun σ w1 hC h=> ?_
    have y:=Ae (h 15 (by decide))
    exact Yk.move y ⟨Ext.refl _,rfl⟩
   ·refine Aa rfl fun σ w1 hC h=> ?_
    have f:=Ae (h 6 (by decide))
    exact Yk.extract (vs:= [St (([]:List UInt8)),NI 0,NI 2]) f (show _=some (St (([]:List UInt8)):Value)from rfl) ⟨Ext.refl _,rfl⟩
   ·refine Aa rfl fun σ w1 hC h=> ?_
    have f:=Ae (h 6 (by decide))
    exact Yk.extract (vs:= [St (([]:List UInt8)),NI 0,NI 2]) f (show _=some (NI 0:Value)from rfl) ⟨Ext.refl _,rfl⟩
   ·refine Aa rfl fun σ w1 hC h=> ?_
    have f:=Ae (h 6 (by decide))
    exact Yk.extract (vs:= [St (([]:List UInt8)),NI 0,NI 2]) f (show _=some (NI 2:Value)from rfl) ⟨Ext.refl _,rfl⟩
   ·refine Aa rfl fun σ w1 hC h=> ?_
    have z:=Ae (h 16 (by decide))
    exact Yk.assign z ⟨Ext.refl _,rfl⟩
   ·refine Aa rfl fun σ w1 hC h=> ?_
    have aa:=Ae (h 17 (by decide))
    exact Yk.assign aa ⟨Ext.refl _,rfl⟩
   ·refine Aa rfl fun σ w1 hC h=> ?_
    have ab:=Ae (h 18 (by decide))
    exact Yk.assign ab ⟨Ext.refl _,rfl⟩
  intro al bg am he hf
  obtain⟨-,-,-,-,-,-,-,-,-,-,-,-,-,k3,k4,k5,-⟩:=hf
  obtain⟨g,T2,-⟩:=he.hold [(0,_),(2,St (([]:List UInt8)))] ⟨g,rfl,trivial⟩ rfl
  clear he
  have hb:=eb am hb
  have hgr:w.grownBy bg (some r):=Ab hgr am.grown (fun _ e=>by cases e)
  have hE:=hE.trans am
  have T3:al 3=St (([]:List UInt8)):=k3
  have T4:al 4=NI 0:=k4
  have T5:al 5=NI 2:=k5
  clear k3 k4 k5
  refine tN (be _ _ (sk fun ci bh=>(wt (oM rfl (oS rfl (Yk.eqI (a:=(2:Nat)) (b:=(0:Nat)) T5 rfl (A2 _ _ _ _) (oP rfl (Yp.callA1 Cy (vr (.bool (decide ((2:Nat)=(0)))) rfl) ?_))))))))
  refine AV (Cb _ (decide ((2:Nat)=(0)))) ?_ ?_
  rotate_left
  ·
   rintro ch cj ⟨rfl,hb,hx⟩
   refine AD (A1 ?_)
   have hno:=of_decide_eq_false hb
   exact .inr ⟨_,rfl,hP,rfl,(Ab hgr hx.grown (fun _ e=>by cases e))⟩
  rintro v_ bi ⟨rfl,bj,an⟩
  have hb:=eb an hb
  have hgr:w.grownBy bi (some r):=Ab hgr an.grown (fun _ e=>by cases e)
  have hE:=hE.trans an
  have ck:=of_decide_eq_true bj
  refine oZ (tN (bh _ _ (sk fun cl bk=>(wt (oM rfl (oM rfl (oS rfl (Yk.nilCheck g (oS rfl (Yk.fieldAt Bf (vr (PQ r 0) rfl) (oS rfl (Yk.storeC (i:=1) (v:=NI 0) (vr (PQ r 1) rfl) T4 hb (by rw[Ey];decide) Dd rfl rfl fun aw ax bm cm=> ?_))))))))))))
  have hgr:w.grownBy aw (some r):=Ab hgr bm (fun _ e=> .inl e)
  clear hE
  clear hb
  have hb:aw.heap[r]? =some (.cells (Bz ((⟨b,((0:Nat):Int)⟩,⟨v⟩):D2)).toArray 68 (0,0)):=AG ax (Fu (Bj v b (i)) ((0:Nat):Int));clear ax
  have cn:=bl hb
  refine oZ (tN (bk _ _ (sk fun co bn=>(wt (oM rfl (oA rfl (oZ (tN (bn _ _ (Am (CK (fn:=Tryz.f46) _ rfl [St (([]:List UInt8))] (St (([]:List UInt8))) rfl ⟨T3,trivial⟩ ?_)))))))))))
  omega
 by_cases ag:b.length<i+xk+xn
 ·have hP:BB b i 256=none:=by unfold BB;rw[hd];exact(if_neg hm).trans (if_pos ag)
  refine tN (af _ _ (sk fun cp bo=> ?_))
  refine Bw [Is (PQ r 0),Is (PQ r 0),Is (PQ r 0),Is (v),Is (PQ r 0),Is (PQ r 0),Is (PQ r 1),Is (NI i),Is (.tuple #[St (([]:List UInt8)),NI 0,NI 6]),Is (.tuple #[St (([]:List UInt8)),NI 0,NI 6]),Is (St (([]:List UInt8))),Is (NI 0),Is (NI 6),Is (St (([]:List UInt8))),Is (NI 0),Is (NI 6)] (by kernel_rfl) [7,8,9,10,11,12,13,14,15,6,16,17,18,3,4,5] (by kernel_rfl) (by kernel_rfl) (EJ (CG trivial)) ?bp ?hQ3001
  case bp=>
   refine⟨?_,?_,?_,?_,?_,?_,?_,?_,?_,?_,?_,?_,?_,?_,?_,?_,trivial⟩
   ·refine Aa rfl fun σ w1 hC h=> ?_
    have j:=(Ae (h 0 (by decide))).trans g
    exact Yk.move j ⟨Ext.refl _,rfl⟩
   ·refine Aa rfl fun σ w1 hC h=> ?_
    have l:=Ae (h 7 (by decide))
    exact Yk.nilCheck l ⟨Ext.refl _,rfl⟩
   ·refine Aa rfl fun σ w1 hC h=> ?_
    have m:=Ae (h 8 (by decide))
    exact Yk.fieldAt BP m ⟨Ext.refl _,rfl⟩
   ·refine Aa rfl fun σ w1 hC h=> ?_
    have o:=Ae (h 9 (by decide))
    exact Yk.cell1 Ek rfl o (Al (eb hC hb) (show(Bz (Bj v b (i)))[0]? =some (v:Value)from Dt (Bj v b (i)))) ⟨Ext.refl _,rfl⟩
   ·refine Aa rfl fun σ w1 hC h=> ?_
    have j:=(Ae (h 0 (by decide))).trans g
    exact Yk.move j ⟨Ext.refl _,rfl⟩
   ·refine Aa rfl fun σ w1 hC h=> ?_
    have p:=Ae (h 11 (by decide))
    exact Yk.nilCheck p ⟨Ext.refl _,rfl⟩
   ·refine Aa rfl fun σ w1 hC h=> ?_
    have q:=Ae (h 12 (by decide))
    exact Yk.fieldAt Bf q ⟨Ext.refl _,rfl⟩
   ·refine Aa rfl fun σ w1 hC h=> ?_
    have s:=Ae (h 13 (by decide))
    exact Yk.cell1 Li rfl s (Al (eb hC hb) (show(Bz (Bj v b (i)))[1]? =some (NI i:Value)from Dg (Bj v b (i)))) ⟨Ext.refl _,rfl⟩
   ·refine Aa rfl fun σ w1 hC h=> ?_
    have t:=Ae (h 10 (by decide))
    have u:=Ae (h 14 (by decide))
    refine Yk.callA3 FB t u (vr (NI 256) rfl) ?_
    refine((show Calls _ _ _ _ (fun e k=>e = .returned (.tuple #[St (([]:List UInt8)),NI 0,NI 6])∧Ext _ k)from(EQ _ v b (hr.keep (hE.trans hC)) i hi 256).mono fun e k ⟨h1,h2⟩=>by subst h2;subst h1;refine⟨?_,Ext.refl _⟩;unfold BV;rw[hd];simp only;rw[if_neg (by omega),if_pos ag];rfl)).mono ?_
    rintro e k ⟨rfl,hx⟩
    exact⟨_,rfl,hx,rfl⟩
   ·refine Aa rfl fun σ w1 hC h=> ?_
    have y:=Ae (h 15 (by decide))
    exact Yk.move y ⟨Ext.refl _,rfl⟩
   ·refine Aa rfl fun σ w1 hC h=> ?_
    have f:=Ae (h 6 (by decide))
    exact Yk.extract (vs:= [St (([]:List UInt8)),NI 0,NI 6]) f (show _=some (St (([]:List UInt8)):Value)from rfl) ⟨Ext.refl _,rfl⟩
   ·refine Aa rfl fun σ w1 hC h=> ?_
    have f:=Ae (h 6 (by decide))
    exact Yk.extract (vs:= [St (([]:List UInt8)),NI 0,NI 6]) f (show _=some (NI 0:Value)from rfl) ⟨Ext.refl _,rfl⟩
   ·refine Aa rfl fun σ w1 hC h=> ?_
    have f:=Ae (h 6 (by decide))
    exact Yk.extract (vs:= [St (([]:List UInt8)),NI 0,NI 6]) f (show _=some (NI 6:Value)from rfl) ⟨Ext.refl _,rfl⟩
   ·refine Aa rfl fun σ w1 hC h=> ?_
    have z:=Ae (h 16 (by decide))
    exact Yk.assign z ⟨Ext.refl _,rfl⟩
   ·refine Aa rfl fun σ w1 hC h=> ?_
    have aa:=Ae (h 17 (by decide))
    exact Yk.assign aa ⟨Ext.refl _,rfl⟩
   ·refine Aa rfl fun σ w1 hC h=> ?_
    have ab:=Ae (h 18 (by decide))
    exact Yk.assign ab ⟨Ext.refl _,rfl⟩
  intro ao bq ap he hf
  obtain⟨-,-,-,-,-,-,-,-,-,-,-,-,-,k3,k4,k5,-⟩:=hf
  obtain⟨g,T2,-⟩:=he.hold [(0,_),(2,St (([]:List UInt8)))] ⟨g,rfl,trivial⟩ rfl
  clear he
  have hb:=eb ap hb
  have hgr:w.grownBy bq (some r):=Ab hgr ap.grown (fun _ e=>by cases e)
  have hE:=hE.trans ap
  have T3:ao 3=St (([]:List UInt8)):=k3
  have T4:ao 4=NI 0:=k4
  have T5:ao 5=NI 6:=k5
  clear k3 k4 k5
  refine tN (bo _ _ (sk fun cq br=>(wt (oM rfl (oS rfl (Yk.eqI (a:=(6:Nat)) (b:=(0:Nat)) T5 rfl (A2 _ _ _ _) (oP rfl (Yp.callA1 Cy (vr (.bool (decide ((6:Nat)=(0)))) rfl) ?_))))))))
  refine AV (Cb _ (decide ((6:Nat)=(0)))) ?_ ?_
  rotate_left
  ·
   rintro ch cr ⟨rfl,hb,hx⟩
   refine AD (A1 ?_)
   have hno:=of_decide_eq_false hb
   exact .inr ⟨_,rfl,hP,rfl,(Ab hgr hx.grown (fun _ e=>by cases e))⟩
  rintro v_ bs ⟨rfl,bt,aq⟩
  have hb:=eb aq hb
  have hgr:w.grownBy bs (some r):=Ab hgr aq.grown (fun _ e=>by cases e)
  have hE:=hE.trans aq
  have cs:=of_decide_eq_true bt
  refine oZ (tN (br _ _ (sk fun ct bu=>(wt (oM rfl (oM rfl (oS rfl (Yk.nilCheck g (oS rfl (Yk.fieldAt Bf (vr (PQ r 0) rfl) (oS rfl (Yk.storeC (i:=1) (v:=NI 0) (vr (PQ r 1) rfl) T4 hb (by rw[Ey];decide) Dd rfl rfl fun ay az bv cu=> ?_))))))))))))
  have hgr:w.grownBy ay (some r):=Ab hgr bv (fun _ e=> .inl e)
  clear hE
  clear hb
  have hb:ay.heap[r]? =some (.cells (Bz ((⟨b,((0:Nat):Int)⟩,⟨v⟩):D2)).toArray 68 (0,0)):=AG az (Fu (Bj v b (i)) ((0:Nat):Int));clear az
  have cv:=bl hb
  refine oZ (tN (bu _ _ (sk fun cw bw=>(wt (oM rfl (oA rfl (oZ (tN (bw _ _ (Am (CK (fn:=Tryz.f46) _ rfl [St (([]:List UInt8))] (St (([]:List UInt8))) rfl ⟨T3,trivial⟩ ?_)))))))))))
  omega
 have hP:BB b i 256=some ((b.drop (i+xk)).take xn,i+xk+xn):=by unfold BB;rw[hd];exact(if_neg hm).trans (if_neg ag)
 refine tN (af _ _ (sk fun cx bx=> ?_))
 refine Bw [Is (PQ r 0),Is (PQ r 0),Is (PQ r 0),Is (v),Is (PQ r 0),Is (PQ r 0),Is (PQ r 1),Is (NI i),Is (.tuple #[St (((b.drop (i+xk)).take xn)),NI (i+xk+xn),NI 0]),Is (.tuple #[St (((b.drop (i+xk)).take xn)),NI (i+xk+xn),NI 0]),Is (St (((b.drop (i+xk)).take xn))),Is (NI (i+xk+xn)),Is (NI 0),Is (St (((b.drop (i+xk)).take xn))),Is (NI (i+xk+xn)),Is (NI 0)] (by kernel_rfl) [7,8,9,10,11,12,13,14,15,6,16,17,18,3,4,5] (by kernel_rfl) (by kernel_rfl) (EJ (CG trivial)) ?bz ?hQ4001
 case bz=>
  refine⟨?_,?_,?_,?_,?_,?_,?_,?_,?_,?_,?_,?_,?_,?_,?_,?_,trivial⟩
  ·refine Aa rfl fun σ w1 hC h=> ?_
   have j:=(Ae (h 0 (by decide))).trans g
   exact Yk.move j ⟨Ext.refl _,rfl⟩
  ·refine Aa rfl fun σ w1 hC h=> ?_
   have l:=Ae (h 7 (by decide))
   exact Yk.nilCheck l ⟨Ext.refl _,rfl⟩
  ·refine Aa rfl fun σ w1 hC h=> ?_
   have m:=Ae (h 8 (by decide))
   exact Yk.fieldAt BP m ⟨Ext.refl _,rfl⟩
  ·refine Aa rfl fun σ w1 hC h=> ?_
   have o:=Ae (h 9 (by decide))
   exact Yk.cell1 Ek rfl o (Al (eb hC hb) (show(Bz (Bj v b (i)))[0]? =some (v:Value)from Dt (Bj v b (i)))) ⟨Ext.refl _,rfl⟩
  ·refine Aa rfl fun σ w1 hC h=> ?_
   have j:=(Ae (h 0 (by decide))).trans g
   exact Yk.move j ⟨Ext.refl _,rfl⟩
  ·refine Aa rfl fun σ w1 hC h=> ?_
   have p:=Ae (h 11 (by decide))
   exact Yk.nilCheck p ⟨Ext.refl _,rfl⟩
  ·refine Aa rfl fun σ w1 hC h=> ?_
   have q:=Ae (h 12 (by decide))
   exact Yk.fieldAt Bf q ⟨Ext.refl _,rfl⟩
  ·refine Aa rfl fun σ w1 hC h=> ?_
   have s:=Ae (h 13 (by decide))
   exact Yk.cell1 Li rfl s (Al (eb hC hb) (show(Bz (Bj v b (i)))[1]? =some (NI i:Value)from Dg (Bj v b (i)))) ⟨Ext.refl _,rfl⟩
  ·refine Aa rfl fun σ w1 hC h=> ?_
   have t:=Ae (h 10 (by decide))
   have u:=Ae (h 14 (by decide))
   refine Yk.callA3 FB t u (vr (NI 256) rfl) ?_
   refine((show Calls _ _ _ _ (fun e k=>e = .returned (.tuple #[St (((b.drop (i+xk)).take xn)),NI (i+xk+xn),NI 0])∧Ext _ k)from(EQ _ v b (hr.keep (hE.trans hC)) i hi 256).mono fun e k ⟨h1,h2⟩=>by subst h2;subst h1;refine⟨?_,Ext.refl _⟩;unfold BV;rw[hd];simp only;rw[if_neg (by omega),if_neg ag];rfl)).mono ?_
   rintro e k ⟨rfl,hx⟩
   exact⟨_,rfl,hx,rfl⟩
  ·refine Aa rfl fun σ w1 hC h=> ?_
   have y:=Ae (h 15 (by decide))
   exact Yk.move y ⟨Ext.refl _,rfl⟩
  ·refine Aa rfl fun σ w1 hC h=> ?_
   have f:=Ae (h 6 (by decide))
   exact Yk.extract (vs:= [St (((b.drop (i+xk)).take xn)),NI (i+xk+xn),NI 0]) f (show _=some (St (((b.drop (i+xk)).take xn)):Value)from rfl) ⟨Ext.refl _,rfl⟩
  ·refine Aa rfl fun σ w1 hC h=> ?_
   have f:=Ae (h 6 (by decide))
   exact Yk.extract (vs:= [St (((b.drop (i+xk)).take xn)),NI (i+xk+xn),NI 0]) f (show _=some (NI (i+xk+xn):Value)from rfl) ⟨Ext.refl _,rfl⟩
  ·refine Aa rfl fun σ w1 hC h=> ?_
   have f:=Ae (h 6 (by decide))
   exact Yk.extract (vs:= [St (((b.drop (i+xk)).take xn)),NI (i+xk+xn),NI 0]) f (show _=some (NI 0:Value)from rfl) ⟨Ext.refl _,rfl⟩
  ·refine Aa rfl fun σ w1 hC h=> ?_
   have z:=Ae (h 16 (by decide))
   exact Yk.assign z ⟨Ext.refl _,rfl⟩
  ·refine Aa rfl fun σ w1 hC h=> ?_
   have aa:=Ae (h 17 (by decide))
   exact Yk.assign aa ⟨Ext.refl _,rfl⟩
  ·refine Aa rfl fun σ w1 hC h=> ?_
   have ab:=Ae (h 18 (by decide))
   exact Yk.assign ab ⟨Ext.refl _,rfl⟩
 intro ar b0 a0 he hf
 obtain⟨-,-,-,-,-,-,-,-,-,-,-,-,-,k3,k4,k5,-⟩:=hf
 obtain⟨g,T2,-⟩:=he.hold [(0,_),(2,St (([]:List UInt8)))] ⟨g,rfl,trivial⟩ rfl
 clear he
 have hb:=eb a0 hb
 have hgr:w.grownBy b0 (some r):=Ab hgr a0.grown (fun _ e=>by cases e)
 have T3:ar 3=St (((b.drop (i+xk)).take xn)):=k3
 have T4:ar 4=NI (i+xk+xn):=k4
 have T5:ar 5=NI 0:=k5
 clear k3 k4 k5
 refine tN (bx _ _ (sk fun cy b1=>(wt (oM rfl (oS rfl (Yk.eqI (a:=(0:Nat)) (b:=(0:Nat)) T5 rfl (A2 _ _ _ _) (oP rfl (Yp.callA1 Cy (vr (.bool (decide ((0:Nat)=(0)))) rfl) ?_))))))))
 refine AV (Cb _ (decide ((0:Nat)=(0)))) ?_ ?_
 rotate_left
 ·
  rintro ch cz ⟨rfl,hb,hx⟩
  refine AD (A1 ?_)
  have hno:=of_decide_eq_false hb
  exact absurd rfl hno
 rintro v_ b2 ⟨rfl,b3,a1⟩
 have hb:=eb a1 hb
 have hgr:w.grownBy b2 (some r):=Ab hgr a1.grown (fun _ e=>by cases e)
 have c0:=of_decide_eq_true b3
 refine oZ (tN (b1 _ _ (sk fun c1 b4=>(wt (oM rfl (oM rfl (oS rfl (Yk.nilCheck g (oS rfl (Yk.fieldAt Bf (vr (PQ r 0) rfl) (oS rfl (Yk.storeC (i:=1) (v:=NI (i+xk+xn)) (vr (PQ r 1) rfl) T4 hb (by rw[Ey];decide) Dd rfl rfl fun a2 a3 b5 c2=> ?_))))))))))))
 have hgr:w.grownBy a2 (some r):=Ab hgr b5 (fun _ e=> .inl e)
 clear hE
 clear hb
 have hb:a2.heap[r]? =some (.cells (Bz ((⟨b,((i+xk+xn:Nat):Int)⟩,⟨v⟩):D2)).toArray 68 (0,0)):=AG a3 (Fu (Bj v b (i)) ((i+xk+xn:Nat):Int));clear a3
 have c3:=bl hb
 refine oZ (tN (b4 _ _ (sk fun c4 b6=>(wt (oM rfl (oA rfl (oZ (tN (b6 _ _ (Am (CK (fn:=Tryz.f46) _ rfl [St (((b.drop (i+xk)).take xn))] (St (((b.drop (i+xk)).take xn))) rfl ⟨T3,trivial⟩ ?_)))))))))))
 exact .inl ⟨_,rfl,_,_,hP,rfl,hb,hgr⟩

theorem Hy(w:World)(r:Nat)(v:Value)(b:Bs)(i:Nat)(hb:w.heap[r]? =some (.cells (Bz (Bj v b (i))).toArray 68 (0,0)))(hr:RB w v b)(hap:b= []∨OB v r)(hi:i≤b.length)(hl:b.length≤4611686018427387904):
  Calls Tryz.prog 47 #[PQ r 0] w fun e w' =>(∃x,e = .returned x∧∃c n,C9 b i=some (c,n)∧x=AB c.1∧w'.heap[r]? =some (.cells (Bz (Bj v b (n))).toArray 68 (0,0))∧w.grownBy w' (some r))∨∃ch,e = .panicked ch∧C9 b i=none∧ch= [CS]∧w.grownBy w' (some r):=by
 have hlr:=(bl hb)
 have hgr:=World.grownBy.refl w (some r)
 refine CP (args:= [PQ r 0]) Tryz.func47 rfl 27 rfl (Nat.le_of_ble_eq_true rfl) ?_
 intro a8 hb
 have p:a8 0=(PQ r 0:Value):=hb.get 0
 clear hb
 have hE:=Ext.refl w
 refine sk fun K1 ap=>(wt (oS rfl (Yk.alloc (cs:=(Lib.byteCells (List.replicate 32 0)).toArray) H9 fun q m a9 aq ak b2=> ?_)))
 have b3:=Bc (bl hb) a9
 have hb:=eb ak hb
 have hgr:w.grownBy m (some r):=Ab hgr ak.grown (fun _ e=>by cases e)
 have hE:=hE.trans ak
 have f:=aq;clear aq
 have b4:q<m.heap.size:=by omega
 refine oZ ?_
 by_cases hle:i+32≤b.length
 ·have hQ:((b.drop i).take 32).length=32:=by rw[List.length_take,List.length_drop];omega
  have hP:C9 b i=some (⟨(b.drop i).take 32,hQ⟩,i+32):=dif_pos hle
  refine tN (ap _ _ (sk fun b5 ba=> ?_))
  have ab:Ext m (World.drew m):=(Below.refl _ _).drew
  have hb:=eb ab hb
  have hgr:w.grownBy (World.drew m) (some r):=Ab hgr ab.grown (fun _ e=>by cases e)
  have hE:=hE.trans ab
  have f:=eb ab f
  refine BM [(0,7,PQ r 0),(1,8,PQ r 0),(2,9,PQ r 0),(3,10,v),(4,11,PQ r 0),(5,12,PQ r 0),(6,13,PQ r 1),(7,14,NI i),(8,15, .tuple #[AB ((b.drop i).take 32),NI (i+32),NI 0]),(9,6, .tuple #[AB ((b.drop i).take 32),NI (i+32),NI 0]),(10,16,AB ((b.drop i).take 32)),(11,17,NI (i+32)),(12,18,NI 0)] [13,14,15,16] (fun wz=>wz.heap[r]? =some (.cells (Bz (Bj v b (i))).toArray 68 (0,0))∧Ext w wz∧wz.heap[q]? =some (.cells (Lib.byteCells (List.replicate 32 0)).toArray 24 (0,0))∧True) (fun _ _ ⟨hb,hE,f,_⟩ k=>⟨(eb k hb),(hE.trans k),(eb k f),trivial⟩) (by kernel_rfl) (by kernel_rfl) (by kernel_rfl) ⟨hb,hE,f,trivial⟩ ⟨fun j ⟨hb,hE,f,_⟩=>Yk.move p ⟨rfl,Ext.refl _⟩,fun j ⟨hb,hE,f,_⟩=>Yk.nilCheck (vr (PQ r 0) rfl) ⟨rfl,Ext.refl _⟩,fun j ⟨hb,hE,f,_⟩=>Yk.fieldAt BP (vr (PQ r 0) rfl) ⟨rfl,Ext.refl _⟩,fun j ⟨hb,hE,f,_⟩=>Yk.cell1 Ek rfl (vr (PQ r 0) rfl) (Al hb (show(Bz (Bj v b (i)))[0]? =some (v:Value)from Dt (Bj v b (i)))) ⟨rfl,Ext.refl _⟩,fun j ⟨hb,hE,f,_⟩=>Yk.move p ⟨rfl,Ext.refl _⟩,fun j ⟨hb,hE,f,_⟩=>Yk.nilCheck (vr (PQ r 0) rfl) ⟨rfl,Ext.refl _⟩,fun j ⟨hb,hE,f,_⟩=>Yk.fieldAt Bf (vr (PQ r 0) rfl) ⟨rfl,Ext.refl _⟩,fun j ⟨hb,hE,f,_⟩=>Yk.cell1 Li rfl (vr (PQ r 1) rfl) (Al hb (show(Bz (Bj v b (i)))[1]? =some (NI i:Value)from Dg (Bj v b (i)))) ⟨rfl,Ext.refl _⟩,fun j ⟨hb,hE,f,_⟩=>Yk.callA2 J4 (vr v rfl) (vr (NI i) rfl) (((show Calls _ _ _ _ (fun e o=>e = .returned (.tuple #[AB ((b.drop i).take 32),NI (i+32),NI 0])∧Ext _ o)from(KY _ v b (hr.keep hE) i hi).mono fun e o ⟨h1,h2⟩=>by subst h1;refine⟨?_,h2⟩;unfold DS;rw[if_neg (by omega)];rfl)).mono (by rintro e o ⟨rfl,hx⟩;exact⟨_,rfl,rfl,hx⟩)),fun j ⟨hb,hE,f,_⟩=>Yk.move (vr (.tuple #[AB ((b.drop i).take 32),NI (i+32),NI 0]) rfl) ⟨rfl,Ext.refl _⟩,fun j ⟨hb,hE,f,_⟩=>Yk.extract (vs:= [AB ((b.drop i).take 32),NI (i+32),NI 0]) (vr (.tuple #[AB ((b.drop i).take 32),NI (i+32),NI 0]) rfl) (show _=some (AB ((b.drop i).take 32):Value)from rfl) ⟨rfl,Ext.refl _⟩,fun j ⟨hb,hE,f,_⟩=>Yk.extract (vs:= [AB ((b.drop i).take 32),NI (i+32),NI 0]) (vr (.tuple #[AB ((b.drop i).take 32),NI (i+32),NI 0]) rfl) (show _=some (NI (i+32):Value)from rfl) ⟨rfl,Ext.refl _⟩,fun j ⟨hb,hE,f,_⟩=>Yk.extract (vs:= [AB ((b.drop i).take 32),NI (i+32),NI 0]) (vr (.tuple #[AB ((b.drop i).take 32),NI (i+32),NI 0]) rfl) (show _=some (NI 0:Value)from rfl) ⟨rfl,Ext.refl _⟩,trivial⟩ ?_
  refine AR rfl fun bb ac=> ?_
  have hb:=eb ac hb
  have hgr:w.grownBy bb (some r):=Ab hgr ac.grown (fun _ e=>by cases e)
  have hE:=hE.trans ac
  have f:=eb ac f
  refine A7 (Yk.alloc (cs:=(Lib.byteCells (List.replicate 32 0)).toArray) H9 fun al ar au av ad b6=> ?_)
  have bc:=hE.size
  have b7:=Bc (bl hb) au
  have b8:=Bc (bl f) au
  have hb:=eb ad hb
  have hgr:w.grownBy ar (some r):=Ab hgr ad.grown (fun _ e=>by cases e)
  have hE:=hE.trans ad
  have f:=eb ad f
  have g:=av;clear av
  have b9:al<ar.heap.size:=by omega
  refine⟨.inr ⟨hb,hE,f,trivial⟩,?_⟩
  refine AR rfl fun bd s=> ?_
  have hb:=eb s hb
  have hgr:w.grownBy bd (some r):=Ab hgr s.grown (fun _ e=>by cases e)
  have hE:=hE.trans s
  have f:=eb s f
  have g:=eb s g
  refine A7 (Yk.storeAll (vr (PQ al 0) rfl) (vr (AB ((b.drop i).take 32)) rfl) g (by exact BK hQ List.length_replicate) (by exact At hQ) (Ay _) fun be aw ae ca=> ?_)
  have hb:=kb ae hb (by omega)
  have hgr:w.grownBy be (some r):=Ab hgr ae (fun _ e=> .inr (by cases e;omega))
  have hE:=Af hE ae (Nat.le_trans bc (by omega))
  have f:=kb ae f (by omega)
  clear g
  have g:=aw;clear aw
  have cb:=bl g
  refine⟨.inr ⟨hb,hE,f,trivial⟩,?_⟩
  refine AR rfl fun bf t=> ?_
  have hb:=eb t hb
  have hgr:w.grownBy bf (some r):=Ab hgr t.grown (fun _ e=>by cases e)
  have hE:=hE.trans t
  have f:=eb t f
  have g:=eb t g
  refine A7 (Yk.assign (vr (NI (i+32)) rfl) ?_)
  refine⟨.inr ⟨hb,hE,f,trivial⟩,?_⟩
  refine AR rfl fun bg u=> ?_
  have hb:=eb u hb
  have hgr:w.grownBy bg (some r):=Ab hgr u.grown (fun _ e=>by cases e)
  have hE:=hE.trans u
  have f:=eb u f
  have g:=eb u g
  refine A7 (Yk.assign (vr (NI 0) rfl) ?_)
  refine⟨.inl rfl,?_⟩
  refine CA (tN (ba _ _ (sk fun cc bh=>(wt (oM rfl (oS rfl (Yk.eqI (a:=(0:Nat)) (b:=(0:Nat)) rfl rfl (A2 _ _ _ _) (oP rfl (Yp.callA1 Cy (vr (.bool (decide ((0:Nat)=(0)))) rfl) ?_)))))))))
  refine AV (Cb _ (decide ((0:Nat)=(0)))) ?_ ?_
  rotate_left
  ·
   rintro ch cd ⟨rfl,hb,hx⟩
   refine AD (A1 ?_)
   have hno:=of_decide_eq_false hb
   exact absurd rfl hno
  rintro v_ bi ⟨rfl,bj,y⟩
  have hb:=eb y hb
  have hgr:w.grownBy bi (some r):=Ab hgr y.grown (fun _ e=>by cases e)
  have hE:=hE.trans y
  have f:=eb y f
  have g:=eb y g
  have ce:=of_decide_eq_true bj
  refine oZ (tN (bh _ _ (sk fun cf bk=>(wt (oM rfl (oM rfl (oS rfl (Yk.nilCheck p (oS rfl (Yk.fieldAt Bf (vr (PQ r 0) rfl) (oS rfl (Yk.storeC (i:=1) (v:=NI (i+32)) (vr (PQ r 1) rfl) (vr (NI (i+32)) rfl) hb (by rw[Ey];decide) Dd rfl rfl fun ax ay am cg=> ?_))))))))))))
  have hgr:w.grownBy ax (some r):=Ab hgr am (fun _ e=> .inl e)
  clear hE
  have f:=kb am f (by omega)
  have g:=kb am g (by omega)
  clear hb
  have hb:ax.heap[r]? =some (.cells (Bz ((⟨b,((i+32:Nat):Int)⟩,⟨v⟩):D2)).toArray 68 (0,0)):=AG ay (Fu (Bj v b (i)) ((i+32:Nat):Int));clear ay
  have ci:=bl hb
  refine oZ (tN (bk _ _ (sk fun cj bm=>(wt (oS rfl (Yk.loadAll (vr (PQ al 0) rfl) g P8 rfl (by exact At hQ) (oS rfl (Yk.storeAll (vr (PQ q 0) rfl) (vr (AB ((b.drop i).take 32)) rfl) f (by exact BK hQ List.length_replicate) (by exact At hQ) (Ay _) fun bn az a0 ck=> ?_))))))))
  have hgr:w.grownBy bn (some r):=Ab hgr a0 (fun _ e=> .inr (by cases e;omega))
  have hb:=kb a0 hb (by omega)
  clear f
  have f:=az;clear az
  have cl:=bl f
  refine oZ (tN (bm _ _ (Am (CK (fn:=Tryz.f47) _ rfl [AB ((b.drop i).take 32)] (AB ((b.drop i).take 32)) rfl ⟨ResF.row rfl f P8 rfl (by exact At hQ),trivial⟩ ?_))))
  exact .inl ⟨_,rfl,_,_,hP,rfl,hb,hgr⟩
 have hP:C9 b i=none:=dif_neg hle
 refine tN (ap _ _ (sk fun cm bo=> ?_))
 have af:Ext m (World.drew m):=(Below.refl _ _).drew
 have hb:=eb af hb
 have hgr:w.grownBy (World.drew m) (some r):=Ab hgr af.grown (fun _ e=>by cases e)
 have hE:=hE.trans af
 have f:=eb af f
 refine BM [(0,7,PQ r 0),(1,8,PQ r 0),(2,9,PQ r 0),(3,10,v),(4,11,PQ r 0),(5,12,PQ r 0),(6,13,PQ r 1),(7,14,NI i),(8,15, .tuple #[AB zero32,NI 0,NI 6]),(9,6, .tuple #[AB zero32,NI 0,NI 6]),(10,16,AB zero32),(11,17,NI 0),(12,18,NI 6)] [13,14,15,16] (fun wz=>wz.heap[r]? =some (.cells (Bz (Bj v b (i))).toArray 68 (0,0))∧Ext w wz∧wz.heap[q]? =some (.cells (Lib.byteCells (List.replicate 32 0)).toArray 24 (0,0))∧True) (fun _ _ ⟨hb,hE,f,_⟩ k=>⟨(eb k hb),(hE.trans k),(eb k f),trivial⟩) (by kernel_rfl) (by kernel_rfl) (by kernel_rfl) ⟨hb,hE,f,trivial⟩ ⟨fun l ⟨hb,hE,f,_⟩=>Yk.move p ⟨rfl,Ext.refl _⟩,fun l ⟨hb,hE,f,_⟩=>Yk.nilCheck (vr (PQ r 0) rfl) ⟨rfl,Ext.refl _⟩,fun l ⟨hb,hE,f,_⟩=>Yk.fieldAt BP (vr (PQ r 0) rfl) ⟨rfl,Ext.refl _⟩,fun l ⟨hb,hE,f,_⟩=>Yk.cell1 Ek rfl (vr (PQ r 0) rfl) (Al hb (show(Bz (Bj v b (i)))[0]? =some (v:Value)from Dt (Bj v b (i)))) ⟨rfl,Ext.refl _⟩,fun l ⟨hb,hE,f,_⟩=>Yk.move p ⟨rfl,Ext.refl _⟩,fun l ⟨hb,hE,f,_⟩=>Yk.nilCheck (vr (PQ r 0) rfl) ⟨rfl,Ext.refl _⟩,fun l ⟨hb,hE,f,_⟩=>Yk.fieldAt Bf (vr (PQ r 0) rfl) ⟨rfl,Ext.refl _⟩,fun l ⟨hb,hE,f,_⟩=>Yk.cell1 Li rfl (vr (PQ r 1) rfl) (Al hb (show(Bz (Bj v b (i)))[1]? =some (NI i:Value)from Dg (Bj v b (i)))) ⟨rfl,Ext.refl _⟩,fun l ⟨hb,hE,f,_⟩=>Yk.callA2 J4 (vr v rfl) (vr (NI i) rfl) (((show Calls _ _ _ _ (fun e o=>e = .returned (.tuple #[AB zero32,NI 0,NI 6])∧Ext _ o)from(KY _ v b (hr.keep hE) i hi).mono fun e o ⟨h1,h2⟩=>by subst h1;refine⟨?_,h2⟩;unfold DS;rw[if_pos (by omega)];rfl)).mono (by rintro e o ⟨rfl,hx⟩;exact⟨_,rfl,rfl,hx⟩)),fun l ⟨hb,hE,f,_⟩=>Yk.move (vr (.tuple #[AB zero32,NI 0,NI 6]) rfl) ⟨rfl,Ext.refl _⟩,fun l ⟨hb,hE,f,_⟩=>Yk.extract (vs:= [AB zero32,NI 0,NI 6]) (vr (.tuple #[AB zero32,NI 0,NI 6]) rfl) (show _=some (AB zero32:Value)from rfl) ⟨rfl,Ext.refl _⟩,fun l ⟨hb,hE,f,_⟩=>Yk.extract (vs:= [AB zero32,NI 0,NI 6]) (vr (.tuple #[AB zero32,NI 0,NI 6]) rfl) (show _=some (NI 0:Value)from rfl) ⟨rfl,Ext.refl _⟩,fun l ⟨hb,hE,f,_⟩=>Yk.extract (vs:= [AB zero32,NI 0,NI 6]) (vr (.tuple #[AB zero32,NI 0,NI 6]) rfl) (show _=some (NI 6:Value)from rfl) ⟨rfl,Ext.refl _⟩,trivial⟩ ?_
 refine AR rfl fun bp ag=> ?_
 have hb:=eb ag hb
 have hgr:w.grownBy bp (some r):=Ab hgr ag.grown (fun _ e=>by cases e)
 have hE:=hE.trans ag
 have f:=eb ag f
 refine A7 (Yk.alloc (cs:=(Lib.byteCells (List.replicate 32 0)).toArray) H9 fun an a1 a2 a3 ah cn=> ?_)
 have bq:=hE.size
 have co:=Bc (bl hb) a2
 have cp:=Bc (bl f) a2
 have hb:=eb ah hb
 have hgr:w.grownBy a1 (some r):=Ab hgr ah.grown (fun _ e=>by cases e)
 have hE:=hE.trans ah
 have f:=eb ah f
 have h:=a3;clear a3
 have cq:an<a1.heap.size:=by omega
 refine⟨.inr ⟨hb,hE,f,trivial⟩,?_⟩
 refine AR rfl fun br z=> ?_
 have hb:=eb z hb
 have hgr:w.grownBy br (some r):=Ab hgr z.grown (fun _ e=>by cases e)
 have hE:=hE.trans z
 have f:=eb z f
 have h:=eb z h
 refine A7 (Yk.storeAll (vr (PQ an 0) rfl) (vr (AB zero32) rfl) h (by exact BK (by decide) List.length_replicate) (by exact At (by decide)) (Ay _) fun bs a4 ai cr=> ?_)
 have hb:=kb ai hb (by omega)
 have hgr:w.grownBy bs (some r):=Ab hgr ai (fun _ e=> .inr (by cases e;omega))
 have hE:=Af hE ai (Nat.le_trans bq (by omega))
 have f:=kb ai f (by omega)
 clear h
 have h:=a4;clear a4
 have ct:=bl h
 refine⟨.inr ⟨hb,hE,f,trivial⟩,?_⟩
 refine AR rfl fun bt aa=> ?_
 have hb:=eb aa hb
 have hgr:w.grownBy bt (some r):=Ab hgr aa.grown (fun _ e=>by cases e)
 have hE:=hE.trans aa
 have f:=eb aa f
 have h:=eb aa h
 refine A7 (Yk.assign (vr (NI 0) rfl) ?_)
 refine⟨.inr ⟨hb,hE,f,trivial⟩,?_⟩
 refine AR rfl fun bu aj=> ?_
 have hb:=eb aj hb
 have hgr:w.grownBy bu (some r):=Ab hgr aj.grown (fun _ e=>by cases e)
 have f:=eb aj f
 have h:=eb aj h
 refine A7 (Yk.assign (vr (NI 6) rfl) ?_)
 refine⟨.inl rfl,?_⟩
 refine CA (tN (bo _ _ (sk fun cu bv=>(wt (oM rfl (oS rfl (Yk.eqI (a:=(6:Nat)) (b:=(0:Nat)) rfl rfl (A2 _ _ _ _) (oP rfl (Yp.callA1 Cy (vr (.bool (decide ((6:Nat)=(0)))) rfl) ?_)))))))))
 refine AV (Cb _ (decide ((6:Nat)=(0)))) ?_ ?_
 rotate_left
 ·
  rintro ch cv ⟨rfl,hb,hx⟩
  refine AD (A1 ?_)
  have hno:=of_decide_eq_false hb
  exact .inr ⟨_,rfl,hP,rfl,(Ab hgr hx.grown (fun _ e=>by cases e))⟩
 rintro v_ cw ⟨rfl,bw,ao⟩
 have hb:=eb ao hb
 have f:=eb ao f
 have h:=eb ao h
 have cx:=of_decide_eq_true bw
 refine oZ (tN (bv _ _ (sk fun cy bx=>(wt (oM rfl (oM rfl (oS rfl (Yk.nilCheck p (oS rfl (Yk.fieldAt Bf (vr (PQ r 0) rfl) (oS rfl (Yk.storeC (i:=1) (v:=NI 0) (vr (PQ r 1) rfl) (vr (NI 0) rfl) hb (by rw[Ey];decide) Dd rfl rfl fun bz a5 a6 cz=> ?_))))))))))))
 clear hE
 have f:=kb a6 f (by omega)
 have h:=kb a6 h (by omega)
 clear hb
 have hb:bz.heap[r]? =some (.cells (Bz ((⟨b,((0:Nat):Int)⟩,⟨v⟩):D2)).toArray 68 (0,0)):=AG a5 (Fu (Bj v b (i)) ((0:Nat):Int));clear a5
 have c0:=bl hb
 refine oZ (tN (bx _ _ (sk fun c1 b0=>(wt (oS rfl (Yk.loadAll (vr (PQ an 0) rfl) h P8 rfl (by exact At (by decide)) (oS rfl (Yk.storeAll (vr (PQ q 0) rfl) (vr (AB zero32) rfl) f (by exact BK (by decide) List.length_replicate) (by exact At (by decide)) (Ay _) fun c2 a7 c3 c4=> ?_))))))))
 clear f
 have f:=a7;clear a7
 have c5:=bl f
 refine oZ (tN (b0 _ _ (Am (CK (fn:=Tryz.f47) _ rfl [AB zero32] (AB zero32) rfl ⟨ResF.row rfl f P8 rfl (by exact At (by decide)),trivial⟩ ?_))))
 omega
open Go.RowKit
def EM(b:Bs)(i:Nat):Option (AK × Nat):=(BB b i 256).bind fun s=>(C9 b s.2).bind fun x=>some (⟨s.1,x.1⟩,x.2)
def CE(b:Bs)(s:List AK × Nat):Option (List AK × Nat):=(EM b s.2).map fun x=>(s.1++ [x.1],x.2)
def DM(b:Bs)(i:Nat):Option (List AK × Nat):=(BH b i 64).bind fun x=>CT (CE b) x.1 ([],x.2)
def C5(b:Bs)(i:Nat):Option (AM × Nat):=(DC b i).bind fun k=>(BB b k.2 256).bind fun s=>(C9 b s.2).bind fun o=>(C9 b o.2).bind fun n=>(BB b n.2 256).bind fun t=>some (⟨k.1,s.1,o.1,n.1,t.1⟩,t.2)
def CF(b:Bs)(s:List AM × Nat):Option (List AM × Nat):=(C5 b s.2).map fun x=>(s.1++ [x.1],x.2)
def Fm(b:Bs)(i:Nat):Option (List AM × Nat):=(BH b i 64).bind fun x=>CT (CF b) x.1 ([],x.2)
noncomputable def B2(b:Bs):Option A0:=(DM b 0).bind fun x=>(DM b x.2).bind fun y=>(BB b y.2 256).bind fun h=>(C9 b h.2).bind fun a=>(Fm b a.2).bind fun l=>
  if l.2=b.length∧AO ⟨x.1,y.1,h.1,a.1,l.1⟩=true then some ⟨x.1,y.1,h.1,a.1,l.1⟩else none
theorem F6{b:Bs}{i n k most:Nat}(hi:i≤b.length)(h:BH b i most=some (k,n)):n≤b.length∧k≤most∧Di b i=some (k,n):=by
  unfold BH at h
  cases hn:Di b i with
  | none=>rw[hn]at h;cases h
  | some x=>
    rw[hn,Option.bind_some]at h
    split at h
    · rename_i h1
      cases h
      exact⟨Qt hi hn,h1,rfl⟩
    · cases h
theorem PS{b:Bs}{i:Nat}(h:BH b i 64=none):DM b i=none:=by unfold DM;rw[h];rfl
theorem Lz{b:Bs}{i n j:Nat}(h:BH b i 64=some (n,j)):DM b i=CT (CE b) n ([],j):=by unfold DM;rw[h];rfl
theorem PT{b:Bs}{i:Nat}(h:BH b i 64=none):Fm b i=none:=by unfold Fm;rw[h];rfl
theorem LA{b:Bs}{i n j:Nat}(h:BH b i 64=some (n,j)):Fm b i=CT (CF b) n ([],j):=by unfold Fm;rw[h];rfl
theorem OL{b:Bs}{i n j k j' :Nat}{o:List AK}(h:BH b i 64=some (n,j))(hk:k<n)(hit:CT (CE b) k ([],j)=some (o,j'))(hx:EM b j' =none):DM b i=none:=by
  rw[Lz h]
  refine Ge (j:=k+1) ?_ n hk
  rw[Fh hit]
  unfold CE
  rw[hx];rfl
theorem QJ{b:Bs}{j k j' j2:Nat}{o:List AK}{x:AK}(hit:CT (CE b) k ([],j)=some (o,j'))(hx:EM b j' =some (x,j2)):CT (CE b) (k+1) ([],j)=some (o++ [x],j2):=by
  rw[Fh hit]
  unfold CE
  rw[hx];rfl
theorem Hd{b:Bs}{i n j k j' :Nat}{o:List AM}(h:BH b i 64=some (n,j))(hk:k<n)(hit:CT (CF b) k ([],j)=some (o,j'))(hx:C5 b j' =none):Fm b i=none:=by
  rw[LA h]
  refine Ge (j:=k+1) ?_ n hk
  rw[Fh hit]
  unfold CF
  rw[hx];rfl
theorem QK{b:Bs}{j k j' j2:Nat}{o:List AM}{x:AM}(hit:CT (CF b) k ([],j)=some (o,j'))(hx:C5 b j' =some (x,j2)):CT (CF b) (k+1) ([],j)=some (o++ [x],j2):=by
  rw[Fh hit]
  unfold CF
  rw[hx];rfl
theorem RA{b:Bs}{i:Nat}(h:BB b i 256=none):EM b i=none:=by unfold EM;rw[h];rfl
theorem RC{b s:Bs}{i j:Nat}(h:BB b i 256=some (s,j))(h2:C9 b j=none):EM b i=none:=by unfold EM;rw[h,Option.bind_some,h2];rfl
theorem RD{b s:Bs}{i j k:Nat}{x:BS}(h:BB b i 256=some (s,j))(h2:C9 b j=some (x,k)):EM b i=some (⟨s,x⟩,k):=by unfold EM;rw[h,Option.bind_some,h2];rfl
theorem J5{σ:Type}{b:Bs}{i:Nat}{f:Nat × Nat→Option σ}{t:σ}(h:(BH b i 64).bind f=some t):∃n j,BH b i 64=some (n,j)∧n≤64∧f (n,j)=some t:=by
  cases hn:BH b i 64 with
  | none=>rw[hn]at h;cases h
  | some x=>
    rw[hn]at h
    refine⟨x.1,x.2,rfl,?_,h⟩
    unfold BH at hn
    cases hp:Di b i with
    | none=>rw[hp]at hn;cases hn
    | some y=>
      rw[hp,Option.bind_some]at hn
      split at hn
      · cases hn;assumption
      · cases hn
theorem Mu{b:Bs}{i j:Nat}{x:AK}(h:EM b i=some (x,j)):∃k,BB b i 256=some (x.name,k)∧C9 b k=some (x.id,j):=by
  unfold EM at h
  cases h1:BB b i 256 with
  | none=>rw[h1]at h;cases h
  | some s=>
    rw[h1,Option.bind_some]at h
    cases h2:C9 b s.2 with
    | none=>rw[h2]at h;cases h
    | some y=>rw[h2]at h;cases h;exact⟨s.2,rfl,h2⟩
theorem IW{b:Bs}{s t:List AK × Nat}(h:CE b s=some t):∃x,t.1=s.1++ [x]∧EM b s.2=some (x,t.2):=by
  unfold CE at h
  cases hn:EM b s.2 with
  | none=>rw[hn]at h;cases h
  | some x=>rw[hn]at h;cases h;exact⟨x.1,rfl,rfl⟩
theorem He{b:Bs}:∀(n:Nat) {s t:List AK × Nat},CT (CE b) n s=some t→(∀u∈s.1,u.name.length≤256)→(∀u∈t.1,u.name.length≤256)∧t.1.length=s.1.length+n
  | 0,s,t,h,hs=>by cases h;exact⟨hs,rfl⟩
  | n+1,s,t,h,hs=>by
    obtain⟨u,h1,h2⟩:=Ib h
    obtain⟨h3,h4⟩:=He n h1 hs
    obtain⟨x,h5,h6⟩:=IW h2
    obtain⟨k,h7,_⟩:=Mu h6
    rw[h5]
    refine⟨fun q hq=> ?_,by rw[List.length_append,h4];rfl⟩
    rcases List.mem_append.1 hq with hq | hq
    · exact h3 q hq
    · rw[List.mem_singleton.1 hq];exact(txtP_le h7).2
theorem nlP_lt{b:Bs}{i:Nat}{t:List AK × Nat}(h:DM b i=some t):t.1.length≤64∧∀u∈t.1,u.name.length≤256:=by
  obtain⟨n,j,h1,h2,h3⟩:=J5 h
  obtain⟨h4,h5⟩:=He n h3 (by simp)
  simp only[List.length_nil]at h5
  exact⟨by omega,h4⟩
theorem IX{b:Bs}{s t:List AM × Nat}(h:CF b s=some t):∃x,t.1=s.1++ [x]∧C5 b s.2=some (x,t.2):=by
  unfold CF at h
  cases hn:C5 b s.2 with
  | none=>rw[hn]at h;cases h
  | some x=>rw[hn]at h;cases h;exact⟨x.1,rfl,rfl⟩
theorem Rh{b:Bs}{i:Nat}{t:List AM × Nat}(h:Fm b i=some t):t.1.length≤64:=by
  obtain⟨n,j,h1,h2,h3⟩:=J5 h
  have:=Ht (f:=CF b) (fun s t h=>by obtain⟨x,h5,_⟩:=IX h;rw[h5,List.length_append];rfl) n h3
  simp only[List.length_nil]at this
  omega
theorem PU{b:Bs}{i j k m i1 i2 i3 i5:Nat}{l1 l2:List AK}{lo:List AM}{d3:Bs}{d4:BS}(h1:DM b i=some (l1,i1))(h2:DM b j=some (l2,i2))(h3:BB b k 256=some (d3,i3))(h4:Fm b m=some (lo,i5)):By (⟨l1,l2,d3,d4,lo⟩:A0):=by
  have q1:=nlP_lt h1
  have q2:=nlP_lt h2
  have q3:=(txtP_le h3).2
  have q4:=Rh h4
  exact⟨by have:=q1.1;simp only at this ⊢;omega,by have:=q2.1;simp only at this ⊢;omega,by simp only at q4 ⊢;omega,fun u hu=>by have:=q1.2 u hu;omega,fun u hu=>by have:=q2.2 u hu;omega,by simp only;omega⟩
open Go.RowKit
theorem PV(b:Bs)(i:Nat):DM b i=Gf b i 64 (CE b) []:=by
  unfold DM Gf BH
  cases Di b i with
  | none=>rfl
  | some x=>
    simp only[Option.bind_some]
    split <;> rfl
theorem PW(b:Bs)(i:Nat):Fm b i=Gf b i 64 (CF b) []:=by
  unfold Fm Gf BH
  cases Di b i with
  | none=>rfl
  | some x=>
    simp only[Option.bind_some]
    split <;> rfl
theorem RE{b:Bs}{i n:Nat}{x:AK}(h:EM b i=some (x,n)):b.drop i=Ci x++b.drop n:=by
  obtain⟨k,h1,h2⟩:=Mu h
  rw[IV h1,KJ h2]
  unfold Ci
  rw[List.append_assoc]
theorem Ri{b:Bs}{i n:Nat}{e:AM}(h:C5 b i=some (e,n)):b.drop i=Co e++b.drop n:=by
  unfold C5 at h
  simp only[Option.bind_eq_some_iff]at h
  obtain⟨⟨c,j1⟩,h1,⟨s,j2⟩,h2,⟨o,j3⟩,h3,⟨x,j4⟩,h4,⟨t,j5⟩,h5,h6⟩:=h
  cases h6
  rw[QI h1,IV h2,KJ h3,KJ h4,IV h5]
  unfold Co
  simp only[List.append_assoc]
theorem Qe{b:Bs}{i:Nat}{t:List AK × Nat}(h:DM b i=some t):b.drop i=Ej t.1++b.drop t.2:=by
  rw[PV]at h
  exact(Mt (Q:=fun _=>True) (f:=Ci) (fun a i t h=>by
    obtain⟨x,h1,h2⟩:=IW h
    exact⟨x,h1,trivial,RE h2⟩) h).1
theorem RF{b:Bs}{i:Nat}{t:List AM × Nat}(h:Fm b i=some t):b.drop i=(Lib.uvarint t.1.length++t.1.flatMap Co)++b.drop t.2:=by
  rw[PW]at h
  exact(Mt (Q:=fun _=>True) (f:=Co) (fun a i t h=>by
    obtain⟨x,h1,h2⟩:=IX h
    exact⟨x,h1,trivial,Ri h2⟩) h).1
theorem OM{b:Bs}{r:A0}(h:B2 b=some r):AO r=true∧encR r=b:=by
  unfold B2 at h
  simp only[Option.bind_eq_some_iff]at h
  obtain⟨⟨l1,j1⟩,h1,⟨l2,j2⟩,h2,⟨hd,j3⟩,h3,⟨a,j4⟩,h4,⟨lo,j5⟩,h5,h6⟩:=h
  split at h6
  · rename_i hq
    cases h6
    refine⟨hq.2,?_⟩
    have e:b.drop 0=Ej l1++(Ej l2++(Bd hd++(a.1++((Lib.uvarint lo.length++lo.flatMap Co)++b.drop j5)))):=by rw[Qe h1,Qe h2,IV h3,KJ h4,RF h5]
    rw[show j5=b.length from hq.1,List.drop_length,List.append_nil,List.drop_zero]at e
    rw[e]
    unfold encR
    simp only[List.append_assoc]
  · cases h6
open Go.RowKit
def F7{α:Type}(P:Option (α × Nat))(r:α ×(Nat × Bool)):Prop:=match P with | some x=>r=(x.1,(x.2,true)) | none=>r.2.2=false
theorem DA{α:Type}{z:α}{P:Option (α × Nat)}{i:Nat}:F7 P (Dv z P (i,true)):=by cases P <;> rfl
theorem Cj{α β:Type}{P:Option (α × Nat)}{r:α ×(Nat × Bool)}{Q:α × Nat→Option (β × Nat)}(q:α ×(Nat × Bool)→β ×(Nat × Bool))(h:F7 P r)(hq:∀a j,F7 (Q (a,j)) (q (a,(j,true))))(hf:∀a j,(q (a,(j,false))).2.2=false):F7 (P.bind Q) (q r):=by
  cases P with
  | none=>
    obtain⟨a,j,k⟩:=r
    obtain rfl:k=false:=h
    exact hf a j
  | some x=>
    obtain rfl:r=_:=h
    exact hq x.1 x.2
theorem LB{σ:Type}{f:List σ × Nat→Option (List σ × Nat)}{g:List σ ×(Nat × Bool)→List σ ×(Nat × Bool)}(hs:∀u,F7 (f u) (g (u.1,(u.2,true)))):∀(n:Nat) (u:List σ × Nat),F7 (CT f n u) (itR g n (u.1,(u.2,true)))
  | 0,u=>rfl
  | n+1,u=>by
    have ih:=LB hs n u
    cases h:CT f n u with
    | none=>
      rw[h]at ih
      have e:CT f (n+1) u=none:=Ge h _ (Nat.le_succ n)
      rw[e]
      show(if(itR g n (u.1,(u.2,true))).2.2=true then g (itR g n (u.1,(u.2,true)))else itR g n (u.1,(u.2,true))).2.2=false
      have ih:(itR g n (u.1,(u.2,true))).2.2=false:=ih
      rw[if_neg (by rw[ih];decide)]
      exact ih
    | some t=>
      rw[h]at ih
      have ih:itR g n (u.1,(u.2,true))=(t.1,(t.2,true)):=ih
      rw[Fh h,Gj ih]
      exact hs t
def Ck(b:Bs)(s:Nat × Bool):Nat ×(Nat × Bool):=Dv 0 (BH b s.1 64) s
def Qf(b:Bs)(s:Nat × Bool):AK ×(Nat × Bool):=(⟨(BD b 256 s).1,(BR b (BD b 256 s).2).1⟩,(BR b (BD b 256 s).2).2)
def DE(b:Bs)(t:List AK ×(Nat × Bool)):List AK ×(Nat × Bool):=(t.1++ [(Qf b t.2).1],(Qf b t.2).2)
def nlR(b:Bs)(s:Nat × Bool):List AK ×(Nat × Bool):=itR (DE b) (Ck b s).1 ([],(Ck b s).2)
def IY(b:Bs)(s:Nat × Bool):AM ×(Nat × Bool):=
  (⟨(EU b s).1,(BD b 256 (EU b s).2).1,(BR b (BD b 256 (EU b s).2).2).1,(BR b (BR b (BD b 256 (EU b s).2).2).2).1,(BD b 256 (BR b (BR b (BD b 256 (EU b s).2).2).2).2).1⟩,(BD b 256 (BR b (BR b (BD b 256 (EU b s).2).2).2).2).2)
def CW(b:Bs)(t:List AM ×(Nat × Bool)):List AM ×(Nat × Bool):=(t.1++ [(IY b t.2).1],(IY b t.2).2)
def EN(b:Bs)(s:Nat × Bool):List AM ×(Nat × Bool):=itR (CW b) (Ck b s).1 ([],(Ck b s).2)
def FD(b:Bs):A0 ×(Nat × Bool):=
  (⟨(nlR b (0,true)).1,(nlR b (nlR b (0,true)).2).1,(BD b 256 (nlR b (nlR b (0,true)).2).2).1,(BR b (BD b 256 (nlR b (nlR b (0,true)).2).2).2).1,(EN b (BR b (BD b 256 (nlR b (nlR b (0,true)).2).2).2).2).1⟩,(EN b (BR b (BD b 256 (nlR b (nlR b (0,true)).2).2).2).2).2)
noncomputable def F8(b:Bs):Option A0:=if(FD b).2.2=true∧(FD b).2.1=b.length∧AO (FD b).1=true then some (FD b).1 else none
theorem Rj(b:Bs)(i:Nat):F7 (EM b i) (Qf b (i,true)):=
  Cj (P:=BB b i 256) (r:=BD b 256 (i,true)) (fun r=>((⟨r.1,(BR b r.2).1⟩:AK),(BR b r.2).2)) DA (fun s j=>Cj (P:=C9 b j) (r:=BR b (j,true)) (fun r=>((⟨s,r.1⟩:AK),r.2)) DA (fun _ _=>rfl) (fun _ _=>rfl)) (fun _ _=>rfl)
theorem Mv{α β:Type}{P:Option (α × Nat)}{r:α ×(Nat × Bool)}(f:α→β)(h:F7 P r):F7 (P.map fun x=>(f x.1,x.2)) (f r.1,r.2):=by
  cases P with
  | none=>exact h
  | some x=>
    obtain rfl:r=_:=h
    rfl
theorem ON{σ:Type}{g:List σ ×(Nat × Bool)→List σ ×(Nat × Bool)}{l:List σ}{i:Nat}(n:Nat):(itR g n (l,(i,false))).2.2=false:=by rw[Gk (j:=0) (f:=g) (l:=l) (i:=i) rfl n (Nat.zero_le _)]
theorem OO(b:Bs)(i:Nat):F7 (DM b i) (nlR b (i,true)):=
  Cj (P:=BH b i 64) (r:=Ck b (i,true)) (fun r=>itR (DE b) r.1 ([],r.2)) DA (fun n j=>LB (f:=CE b) (g:=DE b) (fun u=>Mv (fun x=>u.1++ [x]) (Rj b u.2)) n ([],j)) (fun n _=>ON n)
theorem QL(b:Bs)(i:Nat):F7 (C5 b i) (IY b (i,true)):=
  Cj (P:=DC b i) (r:=EU b (i,true)) (fun r=>((⟨r.1,(BD b 256 r.2).1,(BR b (BD b 256 r.2).2).1,(BR b (BR b (BD b 256 r.2).2).2).1,(BD b 256 (BR b (BR b (BD b 256 r.2).2).2).2).1⟩:AM),(BD b 256 (BR b (BR b (BD b 256 r.2).2).2).2).2)) DA
    (fun k i1=>Cj (P:=BB b i1 256) (r:=BD b 256 (i1,true)) (fun r=>((⟨k,r.1,(BR b r.2).1,(BR b (BR b r.2).2).1,(BD b 256 (BR b (BR b r.2).2).2).1⟩:AM),(BD b 256 (BR b (BR b r.2).2).2).2)) DA
      (fun s i2=>Cj (P:=C9 b i2) (r:=BR b (i2,true)) (fun r=>((⟨k,s,r.1,(BR b r.2).1,(BD b 256 (BR b r.2).2).1⟩:AM),(BD b 256 (BR b r.2).2).2)) DA
        (fun o i3=>Cj (P:=C9 b i3) (r:=BR b (i3,true)) (fun r=>((⟨k,s,o,r.1,(BD b 256 r.2).1⟩:AM),(BD b 256 r.2).2)) DA
          (fun n i4=>Cj (P:=BB b i4 256) (r:=BD b 256 (i4,true)) (fun r=>((⟨k,s,o,n,r.1⟩:AM),r.2)) DA (fun _ _=>rfl) (fun _ _=>rfl)) (fun _ _=>rfl)) (fun _ _=>rfl)) (fun _ _=>rfl)) (fun _ _=>rfl)
theorem Rl(b:Bs)(i:Nat):F7 (Fm b i) (EN b (i,true)):=
  Cj (P:=BH b i 64) (r:=Ck b (i,true)) (fun r=>itR (CW b) r.1 ([],r.2)) DA (fun n j=>LB (f:=CF b) (g:=CW b) (fun u=>Mv (fun x=>u.1++ [x]) (QL b u.2)) n ([],j)) (fun n _=>ON n)
def KK(b:Bs):Option (A0 × Nat):=(DM b 0).bind fun x=>(DM b x.2).bind fun y=>(BB b y.2 256).bind fun h=>(C9 b h.2).bind fun a=>(Fm b a.2).bind fun l=>some (⟨x.1,y.1,h.1,a.1,l.1⟩,l.2)
theorem Rm(b:Bs):B2 b=(KK b).bind fun x=>if x.2=b.length∧AO x.1=true then some x.1 else none:=by
  unfold B2 KK
  simp only[Option.bind_assoc,Option.bind_some]
theorem Rn(b:Bs):F7 (KK b) (FD b):=
  Cj (P:=DM b 0) (r:=nlR b (0,true)) (fun r=>((⟨r.1,(nlR b r.2).1,(BD b 256 (nlR b r.2).2).1,(BR b (BD b 256 (nlR b r.2).2).2).1,(EN b (BR b (BD b 256 (nlR b r.2).2).2).2).1⟩:A0),(EN b (BR b (BD b 256 (nlR b r.2).2).2).2).2)) (OO b 0)
    (fun x j=>Cj (P:=DM b j) (r:=nlR b (j,true)) (fun r=>((⟨x,r.1,(BD b 256 r.2).1,(BR b (BD b 256 r.2).2).1,(EN b (BR b (BD b 256 r.2).2).2).1⟩:A0),(EN b (BR b (BD b 256 r.2).2).2).2)) (OO b j)
      (fun y j2=>Cj (P:=BB b j2 256) (r:=BD b 256 (j2,true)) (fun r=>((⟨x,y,r.1,(BR b r.2).1,(EN b (BR b r.2).2).1⟩:A0),(EN b (BR b r.2).2).2)) DA
        (fun h j3=>Cj (P:=C9 b j3) (r:=BR b (j3,true)) (fun r=>((⟨x,y,h,r.1,(EN b r.2).1⟩:A0),(EN b r.2).2)) DA
          (fun a k=>Cj (P:=Fm b k) (r:=EN b (k,true)) (fun r=>((⟨x,y,h,a,r.1⟩:A0),r.2)) (Rl b k) (fun _ _=>rfl) (fun _ _=>rfl)) (fun _ _=>rfl)) (fun _ _=>rfl)) (fun _ _=>rfl)) (fun _ _=>rfl)
theorem Gt(b:Bs):F8 b=B2 b:=by
  have h:=Rn b
  rw[Rm]
  unfold F8
  cases hd:KK b with
  | none=>
    rw[hd]at h
    have h:(FD b).2.2=false:=h
    rw[if_neg (by rw[h];simp)]
    rfl
  | some x=>
    rw[hd]at h
    have h:FD b=(x.1,(x.2,true)):=h
    rw[h,Option.bind_some]
    simp only[true_and]
open Go.RowKit
set_option maxRecDepth 100000
theorem FE{b:Bs}{s:Nat × Bool}{c:Nat}{t:Nat × Bool}(h:Ck b s=(c,t)):c≤64:=by
 unfold Ck Dv at h
 split at h
 ·cases hp:BH b s.1 64 with
  | none=>rw[hp]at h;cases h;decide
  | some x=>
   rw[hp]at h;cases h
   unfold BH at hp
   cases hn:Di b s.1 with
   | none=>rw[hn]at hp;cases hp
   | some y=>
    rw[hn,Option.bind_some]at hp
    split at hp
    ·cases hp;assumption
    ·cases hp
 ·cases h;decide
theorem OP{b:Bs}{n i:Nat}{k:Bool}{s:Nat × Bool}{t:List AK ×(Nat × Bool)}(h:Ck b s=(n,(i,k)))(ht:itR (DE b) n ([],(i,k))=t):nlR b s=t:=by unfold nlR;rw[h];exact ht
theorem LC{b:Bs}{n i:Nat}{k:Bool}{s:Nat × Bool}{t:List AM ×(Nat × Bool)}(h:Ck b s=(n,(i,k)))(ht:itR (CW b) n ([],(i,k))=t):EN b s=t:=by unfold EN;rw[h];exact ht
theorem BQ:Bm Tryz.prog 72 0 0:=fun b o w=>by simp[go_sem]
theorem BE:Bm Tryz.prog 72 1 1:=fun b o w=>by simp[go_sem]
theorem Bx:Bm Tryz.prog 72 2 2:=fun b o w=>by simp[go_sem]
theorem C2:(Tryz.prog.info? 4).map (·.size)=some 1:=by kernel_rfl
theorem ED:AI Tryz.prog 51:=fun _ _=>by kernel_rfl
theorem Hf:AI Tryz.prog 52:=fun _ _=>by kernel_rfl
theorem OQ:AI Tryz.prog 27:=fun _ _=>by kernel_rfl
theorem OR:AI Tryz.prog 25:=fun _ _=>by kernel_rfl
theorem OS:AI Tryz.prog 26:=fun _ _=>by kernel_rfl
theorem Ks(z0:List UInt8)(z1:BS)(w:World):(Instr.build 61 #[(0,St z0),(1,AB z1.1)]).run Tryz.prog w = .ok (.agg (St (z0) :: (Lib.byteCells z1.1)).toArray) w:=by
 obtain⟨z1,k1⟩:=z1
 obtain⟨a1_0,a1_1,a1_2,a1_3,a1_4,a1_5,a1_6,a1_7,a1_8,a1_9,a1_10,a1_11,a1_12,a1_13,a1_14,a1_15,a1_16,a1_17,a1_18,a1_19,a1_20,a1_21,a1_22,a1_23,a1_24,a1_25,a1_26,a1_27,a1_28,a1_29,a1_30,a1_31,rfl⟩:=Fc k1
 exact Jj _ _ _ _ _ _ _ _ _ _ _ _ _ _ _ _ _ _ _ _ _ _ _ _ _ _ _ _ _ _ _ _ _ w
theorem OT:∀(cs:Array Value),cs.size=33→∀w:World,(Instr.buildSlice 22 1 #[(0, .agg cs)]).run Tryz.prog w = .ok (.slice (some ⟨w.heap.size,0,none⟩) 1 1) (w.alloc (.cells cs 61))
 | ⟨c0 :: c1 :: c2 :: c3 :: c4 :: c5 :: c6 :: c7 :: c8 :: c9 :: c10 :: c11 :: c12 :: c13 :: c14 :: c15 :: c16 :: c17 :: c18 :: c19 :: c20 :: c21 :: c22 :: c23 :: c24 :: c25 :: c26 :: c27 :: c28 :: c29 :: c30 :: c31 :: c32 :: []⟩,_,w=>OA c0 c1 c2 c3 c4 c5 c6 c7 c8 c9 c10 c11 c12 c13 c14 c15 c16 c17 c18 c19 c20 c21 c22 c23 c24 c25 c26 c27 c28 c29 c30 c31 c32 w
set_option maxHeartbeats 1600000
theorem LD(w:World)(r:Nat)(v:Value)(b:Bs)(i:Nat)(k:Bool)(hb:w.heap[r]? =some (.cells (AQ (AF v b (i) k)).toArray 72 (0,0)))(hr:RB w v b)(hap:b= []∨OB v r)(hi:i≤b.length)(hl:b.length≤6000):
  Calls Tryz.prog 27 #[PQ r 0,NI 64] w fun e w' =>∃c n q,Ck b (i,k)=(c,(n,q))∧e = .returned (NI c)∧w'.heap[r]? =some (.cells (AQ (AF v b (n) q)).toArray 72 (0,0))∧n≤b.length∧w.grownBy w' (some r):=by
 have hlr:=(bl hb)
 have hgr:=World.grownBy.refl w (some r)
 refine As (args:= [PQ r 0,NI 64]) Tryz.func27 rfl 43 rfl (Nat.le_of_ble_eq_true rfl) ?_
 intro al hb
 have f:al 0=(PQ r 0:Value):=hb.get 0
 have s:al 1=(NI 64:Value):=hb.get 1
 clear hb
 have hE:=Ext.refl w
 refine sk fun K1 p=>(wt (oA rfl (oZ ?_)))
 cases k
 ·have hP:Dv (0:Nat) (BH b i 64) (i,false)=_:=MN
  refine tN (p _ _ (sk fun K2 a1=> ?_))
  have t:Ext w (World.drew w):=(Below.refl _ _).drew
  have hb:=eb t hb
  have hgr:w.grownBy (World.drew w) (some r):=Ab hgr t.grown (fun _ e=>by cases e)
  have hE:=hE.trans t
  refine BM [(0,9,PQ r 0),(1,10,PQ r 0),(2,11,PQ r 0),(3,12,v),(4,13,PQ r 0),(5,14,PQ r 0),(6,15,PQ r 1),(7,16,NI i),(8,17, .tuple #[NI ((Bh b i).1),NI ((Bh b i).2.1),NI ((Bh b i).2.2)]),(9,8, .tuple #[NI ((Bh b i).1),NI ((Bh b i).2.1),NI ((Bh b i).2.2)]),(10,18,NI ((Bh b i).1)),(11,19,NI ((Bh b i).2.1)),(12,20,NI ((Bh b i).2.2))] [13,14,15] (fun wz=>wz.heap[r]? =some (.cells (AQ (AF v b (i) false)).toArray 72 (0,0))∧Ext w wz∧True) (fun _ _ ⟨hb,hE,_⟩ k=>⟨(eb k hb),(hE.trans k),trivial⟩) (by kernel_rfl) (by kernel_rfl) (by kernel_rfl) ⟨hb,hE,trivial⟩ ⟨fun g ⟨hb,hE,_⟩=>Yk.move f ⟨rfl,Ext.refl _⟩,fun g ⟨hb,hE,_⟩=>Yk.nilCheck (vr (PQ r 0) rfl) ⟨rfl,Ext.refl _⟩,fun g ⟨hb,hE,_⟩=>Yk.fieldAt BQ (vr (PQ r 0) rfl) ⟨rfl,Ext.refl _⟩,fun g ⟨hb,hE,_⟩=>Yk.cell1 Ek rfl (vr (PQ r 0) rfl) (Al hb (show(AQ (AF v b (i) false))[0]? =some (v:Value)from Dm (AF v b (i) false))) ⟨rfl,Ext.refl _⟩,fun g ⟨hb,hE,_⟩=>Yk.move f ⟨rfl,Ext.refl _⟩,fun g ⟨hb,hE,_⟩=>Yk.nilCheck (vr (PQ r 0) rfl) ⟨rfl,Ext.refl _⟩,fun g ⟨hb,hE,_⟩=>Yk.fieldAt BE (vr (PQ r 0) rfl) ⟨rfl,Ext.refl _⟩,fun g ⟨hb,hE,_⟩=>Yk.cell1 Li rfl (vr (PQ r 1) rfl) (Al hb (show(AQ (AF v b (i) false))[1]? =some (NI i:Value)from Cg (AF v b (i) false))) ⟨rfl,Ext.refl _⟩,fun g ⟨hb,hE,_⟩=>Yk.callA2 Fy (vr v rfl) (vr (NI i) rfl) ((L3 _ v b (hr.keep hE) i hi (by omega)).mono (by rintro e o ⟨rfl,hx⟩;exact⟨_,rfl,rfl,hx⟩)),fun g ⟨hb,hE,_⟩=>Yk.move (vr (.tuple #[NI ((Bh b i).1),NI ((Bh b i).2.1),NI ((Bh b i).2.2)]) rfl) ⟨rfl,Ext.refl _⟩,fun g ⟨hb,hE,_⟩=>Yk.extract (vs:= [NI ((Bh b i).1),NI ((Bh b i).2.1),NI ((Bh b i).2.2)]) (vr (.tuple #[NI ((Bh b i).1),NI ((Bh b i).2.1),NI ((Bh b i).2.2)]) rfl) (show _=some (NI ((Bh b i).1):Value)from rfl) ⟨rfl,Ext.refl _⟩,fun g ⟨hb,hE,_⟩=>Yk.extract (vs:= [NI ((Bh b i).1),NI ((Bh b i).2.1),NI ((Bh b i).2.2)]) (vr (.tuple #[NI ((Bh b i).1),NI ((Bh b i).2.1),NI ((Bh b i).2.2)]) rfl) (show _=some (NI ((Bh b i).2.1):Value)from rfl) ⟨rfl,Ext.refl _⟩,fun g ⟨hb,hE,_⟩=>Yk.extract (vs:= [NI ((Bh b i).1),NI ((Bh b i).2.1),NI ((Bh b i).2.2)]) (vr (.tuple #[NI ((Bh b i).1),NI ((Bh b i).2.1),NI ((Bh b i).2.2)]) rfl) (show _=some (NI ((Bh b i).2.2):Value)from rfl) ⟨rfl,Ext.refl _⟩,trivial⟩ (AR rfl fun w6 u=> ?_)
  have hb:=eb u hb
  have hgr:w.grownBy w6 (some r):=Ab hgr u.grown (fun _ e=>by cases e)
  have hE:=hE.trans u
  refine A7 (Yk.assign (vr (NI ((Bh b i).1)) rfl) ?_)
  refine⟨.inr ⟨hb,hE,trivial⟩,?_⟩
  refine AR rfl fun w8 x=> ?_
  have hb:=eb x hb
  have hgr:w.grownBy w8 (some r):=Ab hgr x.grown (fun _ e=>by cases e)
  have hE:=hE.trans x
  refine A7 (Yk.assign (vr (NI ((Bh b i).2.1)) rfl) ?_)
  refine⟨.inr ⟨hb,hE,trivial⟩,?_⟩
  refine AR rfl fun a4 y=> ?_
  have hb:=eb y hb
  have hgr:w.grownBy a4 (some r):=Ab hgr y.grown (fun _ e=>by cases e)
  have hE:=hE.trans y
  refine A7 (Yk.assign (vr (NI ((Bh b i).2.2)) rfl) ?_)
  refine⟨.inl rfl,?_⟩
  refine CA ?_
  have hr:=(hr.keep hE)
  refine tN (a1 _ _ (sk fun bx bz=>(sk fun b0 a5=>(wt (oM rfl (oS rfl (Yk.eqI (a:=((Bh b i).2.2:Nat)) (b:=(0:Nat)) rfl rfl (BO _ _ _ _) (oM rfl (Ac (NI ((Bh b i).1)) rfl rfl (gF (vr (.bool (decide (((Bh b i).2.2:Nat)≠(0)))) rfl)) (fun hG14=>Yk.move (vr (NI ((Bh b i).1)) rfl) ⟨rfl,rfl⟩) (Ac (NI 64) rfl rfl (gF (vr (.bool (decide (((Bh b i).2.2:Nat)≠(0)))) rfl)) (fun hG15=>Yk.move s ⟨rfl,rfl⟩) (Ac (.bool (decide ((64)<((Bh b i).1)))) rfl rfl (gF (vr (.bool (decide (((Bh b i).2.2:Nat)≠(0)))) rfl)) (fun hG16=>Yk.eqI (a:=(((Bh b i).1:Nat):Int)) (b:=((64:Nat):Int)) (Ak (vr (cond (!(decide (((Bh b i).2.2:Nat)≠(0)))) (NI ((Bh b i).1)) undef) rfl) hG16) (Ak (vr (cond (!(decide (((Bh b i).2.2:Nat)≠(0)))) (NI 64) undef) rfl) hG16) (BA _ .i64 ((Bh b i).1) (64)) ⟨rfl,rfl⟩) (oS rfl (Yk.pickOrN (vr (.bool (decide (((Bh b i).2.2:Nat)≠(0)))) rfl) (vr (.bool (true)) rfl) (fun hA=>(Ak (vr (cond (!(decide (((Bh b i).2.2:Nat)≠(0)))) (.bool (decide ((64)<((Bh b i).1)))) undef) rfl) (Bb hA))) fun bb17 hbb18=>(oM rfl (Ac (PQ r 0) rfl rfl (gF (vr (.bool (bb17)) rfl)) (fun hG19=>Yk.move f ⟨rfl,rfl⟩) (Ac (PQ r 0) rfl rfl (gF (vr (.bool (bb17)) rfl)) (fun hG20=>Yk.nilCheck (Ak (vr (cond (!bb17) (PQ r 0) undef) rfl) hG20) ⟨rfl,rfl⟩) (Ac (PQ r 2) rfl rfl (gF (vr (.bool (bb17)) rfl)) (fun hG21=>Yk.fieldAt Bx (Ak (vr (cond (!bb17) (PQ r 0) undef) rfl) hG21) ⟨rfl,rfl⟩) (Ac (.bool (false)) rfl rfl (gF (vr (.bool (bb17)) rfl)) (fun hG22=>Yk.cell1 PA rfl (Ak (vr (cond (!bb17) (PQ r 2) undef) rfl) hG22) (Al hb (show(AQ (AF v b (i) false))[2]? =some (.bool (false):Value)from CC (AF v b (i) false))) ⟨rfl,rfl⟩) ?_))))))))))))))))))
  refine Ac (.bool (true)) rfl rfl (gF (vr (.bool (bb17)) rfl)) (fun hG23=>Yk.notB (Ak (vr (cond (!bb17) (.bool (false)) undef) rfl) hG23) ⟨rfl,rfl⟩) (oS rfl (Yk.pickOr (vr (.bool (bb17)) rfl) (vr (.bool (true)) rfl) (fun hA=>(Ak (vr (cond (!bb17) (.bool (true)) undef) rfl) (Bb hA))) (oZ (tN (a5 _ _ (wpF_true (vr (.bool (true)) (congrArg Value.bool (Bool.or_true _))) (sk fun b1 a6=>(wt (oM rfl (oS rfl (Yk.nilCheck f (oS rfl (Yk.fieldAt Bx (vr (PQ r 0) rfl) (oS rfl (Yk.storeC (i:=2) (v:= .bool (false)) (vr (PQ r 2) rfl) (vr (.bool (false)) rfl) hb (by rw[Cz];decide) C2 rfl rfl fun am an ao b2=> ?_)))))))))))))))
  have hr:=RB.keptE hr ao hap
  have hgr:w.grownBy am (some r):=Ab hgr ao (fun _ e=> .inl e)
  clear hE
  clear hb
  have hb:am.heap[r]? =some (.cells (AQ ((⟨b,((i:Nat):Int),false⟩,⟨v⟩):CH)).toArray 72 (0,0)):=AG an (DK (AF v b (i) false) false);clear an
  have b3:=bl hb
  refine oZ (tN (a6 _ _ (sk fun b4 a7=>(wt (oA rfl (oZ (tN (a7 _ _ (Am (An (Aj (fn:=Tryz.f27) _ rfl [NI 0] (NI 0) rfl ⟨rfl,trivial⟩ ?_)))))))))))
  exact⟨_,_,_,hP,rfl,hb,by omega,hgr⟩
 rcases hgl:AT 0 (b.drop i)with _ | ⟨xn,xk⟩
 ·have hp:BH b i 64=none:=by unfold BH Di;rw[hgl];rfl
  have hP:Dv (0:Nat) (BH b i 64) (i,true)=_:=Gi hp
  refine tN (p _ _ (sk fun b5 a8=> ?_))
  have z:Ext w (World.drew w):=(Below.refl _ _).drew
  have hb:=eb z hb
  have hgr:w.grownBy (World.drew w) (some r):=Ab hgr z.grown (fun _ e=>by cases e)
  have hE:=hE.trans z
  refine BM [(0,9,PQ r 0),(1,10,PQ r 0),(2,11,PQ r 0),(3,12,v),(4,13,PQ r 0),(5,14,PQ r 0),(6,15,PQ r 1),(7,16,NI i),(8,17, .tuple #[NI 0,NI 0,NI 6]),(9,8, .tuple #[NI 0,NI 0,NI 6]),(10,18,NI 0),(11,19,NI 0),(12,20,NI 6)] [13,14,15] (fun wz=>wz.heap[r]? =some (.cells (AQ (AF v b (i) true)).toArray 72 (0,0))∧Ext w wz∧True) (fun _ _ ⟨hb,hE,_⟩ k=>⟨(eb k hb),(hE.trans k),trivial⟩) (by kernel_rfl) (by kernel_rfl) (by kernel_rfl) ⟨hb,hE,trivial⟩ ⟨fun j ⟨hb,hE,_⟩=>Yk.move f ⟨rfl,Ext.refl _⟩,fun j ⟨hb,hE,_⟩=>Yk.nilCheck (vr (PQ r 0) rfl) ⟨rfl,Ext.refl _⟩,fun j ⟨hb,hE,_⟩=>Yk.fieldAt BQ (vr (PQ r 0) rfl) ⟨rfl,Ext.refl _⟩,fun j ⟨hb,hE,_⟩=>Yk.cell1 Ek rfl (vr (PQ r 0) rfl) (Al hb (show(AQ (AF v b (i) true))[0]? =some (v:Value)from Dm (AF v b (i) true))) ⟨rfl,Ext.refl _⟩,fun j ⟨hb,hE,_⟩=>Yk.move f ⟨rfl,Ext.refl _⟩,fun j ⟨hb,hE,_⟩=>Yk.nilCheck (vr (PQ r 0) rfl) ⟨rfl,Ext.refl _⟩,fun j ⟨hb,hE,_⟩=>Yk.fieldAt BE (vr (PQ r 0) rfl) ⟨rfl,Ext.refl _⟩,fun j ⟨hb,hE,_⟩=>Yk.cell1 Li rfl (vr (PQ r 1) rfl) (Al hb (show(AQ (AF v b (i) true))[1]? =some (NI i:Value)from Cg (AF v b (i) true))) ⟨rfl,Ext.refl _⟩,fun j ⟨hb,hE,_⟩=>Yk.callA2 Fy (vr v rfl) (vr (NI i) rfl) (((show Calls _ _ _ _ (fun e o=>e = .returned (.tuple #[NI 0,NI 0,NI 6])∧Ext _ o)from by have h:=C1 _ v (b) (hr.keep hE) (i) (by omega) (by omega);rw[hgl]at h;exact h)).mono (by rintro e o ⟨rfl,hx⟩;exact⟨_,rfl,rfl,hx⟩)),fun j ⟨hb,hE,_⟩=>Yk.move (vr (.tuple #[NI 0,NI 0,NI 6]) rfl) ⟨rfl,Ext.refl _⟩,fun j ⟨hb,hE,_⟩=>Yk.extract (vs:= [NI 0,NI 0,NI 6]) (vr (.tuple #[NI 0,NI 0,NI 6]) rfl) (show _=some (NI 0:Value)from rfl) ⟨rfl,Ext.refl _⟩,fun j ⟨hb,hE,_⟩=>Yk.extract (vs:= [NI 0,NI 0,NI 6]) (vr (.tuple #[NI 0,NI 0,NI 6]) rfl) (show _=some (NI 0:Value)from rfl) ⟨rfl,Ext.refl _⟩,fun j ⟨hb,hE,_⟩=>Yk.extract (vs:= [NI 0,NI 0,NI 6]) (vr (.tuple #[NI 0,NI 0,NI 6]) rfl) (show _=some (NI 6:Value)from rfl) ⟨rfl,Ext.refl _⟩,trivial⟩ (AR rfl fun a9 aa=> ?_)
  have hb:=eb aa hb
  have hgr:w.grownBy a9 (some r):=Ab hgr aa.grown (fun _ e=>by cases e)
  have hE:=hE.trans aa
  refine A7 (Yk.assign (vr (NI 0) rfl) ?_)
  refine⟨.inr ⟨hb,hE,trivial⟩,?_⟩
  refine AR rfl fun ba ab=> ?_
  have hb:=eb ab hb
  have hgr:w.grownBy ba (some r):=Ab hgr ab.grown (fun _ e=>by cases e)
  have hE:=hE.trans ab
  refine A7 (Yk.assign (vr (NI 0) rfl) ?_)
  refine⟨.inr ⟨hb,hE,trivial⟩,?_⟩
  refine AR rfl fun bb ac=> ?_
  have hb:=eb ac hb
  have hgr:w.grownBy bb (some r):=Ab hgr ac.grown (fun _ e=>by cases e)
  have hE:=hE.trans ac
  refine A7 (Yk.assign (vr (NI 6) rfl) ?_)
  refine⟨.inl rfl,?_⟩
  refine CA ?_
  have hr:=(hr.keep hE)
  refine tN (a8 _ _ (sk fun b6 b7=>(sk fun b8 bc=>(wt (oM rfl (oS rfl (Yk.eqI (a:=(6:Nat)) (b:=(0:Nat)) rfl rfl (BO _ _ _ _) (oM rfl (oN (d:=23) rfl rfl rfl (vr (.bool (true)) (congrArg Value.bool (decide_eq_true (by decide)))) rfl (oN (d:=23) rfl rfl rfl (vr (.bool (true)) (congrArg Value.bool (decide_eq_true (by decide)))) rfl (oN (d:=23) rfl rfl rfl (vr (.bool (true)) (congrArg Value.bool (decide_eq_true (by decide)))) rfl (oS rfl (Yk.pickT (vr (.bool (true)) (congrArg Value.bool (decide_eq_true (by decide)))) (vr (.bool (true)) rfl) (oM rfl (oN (d:=28) rfl rfl rfl (vr (.bool (true)) rfl) rfl (oN (d:=28) rfl rfl rfl (vr (.bool (true)) rfl) rfl (oN (d:=28) rfl rfl rfl (vr (.bool (true)) rfl) rfl (oN (d:=28) rfl rfl rfl (vr (.bool (true)) rfl) rfl ?_))))))))))))))))))
  refine oN (d:=28) rfl rfl rfl (vr (.bool (true)) rfl) rfl (oS rfl (Yk.pickT (vr (.bool (true)) rfl) (vr (.bool (true)) rfl) (oZ (tN (bc _ _ (wpF_true (vr (.bool (true)) rfl) (sk fun b9 bd=>(wt (oM rfl (oS rfl (Yk.nilCheck f (oS rfl (Yk.fieldAt Bx (vr (PQ r 0) rfl) (oS rfl (Yk.storeC (i:=2) (v:= .bool (false)) (vr (PQ r 2) rfl) (vr (.bool (false)) rfl) hb (by rw[Cz];decide) C2 rfl rfl fun ap aq ar ca=> ?_)))))))))))))))
  have hr:=RB.keptE hr ar hap
  have hgr:w.grownBy ap (some r):=Ab hgr ar (fun _ e=> .inl e)
  clear hE
  clear hb
  have hb:ap.heap[r]? =some (.cells (AQ ((⟨b,((i:Nat):Int),false⟩,⟨v⟩):CH)).toArray 72 (0,0)):=AG aq (DK (AF v b (i) true) false);clear aq
  have cb:=bl hb
  refine oZ (tN (bd _ _ (sk fun cc be=>(wt (oA rfl (oZ (tN (be _ _ (Am (An (Aj (fn:=Tryz.f27) _ rfl [NI 0] (NI 0) rfl ⟨rfl,trivial⟩ ?_)))))))))))
  exact⟨_,_,_,hP,rfl,hb,by omega,hgr⟩
 have au:Di b i=some (xn,i+xk):=by unfold Di;rw[hgl];rfl
 by_cases hm:xn≤64
 ·have hp:BH b i 64=some (xn,i+xk):=by unfold BH;rw[au];exact if_pos hm
  have hle:=(F6 hi hp).1
  have hP:Dv (0:Nat) (BH b i 64) (i,true)=_:=KF hp
  refine tN (p _ _ (sk fun cd bf=> ?_))
  have ad:Ext w (World.drew w):=(Below.refl _ _).drew
  have hb:=eb ad hb
  have hgr:w.grownBy (World.drew w) (some r):=Ab hgr ad.grown (fun _ e=>by cases e)
  have hE:=hE.trans ad
  refine BM [(0,9,PQ r 0),(1,10,PQ r 0),(2,11,PQ r 0),(3,12,v),(4,13,PQ r 0),(5,14,PQ r 0),(6,15,PQ r 1),(7,16,NI i),(8,17, .tuple #[NI xn,NI (i+xk),NI 0]),(9,8, .tuple #[NI xn,NI (i+xk),NI 0]),(10,18,NI xn),(11,19,NI (i+xk)),(12,20,NI 0)] [13,14,15] (fun wz=>wz.heap[r]? =some (.cells (AQ (AF v b (i) true)).toArray 72 (0,0))∧Ext w wz∧True) (fun _ _ ⟨hb,hE,_⟩ k=>⟨(eb k hb),(hE.trans k),trivial⟩) (by kernel_rfl) (by kernel_rfl) (by kernel_rfl) ⟨hb,hE,trivial⟩ ⟨fun l ⟨hb,hE,_⟩=>Yk.move f ⟨rfl,Ext.refl _⟩,fun l ⟨hb,hE,_⟩=>Yk.nilCheck (vr (PQ r 0) rfl) ⟨rfl,Ext.refl _⟩,fun l ⟨hb,hE,_⟩=>Yk.fieldAt BQ (vr (PQ r 0) rfl) ⟨rfl,Ext.refl _⟩,fun l ⟨hb,hE,_⟩=>Yk.cell1 Ek rfl (vr (PQ r 0) rfl) (Al hb (show(AQ (AF v b (i) true))[0]? =some (v:Value)from Dm (AF v b (i) true))) ⟨rfl,Ext.refl _⟩,fun l ⟨hb,hE,_⟩=>Yk.move f ⟨rfl,Ext.refl _⟩,fun l ⟨hb,hE,_⟩=>Yk.nilCheck (vr (PQ r 0) rfl) ⟨rfl,Ext.refl _⟩,fun l ⟨hb,hE,_⟩=>Yk.fieldAt BE (vr (PQ r 0) rfl) ⟨rfl,Ext.refl _⟩,fun l ⟨hb,hE,_⟩=>Yk.cell1 Li rfl (vr (PQ r 1) rfl) (Al hb (show(AQ (AF v b (i) true))[1]? =some (NI i:Value)from Cg (AF v b (i) true))) ⟨rfl,Ext.refl _⟩,fun l ⟨hb,hE,_⟩=>Yk.callA2 Fy (vr v rfl) (vr (NI i) rfl) (((show Calls _ _ _ _ (fun e o=>e = .returned (.tuple #[NI xn,NI (i+xk),NI 0])∧Ext _ o)from by have h:=C1 _ v (b) (hr.keep hE) (i) (by omega) (by omega);rw[hgl]at h;exact h)).mono (by rintro e o ⟨rfl,hx⟩;exact⟨_,rfl,rfl,hx⟩)),fun l ⟨hb,hE,_⟩=>Yk.move (vr (.tuple #[NI xn,NI (i+xk),NI 0]) rfl) ⟨rfl,Ext.refl _⟩,fun l ⟨hb,hE,_⟩=>Yk.extract (vs:= [NI xn,NI (i+xk),NI 0]) (vr (.tuple #[NI xn,NI (i+xk),NI 0]) rfl) (show _=some (NI xn:Value)from rfl) ⟨rfl,Ext.refl _⟩,fun l ⟨hb,hE,_⟩=>Yk.extract (vs:= [NI xn,NI (i+xk),NI 0]) (vr (.tuple #[NI xn,NI (i+xk),NI 0]) rfl) (show _=some (NI (i+xk):Value)from rfl) ⟨rfl,Ext.refl _⟩,fun l ⟨hb,hE,_⟩=>Yk.extract (vs:= [NI xn,NI (i+xk),NI 0]) (vr (.tuple #[NI xn,NI (i+xk),NI 0]) rfl) (show _=some (NI 0:Value)from rfl) ⟨rfl,Ext.refl _⟩,trivial⟩ (AR rfl fun bg ae=> ?_)
  have hb:=eb ae hb
  have hgr:w.grownBy bg (some r):=Ab hgr ae.grown (fun _ e=>by cases e)
  have hE:=hE.trans ae
  refine A7 (Yk.assign (vr (NI xn) rfl) ?_)
  refine⟨.inr ⟨hb,hE,trivial⟩,?_⟩
  refine AR rfl fun bh af=> ?_
  have hb:=eb af hb
  have hgr:w.grownBy bh (some r):=Ab hgr af.grown (fun _ e=>by cases e)
  have hE:=hE.trans af
  refine A7 (Yk.assign (vr (NI (i+xk)) rfl) ?_)
  refine⟨.inr ⟨hb,hE,trivial⟩,?_⟩
  refine AR rfl fun bi ag=> ?_
  have hb:=eb ag hb
  have hgr:w.grownBy bi (some r):=Ab hgr ag.grown (fun _ e=>by cases e)
  have hE:=hE.trans ag
  refine A7 (Yk.assign (vr (NI 0) rfl) ?_)
  refine⟨.inl rfl,?_⟩
  refine CA ?_
  have hr:=(hr.keep hE)
  refine tN (bf _ _ (sk fun ce bj=>(sk fun cf bk=>(wt (oM rfl (oS rfl (Yk.eqI (a:=(0:Nat)) (b:=(0:Nat)) rfl rfl (BO _ _ _ _) (oM rfl (oY (d:=23) rfl rfl (vr (.bool (false)) (congrArg Value.bool (decide_eq_false (fun h=>h rfl)))) (Yk.move (vr (NI xn) rfl) (oY (d:=23) rfl rfl (vr (.bool (false)) (congrArg Value.bool (decide_eq_false (fun h=>h rfl)))) (Yk.move s (oY (d:=23) rfl rfl (vr (.bool (false)) (congrArg Value.bool (decide_eq_false (fun h=>h rfl)))) (Yk.eqI (a:=(xn:Nat)) (b:=(64:Nat)) rfl rfl (BA _ _ _ _) (oS rfl (Yk.pickF (vr (.bool (false)) (congrArg Value.bool (decide_eq_false (fun h=>h rfl)))) (vr (.bool (false)) (congrArg Value.bool (decide_eq_false (by omega)))) (oM rfl (oY (d:=28) rfl rfl (vr (.bool (false)) rfl) (Yk.move f (oY (d:=28) rfl rfl (vr (.bool (false)) rfl) (Yk.nilCheck (vr (PQ r 0) rfl) (oY (d:=28) rfl rfl (vr (.bool (false)) rfl) (Yk.fieldAt Bx (vr (PQ r 0) rfl) (oY (d:=28) rfl rfl (vr (.bool (false)) rfl) (Yk.cell1 PA rfl (vr (PQ r 2) rfl) (Al hb (show(AQ (AF v b (i) true))[2]? =some (.bool (true):Value)from CC (AF v b (i) true))) ?_)))))))))))))))))))))))))
  refine oY (d:=28) rfl rfl (vr (.bool (false)) rfl) (Yk.notB (vr (.bool (true)) rfl) (oS rfl (Yk.pickF (vr (.bool (false)) rfl) (vr (.bool (false)) rfl) (oZ (tN (bk _ _ (AH (vr (.bool (false)) rfl) (Aq (tN (bj _ _ (sk fun cg bm=>(wt (oM rfl (oM rfl (oS rfl (Yk.nilCheck f (oS rfl (Yk.fieldAt BE (vr (PQ r 0) rfl) (oS rfl (Yk.storeC (i:=1) (v:=NI (i+xk)) (vr (PQ r 1) rfl) (vr (NI (i+xk)) rfl) hb (by rw[Cz];decide) Dd rfl rfl fun av aw ax ch=> ?_))))))))))))))))))))
  have hr:=RB.keptE hr ax hap
  have hgr:w.grownBy av (some r):=Ab hgr ax (fun _ e=> .inl e)
  clear hE
  clear hb
  have hb:av.heap[r]? =some (.cells (AQ ((⟨b,((i+xk:Nat):Int),true⟩,⟨v⟩):CH)).toArray 72 (0,0)):=AG aw (In (AF v b (i) true) ((i+xk:Nat):Int));clear aw
  have ci:=bl hb
  refine oZ (tN (bm _ _ (sk fun cj bn=>(wt (oM rfl (oA rfl (oZ (tN (bn _ _ (Am (Aj (fn:=Tryz.f27) _ rfl [NI xn] (NI xn) rfl ⟨rfl,trivial⟩ ?_)))))))))))
  exact⟨_,_,_,hP,rfl,hb,by omega,hgr⟩
 have hp:BH b i 64=none:=by unfold BH;rw[au];exact if_neg hm
 have hP:Dv (0:Nat) (BH b i 64) (i,true)=_:=Gi hp
 refine tN (p _ _ (sk fun ck bo=> ?_))
 have ah:Ext w (World.drew w):=(Below.refl _ _).drew
 have hb:=eb ah hb
 have hgr:w.grownBy (World.drew w) (some r):=Ab hgr ah.grown (fun _ e=>by cases e)
 have hE:=hE.trans ah
 refine BM [(0,9,PQ r 0),(1,10,PQ r 0),(2,11,PQ r 0),(3,12,v),(4,13,PQ r 0),(5,14,PQ r 0),(6,15,PQ r 1),(7,16,NI i),(8,17, .tuple #[NI xn,NI (i+xk),NI 0]),(9,8, .tuple #[NI xn,NI (i+xk),NI 0]),(10,18,NI xn),(11,19,NI (i+xk)),(12,20,NI 0)] [13,14,15] (fun wz=>wz.heap[r]? =some (.cells (AQ (AF v b (i) true)).toArray 72 (0,0))∧Ext w wz∧True) (fun _ _ ⟨hb,hE,_⟩ k=>⟨(eb k hb),(hE.trans k),trivial⟩) (by kernel_rfl) (by kernel_rfl) (by kernel_rfl) ⟨hb,hE,trivial⟩ ⟨fun m ⟨hb,hE,_⟩=>Yk.move f ⟨rfl,Ext.refl _⟩,fun m ⟨hb,hE,_⟩=>Yk.nilCheck (vr (PQ r 0) rfl) ⟨rfl,Ext.refl _⟩,fun m ⟨hb,hE,_⟩=>Yk.fieldAt BQ (vr (PQ r 0) rfl) ⟨rfl,Ext.refl _⟩,fun m ⟨hb,hE,_⟩=>Yk.cell1 Ek rfl (vr (PQ r 0) rfl) (Al hb (show(AQ (AF v b (i) true))[0]? =some (v:Value)from Dm (AF v b (i) true))) ⟨rfl,Ext.refl _⟩,fun m ⟨hb,hE,_⟩=>Yk.move f ⟨rfl,Ext.refl _⟩,fun m ⟨hb,hE,_⟩=>Yk.nilCheck (vr (PQ r 0) rfl) ⟨rfl,Ext.refl _⟩,fun m ⟨hb,hE,_⟩=>Yk.fieldAt BE (vr (PQ r 0) rfl) ⟨rfl,Ext.refl _⟩,fun m ⟨hb,hE,_⟩=>Yk.cell1 Li rfl (vr (PQ r 1) rfl) (Al hb (show(AQ (AF v b (i) true))[1]? =some (NI i:Value)from Cg (AF v b (i) true))) ⟨rfl,Ext.refl _⟩,fun m ⟨hb,hE,_⟩=>Yk.callA2 Fy (vr v rfl) (vr (NI i) rfl) (((show Calls _ _ _ _ (fun e o=>e = .returned (.tuple #[NI xn,NI (i+xk),NI 0])∧Ext _ o)from by have h:=C1 _ v (b) (hr.keep hE) (i) (by omega) (by omega);rw[hgl]at h;exact h)).mono (by rintro e o ⟨rfl,hx⟩;exact⟨_,rfl,rfl,hx⟩)),fun m ⟨hb,hE,_⟩=>Yk.move (vr (.tuple #[NI xn,NI (i+xk),NI 0]) rfl) ⟨rfl,Ext.refl _⟩,fun m ⟨hb,hE,_⟩=>Yk.extract (vs:= [NI xn,NI (i+xk),NI 0]) (vr (.tuple #[NI xn,NI (i+xk),NI 0]) rfl) (show _=some (NI xn:Value)from rfl) ⟨rfl,Ext.refl _⟩,fun m ⟨hb,hE,_⟩=>Yk.extract (vs:= [NI xn,NI (i+xk),NI 0]) (vr (.tuple #[NI xn,NI (i+xk),NI 0]) rfl) (show _=some (NI (i+xk):Value)from rfl) ⟨rfl,Ext.refl _⟩,fun m ⟨hb,hE,_⟩=>Yk.extract (vs:= [NI xn,NI (i+xk),NI 0]) (vr (.tuple #[NI xn,NI (i+xk),NI 0]) rfl) (show _=some (NI 0:Value)from rfl) ⟨rfl,Ext.refl _⟩,trivial⟩ (AR rfl fun bp ai=> ?_)
 have hb:=eb ai hb
 have hgr:w.grownBy bp (some r):=Ab hgr ai.grown (fun _ e=>by cases e)
 have hE:=hE.trans ai
 refine A7 (Yk.assign (vr (NI xn) rfl) ?_)
 refine⟨.inr ⟨hb,hE,trivial⟩,?_⟩
 refine AR rfl fun bq aj=> ?_
 have hb:=eb aj hb
 have hgr:w.grownBy bq (some r):=Ab hgr aj.grown (fun _ e=>by cases e)
 have hE:=hE.trans aj
 refine A7 (Yk.assign (vr (NI (i+xk)) rfl) ?_)
 refine⟨.inr ⟨hb,hE,trivial⟩,?_⟩
 refine AR rfl fun br ak=> ?_
 have hb:=eb ak hb
 have hgr:w.grownBy br (some r):=Ab hgr ak.grown (fun _ e=>by cases e)
 have hE:=hE.trans ak
 refine A7 (Yk.assign (vr (NI 0) rfl) ?_)
 refine⟨.inl rfl,?_⟩
 refine CA ?_
 have hr:=(hr.keep hE)
 refine tN (bo _ _ (sk fun cl cm=>(sk fun cn bs=>(wt (oM rfl (oS rfl (Yk.eqI (a:=(0:Nat)) (b:=(0:Nat)) rfl rfl (BO _ _ _ _) (oM rfl (oY (d:=23) rfl rfl (vr (.bool (false)) (congrArg Value.bool (decide_eq_false (fun h=>h rfl)))) (Yk.move (vr (NI xn) rfl) (oY (d:=23) rfl rfl (vr (.bool (false)) (congrArg Value.bool (decide_eq_false (fun h=>h rfl)))) (Yk.move s (oY (d:=23) rfl rfl (vr (.bool (false)) (congrArg Value.bool (decide_eq_false (fun h=>h rfl)))) (Yk.eqI (a:=(xn:Nat)) (b:=(64:Nat)) rfl rfl (BA _ _ _ _) (oS rfl (Yk.pickF (vr (.bool (false)) (congrArg Value.bool (decide_eq_false (fun h=>h rfl)))) (vr (.bool (true)) (congrArg Value.bool (decide_eq_true (by omega)))) (oM rfl (oN (d:=28) rfl rfl rfl (vr (.bool (true)) rfl) rfl (oN (d:=28) rfl rfl rfl (vr (.bool (true)) rfl) rfl (oN (d:=28) rfl rfl rfl (vr (.bool (true)) rfl) rfl (oN (d:=28) rfl rfl rfl (vr (.bool (true)) rfl) rfl ?_)))))))))))))))))))))
 refine oN (d:=28) rfl rfl rfl (vr (.bool (true)) rfl) rfl (oS rfl (Yk.pickT (vr (.bool (true)) rfl) (vr (.bool (true)) rfl) (oZ (tN (bs _ _ (wpF_true (vr (.bool (true)) rfl) (sk fun co bt=>(wt (oM rfl (oS rfl (Yk.nilCheck f (oS rfl (Yk.fieldAt Bx (vr (PQ r 0) rfl) (oS rfl (Yk.storeC (i:=2) (v:= .bool (false)) (vr (PQ r 2) rfl) (vr (.bool (false)) rfl) hb (by rw[Cz];decide) C2 rfl rfl fun ay az a0 cp=> ?_)))))))))))))))
 have hr:=RB.keptE hr a0 hap
 have hgr:w.grownBy ay (some r):=Ab hgr a0 (fun _ e=> .inl e)
 clear hE
 clear hb
 have hb:ay.heap[r]? =some (.cells (AQ ((⟨b,((i:Nat):Int),false⟩,⟨v⟩):CH)).toArray 72 (0,0)):=AG az (DK (AF v b (i) true) false);clear az
 have cq:=bl hb
 refine oZ (tN (bt _ _ (sk fun cr bu=>(wt (oA rfl (oZ (tN (bu _ _ (Am (An (Aj (fn:=Tryz.f27) _ rfl [NI 0] (NI 0) rfl ⟨rfl,trivial⟩ ?_)))))))))))
 exact⟨_,_,_,hP,rfl,hb,by omega,hgr⟩

theorem D7(w:World)(r:Nat)(v:Value)(b:Bs)(i:Nat)(k:Bool)(hb:w.heap[r]? =some (.cells (AQ (AF v b (i) k)).toArray 72 (0,0)))(hr:RB w v b)(hap:b= []∨OB v r)(hi:i≤b.length)(hl:b.length≤6000):
  Calls Tryz.prog 25 #[PQ r 0] w fun e w' =>∃c n q,BD b 256 (i,k)=(c,(n,q))∧e = .returned (St c)∧w'.heap[r]? =some (.cells (AQ (AF v b (n) q)).toArray 72 (0,0))∧n≤b.length∧w.grownBy w' (some r):=by
 have hlr:=(bl hb)
 have hgr:=World.grownBy.refl w (some r)
 refine As (args:= [PQ r 0]) Tryz.func25 rfl 36 rfl (Nat.le_of_ble_eq_true rfl) ?_
 intro a7 hb
 have f:a7 0=(PQ r 0:Value):=hb.get 0
 clear hb
 have hE:=Ext.refl w
 refine sk fun K1 s=>(wt (oA rfl (oZ ?_)))
 cases k
 ·have hP:Dv ([]:Bs) (BB b i 256) (i,false)=_:=MN
  refine tN (s _ _ (sk fun K2 a8=> ?_))
  have t:Ext w (World.drew w):=(Below.refl _ _).drew
  have hb:=eb t hb
  have hgr:w.grownBy (World.drew w) (some r):=Ab hgr t.grown (fun _ e=>by cases e)
  have hE:=hE.trans t
  refine BM [(0,7,PQ r 0),(1,8,PQ r 0),(2,9,PQ r 0),(3,10,v),(4,11,PQ r 0),(5,12,PQ r 0),(6,13,PQ r 1),(7,14,NI i),(8,15, .tuple #[St ((AJ b i 256).1),NI ((AJ b i 256).2.1),NI ((AJ b i 256).2.2)]),(9,6, .tuple #[St ((AJ b i 256).1),NI ((AJ b i 256).2.1),NI ((AJ b i 256).2.2)]),(10,16,St ((AJ b i 256).1)),(11,17,NI ((AJ b i 256).2.1)),(12,18,NI ((AJ b i 256).2.2))] [13,14,15] (fun wz=>wz.heap[r]? =some (.cells (AQ (AF v b (i) false)).toArray 72 (0,0))∧Ext w wz∧True) (fun _ _ ⟨hb,hE,_⟩ k=>⟨(eb k hb),(hE.trans k),trivial⟩) (by kernel_rfl) (by kernel_rfl) (by kernel_rfl) ⟨hb,hE,trivial⟩ ⟨fun g ⟨hb,hE,_⟩=>Yk.move f ⟨rfl,Ext.refl _⟩,fun g ⟨hb,hE,_⟩=>Yk.nilCheck (vr (PQ r 0) rfl) ⟨rfl,Ext.refl _⟩,fun g ⟨hb,hE,_⟩=>Yk.fieldAt BQ (vr (PQ r 0) rfl) ⟨rfl,Ext.refl _⟩,fun g ⟨hb,hE,_⟩=>Yk.cell1 Ek rfl (vr (PQ r 0) rfl) (Al hb (show(AQ (AF v b (i) false))[0]? =some (v:Value)from Dm (AF v b (i) false))) ⟨rfl,Ext.refl _⟩,fun g ⟨hb,hE,_⟩=>Yk.move f ⟨rfl,Ext.refl _⟩,fun g ⟨hb,hE,_⟩=>Yk.nilCheck (vr (PQ r 0) rfl) ⟨rfl,Ext.refl _⟩,fun g ⟨hb,hE,_⟩=>Yk.fieldAt BE (vr (PQ r 0) rfl) ⟨rfl,Ext.refl _⟩,fun g ⟨hb,hE,_⟩=>Yk.cell1 Li rfl (vr (PQ r 1) rfl) (Al hb (show(AQ (AF v b (i) false))[1]? =some (NI i:Value)from Cg (AF v b (i) false))) ⟨rfl,Ext.refl _⟩,fun g ⟨hb,hE,_⟩=>Yk.callA3 ED (vr v rfl) (vr (NI i) rfl) (vr (NI 256) rfl) ((Da _ v b (hr.keep hE) i 256 hi (by omega)).mono (by rintro e j ⟨rfl,hx⟩;exact⟨_,rfl,rfl,hx⟩)),fun g ⟨hb,hE,_⟩=>Yk.move (vr (.tuple #[St ((AJ b i 256).1),NI ((AJ b i 256).2.1),NI ((AJ b i 256).2.2)]) rfl) ⟨rfl,Ext.refl _⟩,fun g ⟨hb,hE,_⟩=>Yk.extract (vs:= [St ((AJ b i 256).1),NI ((AJ b i 256).2.1),NI ((AJ b i 256).2.2)]) (vr (.tuple #[St ((AJ b i 256).1),NI ((AJ b i 256).2.1),NI ((AJ b i 256).2.2)]) rfl) (show _=some (St ((AJ b i 256).1):Value)from rfl) ⟨rfl,Ext.refl _⟩,fun g ⟨hb,hE,_⟩=>Yk.extract (vs:= [St ((AJ b i 256).1),NI ((AJ b i 256).2.1),NI ((AJ b i 256).2.2)]) (vr (.tuple #[St ((AJ b i 256).1),NI ((AJ b i 256).2.1),NI ((AJ b i 256).2.2)]) rfl) (show _=some (NI ((AJ b i 256).2.1):Value)from rfl) ⟨rfl,Ext.refl _⟩,fun g ⟨hb,hE,_⟩=>Yk.extract (vs:= [St ((AJ b i 256).1),NI ((AJ b i 256).2.1),NI ((AJ b i 256).2.2)]) (vr (.tuple #[St ((AJ b i 256).1),NI ((AJ b i 256).2.1),NI ((AJ b i 256).2.2)]) rfl) (show _=some (NI ((AJ b i 256).2.2):Value)from rfl) ⟨rfl,Ext.refl _⟩,trivial⟩ (AR rfl fun w6 u=> ?_)
  have hb:=eb u hb
  have hgr:w.grownBy w6 (some r):=Ab hgr u.grown (fun _ e=>by cases e)
  have hE:=hE.trans u
  refine A7 (Yk.assign (vr (St ((AJ b i 256).1)) rfl) ?_)
  refine⟨.inr ⟨hb,hE,trivial⟩,?_⟩
  refine AR rfl fun w8 x=> ?_
  have hb:=eb x hb
  have hgr:w.grownBy w8 (some r):=Ab hgr x.grown (fun _ e=>by cases e)
  have hE:=hE.trans x
  refine A7 (Yk.assign (vr (NI ((AJ b i 256).2.1)) rfl) ?_)
  refine⟨.inr ⟨hb,hE,trivial⟩,?_⟩
  refine AR rfl fun bb y=> ?_
  have hb:=eb y hb
  have hgr:w.grownBy bb (some r):=Ab hgr y.grown (fun _ e=>by cases e)
  have hE:=hE.trans y
  refine A7 (Yk.assign (vr (NI ((AJ b i 256).2.2)) rfl) ?_)
  refine⟨.inl rfl,?_⟩
  refine CA ?_
  have hr:=(hr.keep hE)
  refine tN (a8 _ _ (sk fun cc cd=>(sk fun ce bc=>(wt (oM rfl (oS rfl (Yk.eqI (a:=((AJ b i 256).2.2:Nat)) (b:=(0:Nat)) rfl rfl (BO _ _ _ _) (oM rfl (Ac (PQ r 0) rfl rfl (gF (vr (.bool (decide (((AJ b i 256).2.2:Nat)≠(0)))) rfl)) (fun hG14=>Yk.move f ⟨rfl,rfl⟩) (Ac (PQ r 0) rfl rfl (gF (vr (.bool (decide (((AJ b i 256).2.2:Nat)≠(0)))) rfl)) (fun hG15=>Yk.nilCheck (Ak (vr (cond (!(decide (((AJ b i 256).2.2:Nat)≠(0)))) (PQ r 0) undef) rfl) hG15) ⟨rfl,rfl⟩) (Ac (PQ r 2) rfl rfl (gF (vr (.bool (decide (((AJ b i 256).2.2:Nat)≠(0)))) rfl)) (fun hG16=>Yk.fieldAt Bx (Ak (vr (cond (!(decide (((AJ b i 256).2.2:Nat)≠(0)))) (PQ r 0) undef) rfl) hG16) ⟨rfl,rfl⟩) (Ac (.bool (false)) rfl rfl (gF (vr (.bool (decide (((AJ b i 256).2.2:Nat)≠(0)))) rfl)) (fun hG17=>Yk.cell1 PA rfl (Ak (vr (cond (!(decide (((AJ b i 256).2.2:Nat)≠(0)))) (PQ r 2) undef) rfl) hG17) (Al hb (show(AQ (AF v b (i) false))[2]? =some (.bool (false):Value)from CC (AF v b (i) false))) ⟨rfl,rfl⟩) (Ac (.bool (true)) rfl rfl (gF (vr (.bool (decide (((AJ b i 256).2.2:Nat)≠(0)))) rfl)) (fun hG18=>Yk.notB (Ak (vr (cond (!(decide (((AJ b i 256).2.2:Nat)≠(0)))) (.bool (false)) undef) rfl) hG18) ⟨rfl,rfl⟩) (oS rfl (Yk.pickOr (vr (.bool (decide (((AJ b i 256).2.2:Nat)≠(0)))) rfl) (vr (.bool (true)) rfl) (fun hA=>(Ak (vr (cond (!(decide (((AJ b i 256).2.2:Nat)≠(0)))) (.bool (true)) undef) rfl) (Bb hA))) (oZ (tN (bc _ _ (wpF_true (vr (.bool (true)) (congrArg Value.bool (Bool.or_true _))) ?_)))))))))))))))))))
  refine sk fun cf bd=>(wt (oM rfl (oS rfl (Yk.nilCheck f (oS rfl (Yk.fieldAt Bx (vr (PQ r 0) rfl) (oS rfl (Yk.storeC (i:=2) (v:= .bool (false)) (vr (PQ r 2) rfl) (vr (.bool (false)) rfl) hb (by rw[Cz];decide) C2 rfl rfl fun ap aq ar cg=> ?_))))))))
  have hr:=RB.keptE hr ar hap
  have hgr:w.grownBy ap (some r):=Ab hgr ar (fun _ e=> .inl e)
  clear hE
  clear hb
  have hb:ap.heap[r]? =some (.cells (AQ ((⟨b,((i:Nat):Int),false⟩,⟨v⟩):CH)).toArray 72 (0,0)):=AG aq (DK (AF v b (i) false) false);clear aq
  have ch:=bl hb
  refine oZ (tN (bd _ _ (sk fun ci be=>(wt (oA rfl (oZ (tN (be _ _ (Am (An (Aj (fn:=Tryz.f25) _ rfl [St (([]:List UInt8))] (St (([]:List UInt8))) rfl ⟨rfl,trivial⟩ ?_)))))))))))
  exact⟨_,_,_,hP,rfl,hb,by omega,hgr⟩
 rcases hgl:AT 0 (b.drop i)with _ | ⟨xn,xk⟩
 ·have hp:BB b i 256=none:=by unfold BB;rw[hgl]
  have hq:=GC (mx:=256) hgl
  have hP:Dv ([]:Bs) (BB b i 256) (i,true)=_:=Gi hp
  refine tN (s _ _ (sk fun cj bf=> ?_))
  have z:Ext w (World.drew w):=(Below.refl _ _).drew
  have hb:=eb z hb
  have hgr:w.grownBy (World.drew w) (some r):=Ab hgr z.grown (fun _ e=>by cases e)
  have hE:=hE.trans z
  refine BM [(0,7,PQ r 0),(1,8,PQ r 0),(2,9,PQ r 0),(3,10,v),(4,11,PQ r 0),(5,12,PQ r 0),(6,13,PQ r 1),(7,14,NI i),(8,15, .tuple #[St (([]:List UInt8)),NI 0,NI 6]),(9,6, .tuple #[St (([]:List UInt8)),NI 0,NI 6]),(10,16,St (([]:List UInt8))),(11,17,NI 0),(12,18,NI 6)] [13,14,15] (fun wz=>wz.heap[r]? =some (.cells (AQ (AF v b (i) true)).toArray 72 (0,0))∧Ext w wz∧True) (fun _ _ ⟨hb,hE,_⟩ k=>⟨(eb k hb),(hE.trans k),trivial⟩) (by kernel_rfl) (by kernel_rfl) (by kernel_rfl) ⟨hb,hE,trivial⟩ ⟨fun l ⟨hb,hE,_⟩=>Yk.move f ⟨rfl,Ext.refl _⟩,fun l ⟨hb,hE,_⟩=>Yk.nilCheck (vr (PQ r 0) rfl) ⟨rfl,Ext.refl _⟩,fun l ⟨hb,hE,_⟩=>Yk.fieldAt BQ (vr (PQ r 0) rfl) ⟨rfl,Ext.refl _⟩,fun l ⟨hb,hE,_⟩=>Yk.cell1 Ek rfl (vr (PQ r 0) rfl) (Al hb (show(AQ (AF v b (i) true))[0]? =some (v:Value)from Dm (AF v b (i) true))) ⟨rfl,Ext.refl _⟩,fun l ⟨hb,hE,_⟩=>Yk.move f ⟨rfl,Ext.refl _⟩,fun l ⟨hb,hE,_⟩=>Yk.nilCheck (vr (PQ r 0) rfl) ⟨rfl,Ext.refl _⟩,fun l ⟨hb,hE,_⟩=>Yk.fieldAt BE (vr (PQ r 0) rfl) ⟨rfl,Ext.refl _⟩,fun l ⟨hb,hE,_⟩=>Yk.cell1 Li rfl (vr (PQ r 1) rfl) (Al hb (show(AQ (AF v b (i) true))[1]? =some (NI i:Value)from Cg (AF v b (i) true))) ⟨rfl,Ext.refl _⟩,fun l ⟨hb,hE,_⟩=>Yk.callA3 ED (vr v rfl) (vr (NI i) rfl) (vr (NI 256) rfl) (((show Calls _ _ _ _ (fun e j=>e = .returned (.tuple #[St (([]:List UInt8)),NI 0,NI 6])∧Ext _ j)from by have h:=Da _ v b (hr.keep hE) i 256 hi (by omega);rw[hq]at h;exact h)).mono (by rintro e j ⟨rfl,hx⟩;exact⟨_,rfl,rfl,hx⟩)),fun l ⟨hb,hE,_⟩=>Yk.move (vr (.tuple #[St (([]:List UInt8)),NI 0,NI 6]) rfl) ⟨rfl,Ext.refl _⟩,fun l ⟨hb,hE,_⟩=>Yk.extract (vs:= [St (([]:List UInt8)),NI 0,NI 6]) (vr (.tuple #[St (([]:List UInt8)),NI 0,NI 6]) rfl) (show _=some (St (([]:List UInt8)):Value)from rfl) ⟨rfl,Ext.refl _⟩,fun l ⟨hb,hE,_⟩=>Yk.extract (vs:= [St (([]:List UInt8)),NI 0,NI 6]) (vr (.tuple #[St (([]:List UInt8)),NI 0,NI 6]) rfl) (show _=some (NI 0:Value)from rfl) ⟨rfl,Ext.refl _⟩,fun l ⟨hb,hE,_⟩=>Yk.extract (vs:= [St (([]:List UInt8)),NI 0,NI 6]) (vr (.tuple #[St (([]:List UInt8)),NI 0,NI 6]) rfl) (show _=some (NI 6:Value)from rfl) ⟨rfl,Ext.refl _⟩,trivial⟩ (AR rfl fun bg aa=> ?_)
  have hb:=eb aa hb
  have hgr:w.grownBy bg (some r):=Ab hgr aa.grown (fun _ e=>by cases e)
  have hE:=hE.trans aa
  refine A7 (Yk.assign (vr (St (([]:List UInt8))) rfl) ?_)
  refine⟨.inr ⟨hb,hE,trivial⟩,?_⟩
  refine AR rfl fun bh ab=> ?_
  have hb:=eb ab hb
  have hgr:w.grownBy bh (some r):=Ab hgr ab.grown (fun _ e=>by cases e)
  have hE:=hE.trans ab
  refine A7 (Yk.assign (vr (NI 0) rfl) ?_)
  refine⟨.inr ⟨hb,hE,trivial⟩,?_⟩
  refine AR rfl fun bi ac=> ?_
  have hb:=eb ac hb
  have hgr:w.grownBy bi (some r):=Ab hgr ac.grown (fun _ e=>by cases e)
  have hE:=hE.trans ac
  refine A7 (Yk.assign (vr (NI 6) rfl) ?_)
  refine⟨.inl rfl,?_⟩
  refine CA ?_
  have hr:=(hr.keep hE)
  refine tN (bf _ _ (sk fun ck cl=>(sk fun cm bj=>(wt (oM rfl (oS rfl (Yk.eqI (a:=(6:Nat)) (b:=(0:Nat)) rfl rfl (BO _ _ _ _) (oM rfl (oN (d:=21) rfl rfl rfl (vr (.bool (true)) (congrArg Value.bool (decide_eq_true (by decide)))) rfl (oN (d:=21) rfl rfl rfl (vr (.bool (true)) (congrArg Value.bool (decide_eq_true (by decide)))) rfl (oN (d:=21) rfl rfl rfl (vr (.bool (true)) (congrArg Value.bool (decide_eq_true (by decide)))) rfl (oN (d:=21) rfl rfl rfl (vr (.bool (true)) (congrArg Value.bool (decide_eq_true (by decide)))) rfl (oN (d:=21) rfl rfl rfl (vr (.bool (true)) (congrArg Value.bool (decide_eq_true (by decide)))) rfl (oS rfl (Yk.pickT (vr (.bool (true)) (congrArg Value.bool (decide_eq_true (by decide)))) (vr (.bool (true)) rfl) (oZ (tN (bj _ _ (wpF_true (vr (.bool (true)) rfl) ?_)))))))))))))))))))
  refine sk fun cn bk=>(wt (oM rfl (oS rfl (Yk.nilCheck f (oS rfl (Yk.fieldAt Bx (vr (PQ r 0) rfl) (oS rfl (Yk.storeC (i:=2) (v:= .bool (false)) (vr (PQ r 2) rfl) (vr (.bool (false)) rfl) hb (by rw[Cz];decide) C2 rfl rfl fun au av aw co=> ?_))))))))
  have hr:=RB.keptE hr aw hap
  have hgr:w.grownBy au (some r):=Ab hgr aw (fun _ e=> .inl e)
  clear hE
  clear hb
  have hb:au.heap[r]? =some (.cells (AQ ((⟨b,((i:Nat):Int),false⟩,⟨v⟩):CH)).toArray 72 (0,0)):=AG av (DK (AF v b (i) true) false);clear av
  have cp:=bl hb
  refine oZ (tN (bk _ _ (sk fun cq bm=>(wt (oA rfl (oZ (tN (bm _ _ (Am (An (Aj (fn:=Tryz.f25) _ rfl [St (([]:List UInt8))] (St (([]:List UInt8))) rfl ⟨rfl,trivial⟩ ?_)))))))))))
  exact⟨_,_,_,hP,rfl,hb,by omega,hgr⟩
 have hq:=GD (mx:=256) hgl
 by_cases hm:256<xn
 ·have hp:BB b i 256=none:=by unfold BB;rw[hgl];exact if_pos hm
  rw[if_pos hm]at hq
  have hP:Dv ([]:Bs) (BB b i 256) (i,true)=_:=Gi hp
  refine tN (s _ _ (sk fun cr bn=> ?_))
  have ad:Ext w (World.drew w):=(Below.refl _ _).drew
  have hb:=eb ad hb
  have hgr:w.grownBy (World.drew w) (some r):=Ab hgr ad.grown (fun _ e=>by cases e)
  have hE:=hE.trans ad
  refine BM [(0,7,PQ r 0),(1,8,PQ r 0),(2,9,PQ r 0),(3,10,v),(4,11,PQ r 0),(5,12,PQ r 0),(6,13,PQ r 1),(7,14,NI i),(8,15, .tuple #[St (([]:List UInt8)),NI 0,NI 2]),(9,6, .tuple #[St (([]:List UInt8)),NI 0,NI 2]),(10,16,St (([]:List UInt8))),(11,17,NI 0),(12,18,NI 2)] [13,14,15] (fun wz=>wz.heap[r]? =some (.cells (AQ (AF v b (i) true)).toArray 72 (0,0))∧Ext w wz∧True) (fun _ _ ⟨hb,hE,_⟩ k=>⟨(eb k hb),(hE.trans k),trivial⟩) (by kernel_rfl) (by kernel_rfl) (by kernel_rfl) ⟨hb,hE,trivial⟩ ⟨fun m ⟨hb,hE,_⟩=>Yk.move f ⟨rfl,Ext.refl _⟩,fun m ⟨hb,hE,_⟩=>Yk.nilCheck (vr (PQ r 0) rfl) ⟨rfl,Ext.refl _⟩,fun m ⟨hb,hE,_⟩=>Yk.fieldAt BQ (vr (PQ r 0) rfl) ⟨rfl,Ext.refl _⟩,fun m ⟨hb,hE,_⟩=>Yk.cell1 Ek rfl (vr (PQ r 0) rfl) (Al hb (show(AQ (AF v b (i) true))[0]? =some (v:Value)from Dm (AF v b (i) true))) ⟨rfl,Ext.refl _⟩,fun m ⟨hb,hE,_⟩=>Yk.move f ⟨rfl,Ext.refl _⟩,fun m ⟨hb,hE,_⟩=>Yk.nilCheck (vr (PQ r 0) rfl) ⟨rfl,Ext.refl _⟩,fun m ⟨hb,hE,_⟩=>Yk.fieldAt BE (vr (PQ r 0) rfl) ⟨rfl,Ext.refl _⟩,fun m ⟨hb,hE,_⟩=>Yk.cell1 Li rfl (vr (PQ r 1) rfl) (Al hb (show(AQ (AF v b (i) true))[1]? =some (NI i:Value)from Cg (AF v b (i) true))) ⟨rfl,Ext.refl _⟩,fun m ⟨hb,hE,_⟩=>Yk.callA3 ED (vr v rfl) (vr (NI i) rfl) (vr (NI 256) rfl) (((show Calls _ _ _ _ (fun e j=>e = .returned (.tuple #[St (([]:List UInt8)),NI 0,NI 2])∧Ext _ j)from by have h:=Da _ v b (hr.keep hE) i 256 hi (by omega);rw[hq]at h;exact h)).mono (by rintro e j ⟨rfl,hx⟩;exact⟨_,rfl,rfl,hx⟩)),fun m ⟨hb,hE,_⟩=>Yk.move (vr (.tuple #[St (([]:List UInt8)),NI 0,NI 2]) rfl) ⟨rfl,Ext.refl _⟩,fun m ⟨hb,hE,_⟩=>Yk.extract (vs:= [St (([]:List UInt8)),NI 0,NI 2]) (vr (.tuple #[St (([]:List UInt8)),NI 0,NI 2]) rfl) (show _=some (St (([]:List UInt8)):Value)from rfl) ⟨rfl,Ext.refl _⟩,fun m ⟨hb,hE,_⟩=>Yk.extract (vs:= [St (([]:List UInt8)),NI 0,NI 2]) (vr (.tuple #[St (([]:List UInt8)),NI 0,NI 2]) rfl) (show _=some (NI 0:Value)from rfl) ⟨rfl,Ext.refl _⟩,fun m ⟨hb,hE,_⟩=>Yk.extract (vs:= [St (([]:List UInt8)),NI 0,NI 2]) (vr (.tuple #[St (([]:List UInt8)),NI 0,NI 2]) rfl) (show _=some (NI 2:Value)from rfl) ⟨rfl,Ext.refl _⟩,trivial⟩ (AR rfl fun bo ae=> ?_)
  have hb:=eb ae hb
  have hgr:w.grownBy bo (some r):=Ab hgr ae.grown (fun _ e=>by cases e)
  have hE:=hE.trans ae
  refine A7 (Yk.assign (vr (St (([]:List UInt8))) rfl) ?_)
  refine⟨.inr ⟨hb,hE,trivial⟩,?_⟩
  refine AR rfl fun bp af=> ?_
  have hb:=eb af hb
  have hgr:w.grownBy bp (some r):=Ab hgr af.grown (fun _ e=>by cases e)
  have hE:=hE.trans af
  refine A7 (Yk.assign (vr (NI 0) rfl) ?_)
  refine⟨.inr ⟨hb,hE,trivial⟩,?_⟩
  refine AR rfl fun bq ag=> ?_
  have hb:=eb ag hb
  have hgr:w.grownBy bq (some r):=Ab hgr ag.grown (fun _ e=>by cases e)
  have hE:=hE.trans ag
  refine A7 (Yk.assign (vr (NI 2) rfl) ?_)
  refine⟨.inl rfl,?_⟩
  refine CA ?_
  have hr:=(hr.keep hE)
  refine tN (bn _ _ (sk fun cs ct=>(sk fun cu br=>(wt (oM rfl (oS rfl (Yk.eqI (a:=(2:Nat)) (b:=(0:Nat)) rfl rfl (BO _ _ _ _) (oM rfl (oN (d:=21) rfl rfl rfl (vr (.bool (true)) (congrArg Value.bool (decide_eq_true (by decide)))) rfl (oN (d:=21) rfl rfl rfl (vr (.bool (true)) (congrArg Value.bool (decide_eq_true (by decide)))) rfl (oN (d:=21) rfl rfl rfl (vr (.bool (true)) (congrArg Value.bool (decide_eq_true (by decide)))) rfl (oN (d:=21) rfl rfl rfl (vr (.bool (true)) (congrArg Value.bool (decide_eq_true (by decide)))) rfl (oN (d:=21) rfl rfl rfl (vr (.bool (true)) (congrArg Value.bool (decide_eq_true (by decide)))) rfl (oS rfl (Yk.pickT (vr (.bool (true)) (congrArg Value.bool (decide_eq_true (by decide)))) (vr (.bool (true)) rfl) (oZ (tN (br _ _ (wpF_true (vr (.bool (true)) rfl) ?_)))))))))))))))))))
  refine sk fun cv bs=>(wt (oM rfl (oS rfl (Yk.nilCheck f (oS rfl (Yk.fieldAt Bx (vr (PQ r 0) rfl) (oS rfl (Yk.storeC (i:=2) (v:= .bool (false)) (vr (PQ r 2) rfl) (vr (.bool (false)) rfl) hb (by rw[Cz];decide) C2 rfl rfl fun ax ay az cw=> ?_))))))))
  have hr:=RB.keptE hr az hap
  have hgr:w.grownBy ax (some r):=Ab hgr az (fun _ e=> .inl e)
  clear hE
  clear hb
  have hb:ax.heap[r]? =some (.cells (AQ ((⟨b,((i:Nat):Int),false⟩,⟨v⟩):CH)).toArray 72 (0,0)):=AG ay (DK (AF v b (i) true) false);clear ay
  have cx:=bl hb
  refine oZ (tN (bs _ _ (sk fun cy bt=>(wt (oA rfl (oZ (tN (bt _ _ (Am (An (Aj (fn:=Tryz.f25) _ rfl [St (([]:List UInt8))] (St (([]:List UInt8))) rfl ⟨rfl,trivial⟩ ?_)))))))))))
  exact⟨_,_,_,hP,rfl,hb,by omega,hgr⟩
 obtain⟨cz,hak,c0⟩:=G2 hi hgl
 by_cases a0:b.length<i+xk+xn
 ·have hp:BB b i 256=none:=by unfold BB;rw[hgl];exact(if_neg hm).trans (if_pos a0)
  rw[if_neg hm,if_pos (by omega)]at hq
  have hP:Dv ([]:Bs) (BB b i 256) (i,true)=_:=Gi hp
  refine tN (s _ _ (sk fun c1 bu=> ?_))
  have ah:Ext w (World.drew w):=(Below.refl _ _).drew
  have hb:=eb ah hb
  have hgr:w.grownBy (World.drew w) (some r):=Ab hgr ah.grown (fun _ e=>by cases e)
  have hE:=hE.trans ah
  refine BM [(0,7,PQ r 0),(1,8,PQ r 0),(2,9,PQ r 0),(3,10,v),(4,11,PQ r 0),(5,12,PQ r 0),(6,13,PQ r 1),(7,14,NI i),(8,15, .tuple #[St (([]:List UInt8)),NI 0,NI 6]),(9,6, .tuple #[St (([]:List UInt8)),NI 0,NI 6]),(10,16,St (([]:List UInt8))),(11,17,NI 0),(12,18,NI 6)] [13,14,15] (fun wz=>wz.heap[r]? =some (.cells (AQ (AF v b (i) true)).toArray 72 (0,0))∧Ext w wz∧True) (fun _ _ ⟨hb,hE,_⟩ k=>⟨(eb k hb),(hE.trans k),trivial⟩) (by kernel_rfl) (by kernel_rfl) (by kernel_rfl) ⟨hb,hE,trivial⟩ ⟨fun o ⟨hb,hE,_⟩=>Yk.move f ⟨rfl,Ext.refl _⟩,fun o ⟨hb,hE,_⟩=>Yk.nilCheck (vr (PQ r 0) rfl) ⟨rfl,Ext.refl _⟩,fun o ⟨hb,hE,_⟩=>Yk.fieldAt BQ (vr (PQ r 0) rfl) ⟨rfl,Ext.refl _⟩,fun o ⟨hb,hE,_⟩=>Yk.cell1 Ek rfl (vr (PQ r 0) rfl) (Al hb (show(AQ (AF v b (i) true))[0]? =some (v:Value)from Dm (AF v b (i) true))) ⟨rfl,Ext.refl _⟩,fun o ⟨hb,hE,_⟩=>Yk.move f ⟨rfl,Ext.refl _⟩,fun o ⟨hb,hE,_⟩=>Yk.nilCheck (vr (PQ r 0) rfl) ⟨rfl,Ext.refl _⟩,fun o ⟨hb,hE,_⟩=>Yk.fieldAt BE (vr (PQ r 0) rfl) ⟨rfl,Ext.refl _⟩,fun o ⟨hb,hE,_⟩=>Yk.cell1 Li rfl (vr (PQ r 1) rfl) (Al hb (show(AQ (AF v b (i) true))[1]? =some (NI i:Value)from Cg (AF v b (i) true))) ⟨rfl,Ext.refl _⟩,fun o ⟨hb,hE,_⟩=>Yk.callA3 ED (vr v rfl) (vr (NI i) rfl) (vr (NI 256) rfl) (((show Calls _ _ _ _ (fun e j=>e = .returned (.tuple #[St (([]:List UInt8)),NI 0,NI 6])∧Ext _ j)from by have h:=Da _ v b (hr.keep hE) i 256 hi (by omega);rw[hq]at h;exact h)).mono (by rintro e j ⟨rfl,hx⟩;exact⟨_,rfl,rfl,hx⟩)),fun o ⟨hb,hE,_⟩=>Yk.move (vr (.tuple #[St (([]:List UInt8)),NI 0,NI 6]) rfl) ⟨rfl,Ext.refl _⟩,fun o ⟨hb,hE,_⟩=>Yk.extract (vs:= [St (([]:List UInt8)),NI 0,NI 6]) (vr (.tuple #[St (([]:List UInt8)),NI 0,NI 6]) rfl) (show _=some (St (([]:List UInt8)):Value)from rfl) ⟨rfl,Ext.refl _⟩,fun o ⟨hb,hE,_⟩=>Yk.extract (vs:= [St (([]:List UInt8)),NI 0,NI 6]) (vr (.tuple #[St (([]:List UInt8)),NI 0,NI 6]) rfl) (show _=some (NI 0:Value)from rfl) ⟨rfl,Ext.refl _⟩,fun o ⟨hb,hE,_⟩=>Yk.extract (vs:= [St (([]:List UInt8)),NI 0,NI 6]) (vr (.tuple #[St (([]:List UInt8)),NI 0,NI 6]) rfl) (show _=some (NI 6:Value)from rfl) ⟨rfl,Ext.refl _⟩,trivial⟩ (AR rfl fun bv ai=> ?_)
  have hb:=eb ai hb
  have hgr:w.grownBy bv (some r):=Ab hgr ai.grown (fun _ e=>by cases e)
  have hE:=hE.trans ai
  refine A7 (Yk.assign (vr (St (([]:List UInt8))) rfl) ?_)
  refine⟨.inr ⟨hb,hE,trivial⟩,?_⟩
  refine AR rfl fun bw aj=> ?_
  have hb:=eb aj hb
  have hgr:w.grownBy bw (some r):=Ab hgr aj.grown (fun _ e=>by cases e)
  have hE:=hE.trans aj
  refine A7 (Yk.assign (vr (NI 0) rfl) ?_)
  refine⟨.inr ⟨hb,hE,trivial⟩,?_⟩
  refine AR rfl fun bx ak=> ?_
  have hb:=eb ak hb
  have hgr:w.grownBy bx (some r):=Ab hgr ak.grown (fun _ e=>by cases e)
  have hE:=hE.trans ak
  refine A7 (Yk.assign (vr (NI 6) rfl) ?_)
  refine⟨.inl rfl,?_⟩
  refine CA ?_
  have hr:=(hr.keep hE)
  refine tN (bu _ _ (sk fun c2 c3=>(sk fun c4 bz=>(wt (oM rfl (oS rfl (Yk.eqI (a:=(6:Nat)) (b:=(0:Nat)) rfl rfl (BO _ _ _ _) (oM rfl (oN (d:=21) rfl rfl rfl (vr (.bool (true)) (congrArg Value.bool (decide_eq_true (by decide)))) rfl (oN (d:=21) rfl rfl rfl (vr (.bool (true)) (congrArg Value.bool (decide_eq_true (by decide)))) rfl (oN (d:=21) rfl rfl rfl (vr (.bool (true)) (congrArg Value.bool (decide_eq_true (by decide)))) rfl (oN (d:=21) rfl rfl rfl (vr (.bool (true)) (congrArg Value.bool (decide_eq_true (by decide)))) rfl (oN (d:=21) rfl rfl rfl (vr (.bool (true)) (congrArg Value.bool (decide_eq_true (by decide)))) rfl (oS rfl (Yk.pickT (vr (.bool (true)) (congrArg Value.bool (decide_eq_true (by decide)))) (vr (.bool (true)) rfl) (oZ (tN (bz _ _ (wpF_true (vr (.bool (true)) rfl) ?_)))))))))))))))))))
  refine sk fun c5 b0=>(wt (oM rfl (oS rfl (Yk.nilCheck f (oS rfl (Yk.fieldAt Bx (vr (PQ r 0) rfl) (oS rfl (Yk.storeC (i:=2) (v:= .bool (false)) (vr (PQ r 2) rfl) (vr (.bool (false)) rfl) hb (by rw[Cz];decide) C2 rfl rfl fun a1 a2 a3 c6=> ?_))))))))
  have hr:=RB.keptE hr a3 hap
  have hgr:w.grownBy a1 (some r):=Ab hgr a3 (fun _ e=> .inl e)
  clear hE
  clear hb
  have hb:a1.heap[r]? =some (.cells (AQ ((⟨b,((i:Nat):Int),false⟩,⟨v⟩):CH)).toArray 72 (0,0)):=AG a2 (DK (AF v b (i) true) false);clear a2
  have c7:=bl hb
  refine oZ (tN (b0 _ _ (sk fun c8 b1=>(wt (oA rfl (oZ (tN (b1 _ _ (Am (An (Aj (fn:=Tryz.f25) _ rfl [St (([]:List UInt8))] (St (([]:List UInt8))) rfl ⟨rfl,trivial⟩ ?_)))))))))))
  exact⟨_,_,_,hP,rfl,hb,by omega,hgr⟩
 have hp:BB b i 256=some ((b.drop (i+xk)).take xn,i+xk+xn):=by unfold BB;rw[hgl];exact(if_neg hm).trans (if_neg a0)
 rw[if_neg hm,if_neg (by omega)]at hq
 have hP:Dv ([]:Bs) (BB b i 256) (i,true)=_:=KF hp
 refine tN (s _ _ (sk fun c9 b2=> ?_))
 have al:Ext w (World.drew w):=(Below.refl _ _).drew
 have hb:=eb al hb
 have hgr:w.grownBy (World.drew w) (some r):=Ab hgr al.grown (fun _ e=>by cases e)
 have hE:=hE.trans al
 refine BM [(0,7,PQ r 0),(1,8,PQ r 0),(2,9,PQ r 0),(3,10,v),(4,11,PQ r 0),(5,12,PQ r 0),(6,13,PQ r 1),(7,14,NI i),(8,15, .tuple #[St (((b.drop (i+xk)).take xn)),NI (i+xk+xn),NI 0]),(9,6, .tuple #[St (((b.drop (i+xk)).take xn)),NI (i+xk+xn),NI 0]),(10,16,St (((b.drop (i+xk)).take xn))),(11,17,NI (i+xk+xn)),(12,18,NI 0)] [13,14,15] (fun wz=>wz.heap[r]? =some (.cells (AQ (AF v b (i) true)).toArray 72 (0,0))∧Ext w wz∧True) (fun _ _ ⟨hb,hE,_⟩ k=>⟨(eb k hb),(hE.trans k),trivial⟩) (by kernel_rfl) (by kernel_rfl) (by kernel_rfl) ⟨hb,hE,trivial⟩ ⟨fun p ⟨hb,hE,_⟩=>Yk.move f ⟨rfl,Ext.refl _⟩,fun p ⟨hb,hE,_⟩=>Yk.nilCheck (vr (PQ r 0) rfl) ⟨rfl,Ext.refl _⟩,fun p ⟨hb,hE,_⟩=>Yk.fieldAt BQ (vr (PQ r 0) rfl) ⟨rfl,Ext.refl _⟩,fun p ⟨hb,hE,_⟩=>Yk.cell1 Ek rfl (vr (PQ r 0) rfl) (Al hb (show(AQ (AF v b (i) true))[0]? =some (v:Value)from Dm (AF v b (i) true))) ⟨rfl,Ext.refl _⟩,fun p ⟨hb,hE,_⟩=>Yk.move f ⟨rfl,Ext.refl _⟩,fun p ⟨hb,hE,_⟩=>Yk.nilCheck (vr (PQ r 0) rfl) ⟨rfl,Ext.refl _⟩,fun p ⟨hb,hE,_⟩=>Yk.fieldAt BE (vr (PQ r 0) rfl) ⟨rfl,Ext.refl _⟩,fun p ⟨hb,hE,_⟩=>Yk.cell1 Li rfl (vr (PQ r 1) rfl) (Al hb (show(AQ (AF v b (i) true))[1]? =some (NI i:Value)from Cg (AF v b (i) true))) ⟨rfl,Ext.refl _⟩,fun p ⟨hb,hE,_⟩=>Yk.callA3 ED (vr v rfl) (vr (NI i) rfl) (vr (NI 256) rfl) (((show Calls _ _ _ _ (fun e j=>e = .returned (.tuple #[St (((b.drop (i+xk)).take xn)),NI (i+xk+xn),NI 0])∧Ext _ j)from by have h:=Da _ v b (hr.keep hE) i 256 hi (by omega);rw[hq]at h;exact h)).mono (by rintro e j ⟨rfl,hx⟩;exact⟨_,rfl,rfl,hx⟩)),fun p ⟨hb,hE,_⟩=>Yk.move (vr (.tuple #[St (((b.drop (i+xk)).take xn)),NI (i+xk+xn),NI 0]) rfl) ⟨rfl,Ext.refl _⟩,fun p ⟨hb,hE,_⟩=>Yk.extract (vs:= [St (((b.drop (i+xk)).take xn)),NI (i+xk+xn),NI 0]) (vr (.tuple #[St (((b.drop (i+xk)).take xn)),NI (i+xk+xn),NI 0]) rfl) (show _=some (St (((b.drop (i+xk)).take xn)):Value)from rfl) ⟨rfl,Ext.refl _⟩,fun p ⟨hb,hE,_⟩=>Yk.extract (vs:= [St (((b.drop (i+xk)).take xn)),NI (i+xk+xn),NI 0]) (vr (.tuple #[St (((b.drop (i+xk)).take xn)),NI (i+xk+xn),NI 0]) rfl) (show _=some (NI (i+xk+xn):Value)from rfl) ⟨rfl,Ext.refl _⟩,fun p ⟨hb,hE,_⟩=>Yk.extract (vs:= [St (((b.drop (i+xk)).take xn)),NI (i+xk+xn),NI 0]) (vr (.tuple #[St (((b.drop (i+xk)).take xn)),NI (i+xk+xn),NI 0]) rfl) (show _=some (NI 0:Value)from rfl) ⟨rfl,Ext.refl _⟩,trivial⟩ (AR rfl fun b3 am=> ?_)
 have hb:=eb am hb
 have hgr:w.grownBy b3 (some r):=Ab hgr am.grown (fun _ e=>by cases e)
 have hE:=hE.trans am
 refine A7 (Yk.assign (vr (St (((b.drop (i+xk)).take xn))) rfl) ?_)
 refine⟨.inr ⟨hb,hE,trivial⟩,?_⟩
 refine AR rfl fun b4 an=> ?_
 have hb:=eb an hb
 have hgr:w.grownBy b4 (some r):=Ab hgr an.grown (fun _ e=>by cases e)
 have hE:=hE.trans an
 refine A7 (Yk.assign (vr (NI (i+xk+xn)) rfl) ?_)
 refine⟨.inr ⟨hb,hE,trivial⟩,?_⟩
 refine AR rfl fun b5 ao=> ?_
 have hb:=eb ao hb
 have hgr:w.grownBy b5 (some r):=Ab hgr ao.grown (fun _ e=>by cases e)
 have hE:=hE.trans ao
 refine A7 (Yk.assign (vr (NI 0) rfl) ?_)
 refine⟨.inl rfl,?_⟩
 refine CA ?_
 have hr:=(hr.keep hE)
 refine tN (b2 _ _ (sk fun da b6=>(sk fun db b7=>(wt (oM rfl (oS rfl (Yk.eqI (a:=(0:Nat)) (b:=(0:Nat)) rfl rfl (BO _ _ _ _) (oM rfl (oY (d:=21) rfl rfl (vr (.bool (false)) (congrArg Value.bool (decide_eq_false (fun h=>h rfl)))) (Yk.move f (oY (d:=21) rfl rfl (vr (.bool (false)) (congrArg Value.bool (decide_eq_false (fun h=>h rfl)))) (Yk.nilCheck (vr (PQ r 0) rfl) (oY (d:=21) rfl rfl (vr (.bool (false)) (congrArg Value.bool (decide_eq_false (fun h=>h rfl)))) (Yk.fieldAt Bx (vr (PQ r 0) rfl) (oY (d:=21) rfl rfl (vr (.bool (false)) (congrArg Value.bool (decide_eq_false (fun h=>h rfl)))) (Yk.cell1 PA rfl (vr (PQ r 2) rfl) (Al hb (show(AQ (AF v b (i) true))[2]? =some (.bool (true):Value)from CC (AF v b (i) true))) (oY (d:=21) rfl rfl (vr (.bool (false)) (congrArg Value.bool (decide_eq_false (fun h=>h rfl)))) (Yk.notB (vr (.bool (true)) rfl) (oS rfl (Yk.pickF (vr (.bool (false)) (congrArg Value.bool (decide_eq_false (fun h=>h rfl)))) (vr (.bool (false)) rfl) (oZ (tN (b7 _ _ (AH (vr (.bool (false)) rfl) ?_))))))))))))))))))))))))
 refine Aq (tN (b6 _ _ (sk fun dc b8=>(wt (oM rfl (oM rfl (oS rfl (Yk.nilCheck f (oS rfl (Yk.fieldAt BE (vr (PQ r 0) rfl) (oS rfl (Yk.storeC (i:=1) (v:=NI (i+xk+xn)) (vr (PQ r 1) rfl) (vr (NI (i+xk+xn)) rfl) hb (by rw[Cz];decide) Dd rfl rfl fun a4 a5 a6 dd=> ?_))))))))))))
 have hr:=RB.keptE hr a6 hap
 have hgr:w.grownBy a4 (some r):=Ab hgr a6 (fun _ e=> .inl e)
 clear hE
 clear hb
 have hb:a4.heap[r]? =some (.cells (AQ ((⟨b,((i+xk+xn:Nat):Int),true⟩,⟨v⟩):CH)).toArray 72 (0,0)):=AG a5 (In (AF v b (i) true) ((i+xk+xn:Nat):Int));clear a5
 have de:=bl hb
 refine oZ (tN (b8 _ _ (sk fun df b9=>(wt (oM rfl (oA rfl (oZ (tN (b9 _ _ (Am (Aj (fn:=Tryz.f25) _ rfl [St (((b.drop (i+xk)).take xn))] (St (((b.drop (i+xk)).take xn))) rfl ⟨rfl,trivial⟩ ?_)))))))))))
 exact⟨_,_,_,hP,rfl,hb,by omega,hgr⟩

theorem E5(w:World)(r:Nat)(v:Value)(b:Bs)(i:Nat)(k:Bool)(hb:w.heap[r]? =some (.cells (AQ (AF v b (i) k)).toArray 72 (0,0)))(hr:RB w v b)(hap:b= []∨OB v r)(hi:i≤b.length)(hl:b.length≤6000):
  Calls Tryz.prog 26 #[PQ r 0] w fun e w' =>∃c n q,BR b (i,k)=(c,(n,q))∧e = .returned (AB c.1)∧w'.heap[r]? =some (.cells (AQ (AF v b (n) q)).toArray 72 (0,0))∧n≤b.length∧w.grownBy w' (some r):=by
 have hlr:=(bl hb)
 have hgr:=World.grownBy.refl w (some r)
 refine As (args:= [PQ r 0]) Tryz.func26 rfl 37 rfl (Nat.le_of_ble_eq_true rfl) ?_
 intro bt hb
 have o:bt 0=(PQ r 0:Value):=hb.get 0
 clear hb
 have hE:=Ext.refl w
 refine sk fun K1 aw=>(wt (oS rfl (Yk.alloc (cs:=(Lib.byteCells (List.replicate 32 0)).toArray) H9 fun s p bu a1 ax cw=> ?_)))
 have cx:=Bc (bl hb) bu
 have hb:=eb ax hb
 have hgr:w.grownBy p (some r):=Ab hgr ax.grown (fun _ e=>by cases e)
 have hE:=hE.trans ax
 have f:=a1;clear a1
 have cy:s<p.heap.size:=by omega
 refine oZ ?_
 cases k
 ·have hP:Dv zid (C9 b i) (i,false)=_:=MN
  refine tN (aw _ _ (sk fun cz bv=> ?_))
  have ad:Ext p (World.drew p):=(Below.refl _ _).drew
  have hb:=eb ad hb
  have hgr:w.grownBy (World.drew p) (some r):=Ab hgr ad.grown (fun _ e=>by cases e)
  have hE:=hE.trans ad
  have f:=eb ad f
  refine BM [(0,7,PQ r 0),(1,8,PQ r 0),(2,9,PQ r 0),(3,10,v),(4,11,PQ r 0),(5,12,PQ r 0),(6,13,PQ r 1),(7,14,NI i),(8,15, .tuple #[AB ((AS b i).1),NI ((AS b i).2.1),NI ((AS b i).2.2)]),(9,6, .tuple #[AB ((AS b i).1),NI ((AS b i).2.1),NI ((AS b i).2.2)]),(10,16,AB ((AS b i).1)),(11,17,NI ((AS b i).2.1)),(12,18,NI ((AS b i).2.2))] [13,14,15,16] (fun wz=>wz.heap[r]? =some (.cells (AQ (AF v b (i) false)).toArray 72 (0,0))∧Ext w wz∧wz.heap[s]? =some (.cells (Lib.byteCells (List.replicate 32 0)).toArray 24 (0,0))∧True) (fun _ _ ⟨hb,hE,f,_⟩ k=>⟨(eb k hb),(hE.trans k),(eb k f),trivial⟩) (by kernel_rfl) (by kernel_rfl) (by kernel_rfl) ⟨hb,hE,f,trivial⟩ ⟨fun j ⟨hb,hE,f,_⟩=>Yk.move o ⟨rfl,Ext.refl _⟩,fun j ⟨hb,hE,f,_⟩=>Yk.nilCheck (vr (PQ r 0) rfl) ⟨rfl,Ext.refl _⟩,fun j ⟨hb,hE,f,_⟩=>Yk.fieldAt BQ (vr (PQ r 0) rfl) ⟨rfl,Ext.refl _⟩,fun j ⟨hb,hE,f,_⟩=>Yk.cell1 Ek rfl (vr (PQ r 0) rfl) (Al hb (show(AQ (AF v b (i) false))[0]? =some (v:Value)from Dm (AF v b (i) false))) ⟨rfl,Ext.refl _⟩,fun j ⟨hb,hE,f,_⟩=>Yk.move o ⟨rfl,Ext.refl _⟩,fun j ⟨hb,hE,f,_⟩=>Yk.nilCheck (vr (PQ r 0) rfl) ⟨rfl,Ext.refl _⟩,fun j ⟨hb,hE,f,_⟩=>Yk.fieldAt BE (vr (PQ r 0) rfl) ⟨rfl,Ext.refl _⟩,fun j ⟨hb,hE,f,_⟩=>Yk.cell1 Li rfl (vr (PQ r 1) rfl) (Al hb (show(AQ (AF v b (i) false))[1]? =some (NI i:Value)from Cg (AF v b (i) false))) ⟨rfl,Ext.refl _⟩,fun j ⟨hb,hE,f,_⟩=>Yk.callA2 Hf (vr v rfl) (vr (NI i) rfl) ((Fi _ v b (hr.keep hE) i (by omega) (by omega)).mono (by rintro e t ⟨rfl,hx⟩;exact⟨_,rfl,rfl,hx⟩)),fun j ⟨hb,hE,f,_⟩=>Yk.move (vr (.tuple #[AB ((AS b i).1),NI ((AS b i).2.1),NI ((AS b i).2.2)]) rfl) ⟨rfl,Ext.refl _⟩,fun j ⟨hb,hE,f,_⟩=>Yk.extract (vs:= [AB ((AS b i).1),NI ((AS b i).2.1),NI ((AS b i).2.2)]) (vr (.tuple #[AB ((AS b i).1),NI ((AS b i).2.1),NI ((AS b i).2.2)]) rfl) (show _=some (AB ((AS b i).1):Value)from rfl) ⟨rfl,Ext.refl _⟩,fun j ⟨hb,hE,f,_⟩=>Yk.extract (vs:= [AB ((AS b i).1),NI ((AS b i).2.1),NI ((AS b i).2.2)]) (vr (.tuple #[AB ((AS b i).1),NI ((AS b i).2.1),NI ((AS b i).2.2)]) rfl) (show _=some (NI ((AS b i).2.1):Value)from rfl) ⟨rfl,Ext.refl _⟩,fun j ⟨hb,hE,f,_⟩=>Yk.extract (vs:= [AB ((AS b i).1),NI ((AS b i).2.1),NI ((AS b i).2.2)]) (vr (.tuple #[AB ((AS b i).1),NI ((AS b i).2.1),NI ((AS b i).2.2)]) rfl) (show _=some (NI ((AS b i).2.2):Value)from rfl) ⟨rfl,Ext.refl _⟩,trivial⟩ (AR rfl fun bw ae=> ?_)
  have hb:=eb ae hb
  have hgr:w.grownBy bw (some r):=Ab hgr ae.grown (fun _ e=>by cases e)
  have hE:=hE.trans ae
  have f:=eb ae f
  refine A7 (Yk.alloc (cs:=(Lib.byteCells (List.replicate 32 0)).toArray) H9 fun a2 a3 a4 a5 af c0=> ?_)
  have bx:=hE.size
  have c1:=Bc (bl hb) a4
  have c2:=Bc (bl f) a4
  have hb:=eb af hb
  have hgr:w.grownBy a3 (some r):=Ab hgr af.grown (fun _ e=>by cases e)
  have hE:=hE.trans af
  have f:=eb af f
  have u:=a5;clear a5
  have c3:a2<a3.heap.size:=by omega
  refine⟨.inr ⟨hb,hE,f,trivial⟩,?_⟩
  refine AR rfl fun bz y=> ?_
  have hb:=eb y hb
  have hgr:w.grownBy bz (some r):=Ab hgr y.grown (fun _ e=>by cases e)
  have hE:=hE.trans y
  have f:=eb y f
  have u:=eb y u
  refine A7 (Yk.storeAll (vr (PQ a2 0) rfl) (vr (AB ((AS b i).1)) rfl) u (by exact BK (IE b i) List.length_replicate) (by exact At (IE b i)) (Ay _) fun b0 a6 ag c4=> ?_)
  have hb:=kb ag hb (by omega)
  have hgr:w.grownBy b0 (some r):=Ab hgr ag (fun _ e=> .inr (by cases e;omega))
  have hE:=Af hE ag (Nat.le_trans bx (by omega))
  have f:=kb ag f (by omega)
  clear u
  have u:=a6;clear a6
  have c5:=bl u
  refine⟨.inr ⟨hb,hE,f,trivial⟩,?_⟩
  refine AR rfl fun b1 ah=> ?_
  have hb:=eb ah hb
  have hgr:w.grownBy b1 (some r):=Ab hgr ah.grown (fun _ e=>by cases e)
  have hE:=hE.trans ah
  have f:=eb ah f
  refine A7 (Yk.assign (vr (NI ((AS b i).2.1)) rfl) ?_)
  refine⟨.inr ⟨hb,hE,f,trivial⟩,?_⟩
  refine AR rfl fun b2 ai=> ?_
  have hb:=eb ai hb
  have hgr:w.grownBy b2 (some r):=Ab hgr ai.grown (fun _ e=>by cases e)
  have hE:=hE.trans ai
  have f:=eb ai f
  refine A7 (Yk.assign (vr (NI ((AS b i).2.2)) rfl) ?_)
  refine⟨.inl rfl,?_⟩
  refine CA ?_
  have hr:=(hr.keep hE)
  refine tN (bv _ _ (sk fun c6 c7=>(sk fun c8 b3=>(wt (oM rfl (oS rfl (Yk.eqI (a:=((AS b i).2.2:Nat)) (b:=(0:Nat)) rfl rfl (BO _ _ _ _) (oM rfl (Ac (PQ r 0) rfl rfl (gF (vr (.bool (decide (((AS b i).2.2:Nat)≠(0)))) rfl)) (fun hG43=>Yk.move o ⟨rfl,rfl⟩) (Ac (PQ r 0) rfl rfl (gF (vr (.bool (decide (((AS b i).2.2:Nat)≠(0)))) rfl)) (fun hG44=>Yk.nilCheck (Ak (vr (cond (!(decide (((AS b i).2.2:Nat)≠(0)))) (PQ r 0) undef) rfl) hG44) ⟨rfl,rfl⟩) (Ac (PQ r 2) rfl rfl (gF (vr (.bool (decide (((AS b i).2.2:Nat)≠(0)))) rfl)) (fun hG45=>Yk.fieldAt Bx (Ak (vr (cond (!(decide (((AS b i).2.2:Nat)≠(0)))) (PQ r 0) undef) rfl) hG45) ⟨rfl,rfl⟩) (Ac (.bool (false)) rfl rfl (gF (vr (.bool (decide (((AS b i).2.2:Nat)≠(0)))) rfl)) (fun hG46=>Yk.cell1 PA rfl (Ak (vr (cond (!(decide (((AS b i).2.2:Nat)≠(0)))) (PQ r 2) undef) rfl) hG46) (Al hb (show(AQ (AF v b (i) false))[2]? =some (.bool (false):Value)from CC (AF v b (i) false))) ⟨rfl,rfl⟩) (Ac (.bool (true)) rfl rfl (gF (vr (.bool (decide (((AS b i).2.2:Nat)≠(0)))) rfl)) (fun hG47=>Yk.notB (Ak (vr (cond (!(decide (((AS b i).2.2:Nat)≠(0)))) (.bool (false)) undef) rfl) hG47) ⟨rfl,rfl⟩) (oS rfl (Yk.pickOr (vr (.bool (decide (((AS b i).2.2:Nat)≠(0)))) rfl) (vr (.bool (true)) rfl) (fun hA=>(Ak (vr (cond (!(decide (((AS b i).2.2:Nat)≠(0)))) (.bool (true)) undef) rfl) (Bb hA))) (oZ (tN (b3 _ _ (wpF_true (vr (.bool (true)) (congrArg Value.bool (Bool.or_true _))) ?_)))))))))))))))))))
  refine sk fun c9 b4=>(wt (oM rfl (oS rfl (Yk.nilCheck o (oS rfl (Yk.fieldAt Bx (vr (PQ r 0) rfl) (oS rfl (Yk.storeC (i:=2) (v:= .bool (false)) (vr (PQ r 2) rfl) (vr (.bool (false)) rfl) hb (by rw[Cz];decide) C2 rfl rfl fun a7 a8 ay da=> ?_))))))))
  have hr:=RB.keptE hr ay hap
  have hgr:w.grownBy a7 (some r):=Ab hgr ay (fun _ e=> .inl e)
  clear hE
  have f:=kb ay f (by omega)
  clear hb
  have hb:a7.heap[r]? =some (.cells (AQ ((⟨b,((i:Nat):Int),false⟩,⟨v⟩):CH)).toArray 72 (0,0)):=AG a8 (DK (AF v b (i) false) false);clear a8
  have db:=bl hb
  refine oZ (tN (b4 _ _ (sk fun dc b5=>(wt (oS rfl (Yk.run (v:=AB (List.replicate 32 0)) (by kernel_rfl) (oS rfl (Yk.storeAll (vr (PQ s 0) rfl) (vr (AB (List.replicate 32 0)) rfl) f (by exact BK List.length_replicate List.length_replicate) (by exact At List.length_replicate) (Ay _) fun b6 a9 ba dd=> ?_))))))))
  clear hr
  have hgr:w.grownBy b6 (some r):=Ab hgr ba (fun _ e=> .inr (by cases e;omega))
  have hb:=kb ba hb (by omega)
  clear f
  have f:=a9;clear a9
  have de:=bl f
  refine oZ (tN (b5 _ _ (Am (An (Aj (fn:=Tryz.f26) _ rfl [AB (List.replicate 32 0)] (AB (List.replicate 32 0)) rfl ⟨ResF.row rfl f P8 rfl (by exact At List.length_replicate),trivial⟩ ?_)))))
  exact⟨_,_,_,hP,rfl,hb,by omega,hgr⟩
 by_cases hle:i+32≤b.length
 ·have hQ:((b.drop i).take 32).length=32:=by rw[List.length_take,List.length_drop];omega
  have hp:C9 b i=some (⟨(b.drop i).take 32,hQ⟩,i+32):=dif_pos hle
  have hq:AS b i=_:=(if_neg (by omega)).trans (if_neg (by omega))
  have hP:Dv zid (C9 b i) (i,true)=_:=KF hp
  refine tN (aw _ _ (sk fun df b7=> ?_))
  have aj:Ext p (World.drew p):=(Below.refl _ _).drew
  have hb:=eb aj hb
  have hgr:w.grownBy (World.drew p) (some r):=Ab hgr aj.grown (fun _ e=>by cases e)
  have hE:=hE.trans aj
  have f:=eb aj f
  refine BM [(0,7,PQ r 0),(1,8,PQ r 0),(2,9,PQ r 0),(3,10,v),(4,11,PQ r 0),(5,12,PQ r 0),(6,13,PQ r 1),(7,14,NI i),(8,15, .tuple #[AB ((b.drop i).take 32),NI (i+32),NI 0]),(9,6, .tuple #[AB ((b.drop i).take 32),NI (i+32),NI 0]),(10,16,AB ((b.drop i).take 32)),(11,17,NI (i+32)),(12,18,NI 0)] [13,14,15,16] (fun wz=>wz.heap[r]? =some (.cells (AQ (AF v b (i) true)).toArray 72 (0,0))∧Ext w wz∧wz.heap[s]? =some (.cells (Lib.byteCells (List.replicate 32 0)).toArray 24 (0,0))∧True) (fun _ _ ⟨hb,hE,f,_⟩ k=>⟨(eb k hb),(hE.trans k),(eb k f),trivial⟩) (by kernel_rfl) (by kernel_rfl) (by kernel_rfl) ⟨hb,hE,f,trivial⟩ ⟨fun l ⟨hb,hE,f,_⟩=>Yk.move o ⟨rfl,Ext.refl _⟩,fun l ⟨hb,hE,f,_⟩=>Yk.nilCheck (vr (PQ r 0) rfl) ⟨rfl,Ext.refl _⟩,fun l ⟨hb,hE,f,_⟩=>Yk.fieldAt BQ (vr (PQ r 0) rfl) ⟨rfl,Ext.refl _⟩,fun l ⟨hb,hE,f,_⟩=>Yk.cell1 Ek rfl (vr (PQ r 0) rfl) (Al hb (show(AQ (AF v b (i) true))[0]? =some (v:Value)from Dm (AF v b (i) true))) ⟨rfl,Ext.refl _⟩,fun l ⟨hb,hE,f,_⟩=>Yk.move o ⟨rfl,Ext.refl _⟩,fun l ⟨hb,hE,f,_⟩=>Yk.nilCheck (vr (PQ r 0) rfl) ⟨rfl,Ext.refl _⟩,fun l ⟨hb,hE,f,_⟩=>Yk.fieldAt BE (vr (PQ r 0) rfl) ⟨rfl,Ext.refl _⟩,fun l ⟨hb,hE,f,_⟩=>Yk.cell1 Li rfl (vr (PQ r 1) rfl) (Al hb (show(AQ (AF v b (i) true))[1]? =some (NI i:Value)from Cg (AF v b (i) true))) ⟨rfl,Ext.refl _⟩,fun l ⟨hb,hE,f,_⟩=>Yk.callA2 Hf (vr v rfl) (vr (NI i) rfl) (((show Calls _ _ _ _ (fun e t=>e = .returned (.tuple #[AB ((b.drop i).take 32),NI (i+32),NI 0])∧Ext _ t)from by have h:=Fi _ v b (hr.keep hE) i (by omega) (by omega);rw[hq]at h;exact h)).mono (by rintro e t ⟨rfl,hx⟩;exact⟨_,rfl,rfl,hx⟩)),fun l ⟨hb,hE,f,_⟩=>Yk.move (vr (.tuple #[AB ((b.drop i).take 32),NI (i+32),NI 0]) rfl) ⟨rfl,Ext.refl _⟩,fun l ⟨hb,hE,f,_⟩=>Yk.extract (vs:= [AB ((b.drop i).take 32),NI (i+32),NI 0]) (vr (.tuple #[AB ((b.drop i).take 32),NI (i+32),NI 0]) rfl) (show _=some (AB ((b.drop i).take 32):Value)from rfl) ⟨rfl,Ext.refl _⟩,fun l ⟨hb,hE,f,_⟩=>Yk.extract (vs:= [AB ((b.drop i).take 32),NI (i+32),NI 0]) (vr (.tuple #[AB ((b.drop i).take 32),NI (i+32),NI 0]) rfl) (show _=some (NI (i+32):Value)from rfl) ⟨rfl,Ext.refl _⟩,fun l ⟨hb,hE,f,_⟩=>Yk.extract (vs:= [AB ((b.drop i).take 32),NI (i+32),NI 0]) (vr (.tuple #[AB ((b.drop i).take 32),NI (i+32),NI 0]) rfl) (show _=some (NI 0:Value)from rfl) ⟨rfl,Ext.refl _⟩,trivial⟩ (AR rfl fun b8 ak=> ?_)
  have hb:=eb ak hb
  have hgr:w.grownBy b8 (some r):=Ab hgr ak.grown (fun _ e=>by cases e)
  have hE:=hE.trans ak
  have f:=eb ak f
  refine A7 (Yk.alloc (cs:=(Lib.byteCells (List.replicate 32 0)).toArray) H9 fun az bb bc bd al dg=> ?_)
  have b9:=hE.size
  have dh:=Bc (bl hb) bc
  have di:=Bc (bl f) bc
  have hb:=eb al hb
  have hgr:w.grownBy bb (some r):=Ab hgr al.grown (fun _ e=>by cases e)
  have hE:=hE.trans al
  have f:=eb al f
  have g:=bd;clear bd
  have dj:az<bb.heap.size:=by omega
  refine⟨.inr ⟨hb,hE,f,trivial⟩,?_⟩
  refine AR rfl fun ca z=> ?_
  have hb:=eb z hb
  have hgr:w.grownBy ca (some r):=Ab hgr z.grown (fun _ e=>by cases e)
  have hE:=hE.trans z
  have f:=eb z f
  have g:=eb z g
  refine A7 (Yk.storeAll (vr (PQ az 0) rfl) (vr (AB ((b.drop i).take 32)) rfl) g (by exact BK hQ List.length_replicate) (by exact At hQ) (Ay _) fun cb be am dk=> ?_)
  have hb:=kb am hb (by omega)
  have hgr:w.grownBy cb (some r):=Ab hgr am (fun _ e=> .inr (by cases e;omega))
  have hE:=Af hE am (Nat.le_trans b9 (by omega))
  have f:=kb am f (by omega)
  clear g
  have g:=be;clear be
  have dl:=bl g
  refine⟨.inr ⟨hb,hE,f,trivial⟩,?_⟩
  refine AR rfl fun cc aa=> ?_
  have hb:=eb aa hb
  have hgr:w.grownBy cc (some r):=Ab hgr aa.grown (fun _ e=>by cases e)
  have hE:=hE.trans aa
  have f:=eb aa f
  have g:=eb aa g
  refine A7 (Yk.assign (vr (NI (i+32)) rfl) ?_)
  refine⟨.inr ⟨hb,hE,f,trivial⟩,?_⟩
  refine AR rfl fun cd ab=> ?_
  have hb:=eb ab hb
  have hgr:w.grownBy cd (some r):=Ab hgr ab.grown (fun _ e=>by cases e)
  have hE:=hE.trans ab
  have f:=eb ab f
  have g:=eb ab g
  refine A7 (Yk.assign (vr (NI 0) rfl) ?_)
  refine⟨.inl rfl,?_⟩
  refine CA ?_
  have hr:=(hr.keep hE)
  refine tN (b7 _ _ (sk fun dm ce=>(sk fun dn cf=>(wt (oM rfl (oS rfl (Yk.eqI (a:=(0:Nat)) (b:=(0:Nat)) rfl rfl (BO _ _ _ _) (oM rfl (oY (d:=21) rfl rfl (vr (.bool (false)) (congrArg Value.bool (decide_eq_false (fun h=>h rfl)))) (Yk.move o (oY (d:=21) rfl rfl (vr (.bool (false)) (congrArg Value.bool (decide_eq_false (fun h=>h rfl)))) (Yk.nilCheck (vr (PQ r 0) rfl) (oY (d:=21) rfl rfl (vr (.bool (false)) (congrArg Value.bool (decide_eq_false (fun h=>h rfl)))) (Yk.fieldAt Bx (vr (PQ r 0) rfl) (oY (d:=21) rfl rfl (vr (.bool (false)) (congrArg Value.bool (decide_eq_false (fun h=>h rfl)))) (Yk.cell1 PA rfl (vr (PQ r 2) rfl) (Al hb (show(AQ (AF v b (i) true))[2]? =some (.bool (true):Value)from CC (AF v b (i) true))) (oY (d:=21) rfl rfl (vr (.bool (false)) (congrArg Value.bool (decide_eq_false (fun h=>h rfl)))) (Yk.notB (vr (.bool (true)) rfl) (oS rfl (Yk.pickF (vr (.bool (false)) (congrArg Value.bool (decide_eq_false (fun h=>h rfl)))) (vr (.bool (false)) rfl) (oZ (tN (cf _ _ (AH (vr (.bool (false)) rfl) ?_))))))))))))))))))))))))
  refine Aq (tN (ce _ _ (sk fun dp cg=>(wt (oM rfl (oM rfl (oS rfl (Yk.nilCheck o (oS rfl (Yk.fieldAt BE (vr (PQ r 0) rfl) (oS rfl (Yk.storeC (i:=1) (v:=NI (i+32)) (vr (PQ r 1) rfl) (vr (NI (i+32)) rfl) hb (by rw[Cz];decide) Dd rfl rfl fun bf bg an dq=> ?_))))))))))))
  have hr:=RB.keptE hr an hap
  have hgr:w.grownBy bf (some r):=Ab hgr an (fun _ e=> .inl e)
  clear hE
  have f:=kb an f (by omega)
  have g:=kb an g (by omega)
  clear hb
  have hb:bf.heap[r]? =some (.cells (AQ ((⟨b,((i+32:Nat):Int),true⟩,⟨v⟩):CH)).toArray 72 (0,0)):=AG bg (In (AF v b (i) true) ((i+32:Nat):Int));clear bg
  have dr:=bl hb
  refine oZ (tN (cg _ _ (sk fun ds ch=>(wt (oS rfl (Yk.loadAll (vr (PQ az 0) rfl) g P8 rfl (by exact At hQ) (oS rfl (Yk.storeAll (vr (PQ s 0) rfl) (vr (AB ((b.drop i).take 32)) rfl) f (by exact BK hQ List.length_replicate) (by exact At hQ) (Ay _) fun ci bh bi dt=> ?_))))))))
  clear hr
  have hgr:w.grownBy ci (some r):=Ab hgr bi (fun _ e=> .inr (by cases e;omega))
  have hb:=kb bi hb (by omega)
  clear f
  have f:=bh;clear bh
  have du:=bl f
  refine oZ (tN (ch _ _ (Am (Aj (fn:=Tryz.f26) _ rfl [AB ((b.drop i).take 32)] (AB ((b.drop i).take 32)) rfl ⟨ResF.row rfl f P8 rfl (by exact At hQ),trivial⟩ ?_))))
  exact⟨_,_,_,hP,rfl,hb,by omega,hgr⟩
 have hp:C9 b i=none:=dif_neg hle
 have hq:AS b i=_:=(if_neg (by omega)).trans (if_pos (by omega))
 have hP:Dv zid (C9 b i) (i,true)=_:=Gi hp
 refine tN (aw _ _ (sk fun dv cj=> ?_))
 have ao:Ext p (World.drew p):=(Below.refl _ _).drew
 have hb:=eb ao hb
 have hgr:w.grownBy (World.drew p) (some r):=Ab hgr ao.grown (fun _ e=>by cases e)
 have hE:=hE.trans ao
 have f:=eb ao f
 refine BM [(0,7,PQ r 0),(1,8,PQ r 0),(2,9,PQ r 0),(3,10,v),(4,11,PQ r 0),(5,12,PQ r 0),(6,13,PQ r 1),(7,14,NI i),(8,15, .tuple #[AB (List.replicate 32 0),NI 0,NI 6]),(9,6, .tuple #[AB (List.replicate 32 0),NI 0,NI 6]),(10,16,AB (List.replicate 32 0)),(11,17,NI 0),(12,18,NI 6)] [13,14,15,16] (fun wz=>wz.heap[r]? =some (.cells (AQ (AF v b (i) true)).toArray 72 (0,0))∧Ext w wz∧wz.heap[s]? =some (.cells (Lib.byteCells (List.replicate 32 0)).toArray 24 (0,0))∧True) (fun _ _ ⟨hb,hE,f,_⟩ k=>⟨(eb k hb),(hE.trans k),(eb k f),trivial⟩) (by kernel_rfl) (by kernel_rfl) (by kernel_rfl) ⟨hb,hE,f,trivial⟩ ⟨fun m ⟨hb,hE,f,_⟩=>Yk.move o ⟨rfl,Ext.refl _⟩,fun m ⟨hb,hE,f,_⟩=>Yk.nilCheck (vr (PQ r 0) rfl) ⟨rfl,Ext.refl _⟩,fun m ⟨hb,hE,f,_⟩=>Yk.fieldAt BQ (vr (PQ r 0) rfl) ⟨rfl,Ext.refl _⟩,fun m ⟨hb,hE,f,_⟩=>Yk.cell1 Ek rfl (vr (PQ r 0) rfl) (Al hb (show(AQ (AF v b (i) true))[0]? =some (v:Value)from Dm (AF v b (i) true))) ⟨rfl,Ext.refl _⟩,fun m ⟨hb,hE,f,_⟩=>Yk.move o ⟨rfl,Ext.refl _⟩,fun m ⟨hb,hE,f,_⟩=>Yk.nilCheck (vr (PQ r 0) rfl) ⟨rfl,Ext.refl _⟩,fun m ⟨hb,hE,f,_⟩=>Yk.fieldAt BE (vr (PQ r 0) rfl) ⟨rfl,Ext.refl _⟩,fun m ⟨hb,hE,f,_⟩=>Yk.cell1 Li rfl (vr (PQ r 1) rfl) (Al hb (show(AQ (AF v b (i) true))[1]? =some (NI i:Value)from Cg (AF v b (i) true))) ⟨rfl,Ext.refl _⟩,fun m ⟨hb,hE,f,_⟩=>Yk.callA2 Hf (vr v rfl) (vr (NI i) rfl) (((show Calls _ _ _ _ (fun e t=>e = .returned (.tuple #[AB (List.replicate 32 0),NI 0,NI 6])∧Ext _ t)from by have h:=Fi _ v b (hr.keep hE) i (by omega) (by omega);rw[hq]at h;exact h)).mono (by rintro e t ⟨rfl,hx⟩;exact⟨_,rfl,rfl,hx⟩)),fun m ⟨hb,hE,f,_⟩=>Yk.move (vr (.tuple #[AB (List.replicate 32 0),NI 0,NI 6]) rfl) ⟨rfl,Ext.refl _⟩,fun m ⟨hb,hE,f,_⟩=>Yk.extract (vs:= [AB (List.replicate 32 0),NI 0,NI 6]) (vr (.tuple #[AB (List.replicate 32 0),NI 0,NI 6]) rfl) (show _=some (AB (List.replicate 32 0):Value)from rfl) ⟨rfl,Ext.refl _⟩,fun m ⟨hb,hE,f,_⟩=>Yk.extract (vs:= [AB (List.replicate 32 0),NI 0,NI 6]) (vr (.tuple #[AB (List.replicate 32 0),NI 0,NI 6]) rfl) (show _=some (NI 0:Value)from rfl) ⟨rfl,Ext.refl _⟩,fun m ⟨hb,hE,f,_⟩=>Yk.extract (vs:= [AB (List.replicate 32 0),NI 0,NI 6]) (vr (.tuple #[AB (List.replicate 32 0),NI 0,NI 6]) rfl) (show _=some (NI 6:Value)from rfl) ⟨rfl,Ext.refl _⟩,trivial⟩ (AR rfl fun ck ap=> ?_)
 have hb:=eb ap hb
 have hgr:w.grownBy ck (some r):=Ab hgr ap.grown (fun _ e=>by cases e)
 have hE:=hE.trans ap
 have f:=eb ap f
 refine A7 (Yk.alloc (cs:=(Lib.byteCells (List.replicate 32 0)).toArray) H9 fun bj bk bm bn aq dw=> ?_)
 have cl:=hE.size
 have dx:=Bc (bl hb) bm
 have dy:=Bc (bl f) bm
 have hb:=eb aq hb
 have hgr:w.grownBy bk (some r):=Ab hgr aq.grown (fun _ e=>by cases e)
 have hE:=hE.trans aq
 have f:=eb aq f
 have x:=bn;clear bn
 have dz:bj<bk.heap.size:=by omega
 refine⟨.inr ⟨hb,hE,f,trivial⟩,?_⟩
 refine AR rfl fun cm ac=> ?_
 have hb:=eb ac hb
 have hgr:w.grownBy cm (some r):=Ab hgr ac.grown (fun _ e=>by cases e)
 have hE:=hE.trans ac
 have f:=eb ac f
 have x:=eb ac x
 refine A7 (Yk.storeAll (vr (PQ bj 0) rfl) (vr (AB (List.replicate 32 0)) rfl) x (by exact BK List.length_replicate List.length_replicate) (by exact At List.length_replicate) (Ay _) fun cn bo ar d0=> ?_)
 have hb:=kb ar hb (by omega)
 have hgr:w.grownBy cn (some r):=Ab hgr ar (fun _ e=> .inr (by cases e;omega))
 have hE:=Af hE ar (Nat.le_trans cl (by omega))
 have f:=kb ar f (by omega)
 clear x
 have x:=bo;clear bo
 have d1:=bl x
 refine⟨.inr ⟨hb,hE,f,trivial⟩,?_⟩
 refine AR rfl fun co au=> ?_
 have hb:=eb au hb
 have hgr:w.grownBy co (some r):=Ab hgr au.grown (fun _ e=>by cases e)
 have hE:=hE.trans au
 have f:=eb au f
 refine A7 (Yk.assign (vr (NI 0) rfl) ?_)
 refine⟨.inr ⟨hb,hE,f,trivial⟩,?_⟩
 refine AR rfl fun cp av=> ?_
 have hb:=eb av hb
 have hgr:w.grownBy cp (some r):=Ab hgr av.grown (fun _ e=>by cases e)
 have hE:=hE.trans av
 have f:=eb av f
 refine A7 (Yk.assign (vr (NI 6) rfl) ?_)
 refine⟨.inl rfl,?_⟩
 refine CA ?_
 have hr:=(hr.keep hE)
 refine tN (cj _ _ (sk fun d2 d3=>(sk fun d4 cq=>(wt (oM rfl (oS rfl (Yk.eqI (a:=(6:Nat)) (b:=(0:Nat)) rfl rfl (BO _ _ _ _) (oM rfl (oN (d:=21) rfl rfl rfl (vr (.bool (true)) (congrArg Value.bool (decide_eq_true (by decide)))) rfl (oN (d:=21) rfl rfl rfl (vr (.bool (true)) (congrArg Value.bool (decide_eq_true (by decide)))) rfl (oN (d:=21) rfl rfl rfl (vr (.bool (true)) (congrArg Value.bool (decide_eq_true (by decide)))) rfl (oN (d:=21) rfl rfl rfl (vr (.bool (true)) (congrArg Value.bool (decide_eq_true (by decide)))) rfl (oN (d:=21) rfl rfl rfl (vr (.bool (true)) (congrArg Value.bool (decide_eq_true (by decide)))) rfl (oS rfl (Yk.pickT (vr (.bool (true)) (congrArg Value.bool (decide_eq_true (by decide)))) (vr (.bool (true)) rfl) (oZ (tN (cq _ _ (wpF_true (vr (.bool (true)) rfl) ?_)))))))))))))))))))
 refine sk fun d5 cr=>(wt (oM rfl (oS rfl (Yk.nilCheck o (oS rfl (Yk.fieldAt Bx (vr (PQ r 0) rfl) (oS rfl (Yk.storeC (i:=2) (v:= .bool (false)) (vr (PQ r 2) rfl) (vr (.bool (false)) rfl) hb (by rw[Cz];decide) C2 rfl rfl fun bp bq a0 d6=> ?_))))))))
 have hr:=RB.keptE hr a0 hap
 have hgr:w.grownBy bp (some r):=Ab hgr a0 (fun _ e=> .inl e)
 clear hE
 have f:=kb a0 f (by omega)
 clear hb
 have hb:bp.heap[r]? =some (.cells (AQ ((⟨b,((i:Nat):Int),false⟩,⟨v⟩):CH)).toArray 72 (0,0)):=AG bq (DK (AF v b (i) true) false);clear bq
 have d7:=bl hb
 refine oZ (tN (cr _ _ (sk fun d8 ct=>(wt (oS rfl (Yk.run (v:=AB (List.replicate 32 0)) (by kernel_rfl) (oS rfl (Yk.storeAll (vr (PQ s 0) rfl) (vr (AB (List.replicate 32 0)) rfl) f (by exact BK List.length_replicate List.length_replicate) (by exact At List.length_replicate) (Ay _) fun cu br bs d9=> ?_))))))))
 clear hr
 have hgr:w.grownBy cu (some r):=Ab hgr bs (fun _ e=> .inr (by cases e;omega))
 have hb:=kb bs hb (by omega)
 clear f
 have f:=br;clear br
 have ea:=bl f
 refine oZ (tN (ct _ _ (Am (An (Aj (fn:=Tryz.f26) _ rfl [AB (List.replicate 32 0)] (AB (List.replicate 32 0)) rfl ⟨ResF.row rfl f P8 rfl (by exact At List.length_replicate),trivial⟩ ?_)))))
 exact⟨_,_,_,hP,rfl,hb,by omega,hgr⟩

theorem J6(w:World)(r:Nat)(v:Value)(b:Bs)(i:Nat)(k:Bool)(hb:w.heap[r]? =some (.cells (AQ (AF v b (i) k)).toArray 72 (0,0)))(hr:RB w v b)(hap:b= []∨OB v r)(hi:i≤b.length)(hl:b.length≤6000):
  Calls Tryz.prog 24 #[PQ r 0] w fun e w' =>∃u ls n q,nlR b (i,k)=(ls,(n,q))∧e = .returned u∧OG w.heap.size 61 33 nmdC w' u ls∧w'.heap[r]? =some (.cells (AQ (AF v b (n) q)).toArray 72 (0,0))∧n≤b.length∧w.grownBy w' (some r):=by
 have hlr:=(bl hb)
 have hgr:=World.grownBy.refl w (some r)
 refine As (args:= [PQ r 0]) Tryz.func24 rfl 32 rfl (Nat.le_of_ble_eq_true rfl) ?_
 intro al hb
 have f:al 0=(PQ r 0:Value):=hb.get 0
 clear hb
 refine sk fun K1 am=>(wt (oA rfl (oZ ?_)))
 refine tN (am _ _ (sk fun K2 an=>(wt (oA rfl (oZ ?_)))))
 have hrow0:OG w.heap.size 61 33 (nmdC) w (Value.slice none 0 0) ([]:List AK):=OG.nil _ _ _ _ _
 have hapN:Value.ownBlock (Value.slice none 0 0)≠some r:=fun h=>by cases h
 refine tN (an _ _ (sk fun K3 ao=>(wt (oM rfl (oS rfl (Yk.callA2 OQ f (vr (NI 64) rfl) ((LD _ r v b (i) k hb (RB.keptE hr hgr hap) hap hi hl).mono ?_)))))))
 rintro e w5 ⟨c4,i4,k4,hq4,rfl,hbr4,aq,ab⟩
 refine⟨_,rfl,?_⟩
 have hgr:w.grownBy w5 (some r):=Ab hgr ab (fun _ e=> .inl e)
 have hrow0:=OG.kept hrow0 ab hapN
 clear hb
 have hb:=hbr4;clear hbr4
 have bj:=bl hb
 refine oA rfl (oZ ?_)
 have bk:c4≤64:=FE hq4
 refine tN (ao _ _ (sk fun K7 ac=>(sk fun K8 ar=>(wt (oA rfl (A3 [(0,PQ r 0),(2,(Value.slice none 0 0)),(3,(Value.slice none 0 0)),(4,NI c4),(5,NI 0)] ⟨f,rfl,rfl,rfl,rfl,trivial⟩ fun bo ⟨f,o,l,m,g,_⟩=>(tN (ar _ _ (Av (A4 (fun(ρ:Au) (wz:World)=>∃j:Nat,∃ls:List AK,∃i1:Nat,∃k1:Bool,∃va:Value,ρ 0=(PQ r 0:Value)∧ρ 2=((Value.slice none 0 0):Value)∧ρ 4=(NI c4:Value)∧ρ 5=(NI j:Value)∧ρ 3=(va:Value)∧w.grownBy wz (some r)∧wz.heap[r]? =some (.cells (AQ (AF v b (i1) k1)).toArray 72 (0,0))∧OG w.heap.size 61 33 (nmdC) wz va (ls)∧(itR (DE b) j ([],(i4,k4))=(ls,(i1,k1)))∧(i1≤b.length)∧(ls.length=j)∧(j≤c4)∧(OB va r)∧True) (fun ρ _=>c4-(intOf (ρ 5)).toNat) ⟨0,[],i4,k4,(Value.slice none 0 0),f,o,m,g,l,hgr,hb,CR hrow0 (rfl),rfl,aq,rfl,Nat.zero_le _,hapN,trivial⟩ ?_))))))))))
 clear hrow0
 clear hb
 clear hgr
 rintro au av ⟨j,ls,i1,k1,va,f,o,m,g,l,hgr,c,hr_va,hit,hi1,hls,hjn,hap_va_r,-⟩
 have q5:=g
 have hlr1:r<av.heap.size:=(bl c)
 by_cases hlt:j<c4
 ·cases k1
  ·refine sk fun bp bq=>(sk fun br aw=>(wt (oM rfl (oM rfl (oS rfl (Yk.eqI (a:=(j:Nat)) (b:=(c4:Nat)) g m (AX _ _ _ _) (oM rfl (oY (d:=13) rfl rfl (vr (.bool (true)) (congrArg Value.bool (decide_eq_true (hlt)))) (Yk.move f (oY (d:=13) rfl rfl (vr (.bool (true)) (congrArg Value.bool (decide_eq_true (hlt)))) (Yk.nilCheck (vr (PQ r 0) rfl) (oY (d:=13) rfl rfl (vr (.bool (true)) (congrArg Value.bool (decide_eq_true (hlt)))) (Yk.fieldAt Bx (vr (PQ r 0) rfl) (oY (d:=13) rfl rfl (vr (.bool (true)) (congrArg Value.bool (decide_eq_true (hlt)))) (Yk.cell1 PA rfl (vr (PQ r 2) rfl) (Al c (show(AQ (AF v b (i1) false))[2]? =some (.bool (false):Value)from CC (AF v b (i1) false))) (oS rfl (Yk.pickT (vr (.bool (true)) (congrArg Value.bool (decide_eq_true (hlt)))) (vr (.bool (false)) rfl) (oZ (tN (aw _ _ (AH (vr (.bool (false)) rfl) (AP (Ar (Ar (Az ?_)))))))))))))))))))))))))
   refine tN (ac _ _ (sk fun bs ax=>(wt (oM rfl (oA rfl (oZ (tN (ax _ _ (Am (Aj (fn:=Tryz.f24) _ rfl [va] (va) rfl ⟨l,trivial⟩ ?_))))))))))
   have hM:nlR b (i,k)=(ls,(i1,false)):=OP hq4 (Gk hit _ (by omega))
   exact⟨_,_,_,_,hM,rfl,hr_va,c,hi1,hgr⟩
  have hlsl:ls.length=j:=hls
  refine sk fun bt ay=>(sk fun bu az=>(wt (oM rfl (oM rfl (oS rfl (Yk.eqI (a:=(j:Nat)) (b:=(c4:Nat)) g m (AX _ _ _ _) (oM rfl (oY (d:=13) rfl rfl (vr (.bool (true)) (congrArg Value.bool (decide_eq_true (hlt)))) (Yk.move f (oY (d:=13) rfl rfl (vr (.bool (true)) (congrArg Value.bool (decide_eq_true (hlt)))) (Yk.nilCheck (vr (PQ r 0) rfl) (oY (d:=13) rfl rfl (vr (.bool (true)) (congrArg Value.bool (decide_eq_true (hlt)))) (Yk.fieldAt Bx (vr (PQ r 0) rfl) (oY (d:=13) rfl rfl (vr (.bool (true)) (congrArg Value.bool (decide_eq_true (hlt)))) (Yk.cell1 PA rfl (vr (PQ r 2) rfl) (Al c (show(AQ (AF v b (i1) true))[2]? =some (.bool (true):Value)from CC (AF v b (i1) true))) (oS rfl (Yk.pickT (vr (.bool (true)) (congrArg Value.bool (decide_eq_true (hlt)))) (vr (.bool (true)) rfl) (oZ (tN (az _ _ (wpF_true (vr (.bool (true)) rfl) (Aq ?_))))))))))))))))))))))
  refine tN (ay _ _ (sk fun bv a0=>(Av (sk fun bw a1=>(wt (oM rfl (oS rfl (Yk.callA1 OR f ((D7 _ r v b (i1) true c (RB.keptE hr hgr hap) hap hi1 hl).mono ?_)))))))))
  rintro e a2 ⟨c19,i19,k19,hq19,rfl,hbr19,a3,ad⟩
  refine⟨_,rfl,?_⟩
  have hgr:w.grownBy a2 (some r):=Ab hgr ad (fun _ e=> .inl e)
  have hr_va:=OG.kept hr_va ad hap_va_r
  clear c
  have c:=hbr19;clear hbr19
  have bx:=bl c
  refine oA rfl (oZ (tN (a1 _ _ (sk fun bz a4=>(wt (oM rfl (oS rfl (Yk.callA1 OS f ((E5 _ r v b (i19) k19 c (RB.keptE hr hgr hap) hap a3 hl).mono ?_)))))))))
  rintro e a5 ⟨c23,i23,k23,hq23,rfl,hbr23,a6,ae⟩
  refine⟨_,rfl,?_⟩
  have hgr:w.grownBy a5 (some r):=Ab hgr ae (fun _ e=> .inl e)
  have hr_va:=OG.kept hr_va ae hap_va_r
  clear c
  have c:=hbr23;clear hbr23
  have b0:=bl c
  refine oS rfl (Yk.alloc (cs:=(Lib.byteCells (List.replicate 32 0)).toArray) H9 fun p af a7 ag y b1=> ?_)
  have b2:=hgr.size
  have b3:=Bc (bl c) a7
  have a8:OB va p:=CY hr_va.2 (by omega)
  have hgr:w.grownBy af (some r):=Ab hgr y.grown (fun _ e=>by cases e)
  have hr_va:=hr_va.keep y
  have c:=eb y c
  have s:=ag;clear ag
  have b4:p<af.heap.size:=by omega
  refine oS rfl (Yk.storeAll (vr (PQ p 0) rfl) (vr (AB c23.1) rfl) s (by exact BK c23.2 List.length_replicate) (by exact At c23.2) (Ay _) fun a9 ah z b5=> ?_)
  have hgr:w.grownBy a9 (some r):=Ab hgr z (fun _ e=> .inr (by cases e;omega))
  have hr_va:=OG.kept hr_va z a8
  have c:=kb z c (by omega)
  clear s
  have s:=ah;clear ah
  have b6:=bl s
  refine oZ (tN (a4 _ _ (wt (oM rfl (oM rfl (oS rfl (Yk.loadAll (vr (PQ p 0) rfl) s P8 rfl (by exact At c23.2) (oS rfl (Yk.build2 (vr (St (c19)) rfl) (vr (AB c23.1) rfl) (fun w=>Ks c19 c23 w) (oS rfl (Yk.lit1G (a:=(⟨c19,c23⟩:AK)) (enc:=nmdC) (vr (.agg (nmdC (⟨c19,c23⟩:AK)).toArray) rfl) (Bq _) OT fun ba ai aj aa=> ?_)))))))))))
  have hgr:w.grownBy ai (some r):=Ab hgr aa.grown (fun _ e=>by cases e)
  have hr_va:=hr_va.keep aa
  have c:=eb aa c
  refine oS rfl (Yk.appendRG _ _ w.heap.size _ 48 Fz wr28_ig61.choose_spec.1 wr28_ig61.choose_spec.2 Fz (ls) ([(⟨c19,c23⟩:AK)]) (OG.of hr_va l) (RG.of aj (vr ba rfl)) (fun _ _=>CL) (by simp only[List.length_cons,List.length_nil];omega) (by simp only[List.length_cons,List.length_nil];omega) hgr.size fun x ak bb t=> ?_)
  have t:Grew ai ak va x:= .eqv l t
  have bc:OB x r:=AU t hap_va_r (bl c)
  have hgr:w.grownBy ak (some r):=Ab hgr t.by_ (fun _ e=> .inr (hr_va.2.lt _ e).1)
  have c:=AN c t hap_va_r
  clear aj
  clear hr_va
  refine oA rfl (oZ (bN (tN (a0 _ _ (wt (oM rfl (oS rfl (Yk.bin (xv:=NI j) (yv:=NI 1) g rfl rfl (AA _ _ _ (by omega)) (oA rfl (A3 [(0,PQ r 0),(2,(Value.slice none 0 0)),(3,x),(4,NI c4),(5,NI ((j)+(1))),(6,St (c19)),(7,PQ p 0),(18, .bool (true))] ⟨f,o,rfl,m,rfl,rfl,rfl,rfl,trivial⟩ fun bd ⟨f,o,l,m,g,T6,T7,b9,_⟩=>(tN (And.intro ⟨j+1,(ls)++ [(⟨c19,c23⟩:AK)],i23,k23,x,f,o,m,g,l,hgr,c,CR bb (rfl),(Gj hit).trans (by unfold DE Qf;simp only[hq19,hq23]),a6,by rw[List.length_append,hls];rfl,by omega,bc,trivial⟩ ?_))))))))))))
  show c4-(intOf (bd 5)).toNat<c4-(intOf (au 5)).toNat
  rw[g,q5]
  simp only[intOf,Int.toNat_natCast];omega
 refine sk fun ca cb=>(sk fun cc be=>(wt (oM rfl (oM rfl (oS rfl (Yk.eqI (a:=(j:Nat)) (b:=(c4:Nat)) g m (AX _ _ _ _) (oM rfl (oN (d:=13) rfl rfl rfl (vr (.bool (false)) (congrArg Value.bool (decide_eq_false (hlt)))) rfl (oN (d:=13) rfl rfl rfl (vr (.bool (false)) (congrArg Value.bool (decide_eq_false (hlt)))) rfl (oN (d:=13) rfl rfl rfl (vr (.bool (false)) (congrArg Value.bool (decide_eq_false (hlt)))) rfl (oN (d:=13) rfl rfl rfl (vr (.bool (false)) (congrArg Value.bool (decide_eq_false (hlt)))) rfl (oS rfl (Yk.pickF (vr (.bool (false)) (congrArg Value.bool (decide_eq_false (hlt)))) (vr (.bool (false)) rfl) (oZ (tN (be _ _ (AH (vr (.bool (false)) rfl) (AP (Ar (Ar (Az ?_)))))))))))))))))))))
 refine tN (ac _ _ (sk fun cd bf=>(wt (oM rfl (oA rfl (oZ (tN (bf _ _ (Am (Aj (fn:=Tryz.f24) _ rfl [va] (va) rfl ⟨l,trivial⟩ ?_))))))))))
 have hM:nlR b (i,k)=(ls,(i1,k1)):=OP hq4 (by rw[←hit];congr 1;omega)
 exact⟨_,_,_,_,hM,rfl,hr_va,c,hi1,hgr⟩
open Go.RowKit
set_option maxRecDepth 100000
section
variable {P : Program} {K : Value → World → Prop} {ρ : Au} {w : World} {d : Option Tmp} {ty : TypeId} {pos : String} {af : Array Edge} {gd : Option (Nat × Bool)} {t : TypeId}
theorem Yk.arr2{a b:Value}(hr:∀w:World,(Instr.build t #[(0,a),(1,b)]).run P w = .ok (.agg #[a,b]) w){x y:Operand}(hx:Ag ρ x=a)(hy:Ag ρ y=b)(hk:K (.agg #[a,b]) w):
  Yk P K ((execOp (Ag ρ) ⟨d, .build t #[(0,x),(1,y)],ty,pos,af,gd⟩).run P w):=by
 refine Yk.value (v:= .agg #[a,b]) (w' :=w) ?_ hk
 unfold execOp
 simp only[List.map_toArray,List.map_cons,List.map_nil,hx,hy,Sem.run_bind,hr,Result.andThen_ok,Sem.run_pure]
theorem Yk.arr2at{a b c:Value}{n:Nat}(hr:∀w:World,(Instr.index t (.agg #[a,b]) (NI n)).run P w = .ok c w){x y:Operand}(hx:Ag ρ x = .agg #[a,b])(hy:Ag ρ y=NI n)(hk:K c w):
  Yk P K ((execOp (Ag ρ) ⟨d, .index t x y,ty,pos,af,gd⟩).run P w):=by
 refine Yk.value (v:=c) (w' :=w) ?_ hk
 unfold execOp
 simp only[hx,hy,Sem.run_bind,hr,Result.andThen_ok,Sem.run_pure]
end
set_option maxHeartbeats 1600000
open Go.RowKit
set_option maxRecDepth 100000
theorem OU:AI Tryz.prog 15:=fun _ _=>by kernel_rfl
theorem Gu:(Tryz.prog.info? 28).map (·.size)=some 1:=by kernel_rfl
theorem OV:AI Tryz.prog 17:=fun _ _=>by kernel_rfl
theorem OW:AI Tryz.prog 19:=fun _ _=>by kernel_rfl
set_option maxHeartbeats 1600000
theorem Hg(w0 w:World)(c:Ext w0 w)(gb:Nat)(hgb:w0.heap.size≤gb)(vb:Value)(l:Bs)(hb:w.heap[gb]? =some (.cells ([vb]).toArray 28 (0,0)))(hr:RB w vb l)(n:Nat)(hl:l.length+64≤140737488355328)(hn:n≤9223372036854775807):
  Calls Tryz.prog 14 #[NI n,PQ gb 0] w fun e w' =>∃v',e = .returned (.tuple #[])∧w'.heap[gb]? =some (.cells ([v']).toArray 28 (0,0))∧w'.ownsRow w.heap.size 5 1 v' (l++Lib.uvarint n).length (Lib.byteCells (l++Lib.uvarint n))∧w.grownBy w' (some gb):=by
 have hgl:=(bl hb)
 have hgr:=World.grownBy.refl w (some gb)
 refine As (args:= [NI n,PQ gb 0]) Tryz.func14 rfl 9 rfl (Nat.le_of_ble_eq_true rfl) ?_
 intro j hb
 have o:j 0=(NI n:Value):=hb.get 0
 have k:j 1=(PQ gb 0:Value):=hb.get 1
 clear hb
 have hE:=Ext.refl w
 refine wt (oS rfl (Yk.cell1 Ek rfl k (Al hb (show _=some (vb:Value)from rfl)) (oM rfl (oS rfl (Yk.callA2 OU (vr vb rfl) o ((Qm _ vb (l) (hr.keep hE) (by omega) n (by omega)).mono ?_))))))
 rintro e p ⟨a,rfl,b⟩
 refine⟨_,rfl,?_⟩
 have g:=Ext.refl w
 have s:=hE
 have t:=c
 have u:=hE.size
 have x:=c.size
 have q:OB a gb:=Be b.own (bl hb)
 have hb:=eb b.ext hb
 have hgr:w.grownBy p (some gb):=Ab hgr b.ext.grown (fun _ e=>by cases e)
 have hE:=hE.trans b.ext
 have c:=c.trans b.ext
 have g:=g.trans b.ext
 have f:=b.own;clear b
 refine oM rfl (oS rfl (Yk.extract (vs:= [a,NI 0]) (vr (.tuple #[a,NI 0]) rfl) (show _=some (a:Value)from rfl) (oS rfl (Yk.extract (vs:= [a,NI 0]) (vr (.tuple #[a,NI 0]) rfl) (show _=some (NI 0:Value)from rfl) (oS rfl (Yk.storeC (i:=0) (v:=a) k (vr a rfl) hb (Nat.le_of_ble_eq_true rfl) Gu (DZ f).1 (DZ f).2 fun r m h y=> ?_))))))
 have hgr:w.grownBy r (some gb):=Ab hgr h (fun _ e=> .inl e)
 clear hE
 have c:=Af c h (Nat.le_trans (Nat.le_refl _) (by omega))
 clear g
 have f:=Df f h q
 clear hb
 have hb:=m;clear m
 have z:=bl hb
 refine oZ (GM (fn:=Tryz.f14) [] rfl [] (.tuple #[]) rfl trivial ?_)
 exact⟨_,rfl,hb,Bg f (by omega),hgr⟩

theorem EE(w0 w:World)(b:Ext w0 w)(gb:Nat)(hgb:w0.heap.size≤gb)(vb:Value)(l:Bs)(hb:w.heap[gb]? =some (.cells ([vb]).toArray 28 (0,0)))(hr:RB w vb l)(s:Bs)(hl:l.length+s.length+64≤140737488355328):
  Calls Tryz.prog 16 #[St s,PQ gb 0] w fun e w' =>∃v',e = .returned (.tuple #[])∧w'.heap[gb]? =some (.cells ([v']).toArray 28 (0,0))∧w'.ownsRow w.heap.size 5 1 v' (l++Bd s).length (Lib.byteCells (l++Bd s))∧w.grownBy w' (some gb):=by
 have hgl:=(bl hb)
 have hgr:=World.grownBy.refl w (some gb)
 refine As (args:= [St (s),PQ gb 0]) Tryz.func16 rfl 6 rfl (Nat.le_of_ble_eq_true rfl) ?_
 intro j hb
 have n:j 0=(St (s):Value):=hb.get 0
 have k:j 1=(PQ gb 0:Value):=hb.get 1
 clear hb
 have hE:=Ext.refl w
 refine wt (oS rfl (Yk.cell1 Ek rfl k (Al hb (show _=some (vb:Value)from rfl)) (oM rfl (oS rfl (Yk.callA2 OV (vr vb rfl) n ((Pu _ vb (l) (hr.keep hE) s (by omega)).mono ?_))))))
 rintro e o ⟨f,rfl,a⟩
 refine⟨_,rfl,?_⟩
 have g:=Ext.refl w
 have r:=hE
 have t:=b
 have u:=hE.size
 have x:=b.size
 have p:OB f gb:=Be a.own (bl hb)
 have hb:=eb a.ext hb
 have hgr:w.grownBy o (some gb):=Ab hgr a.ext.grown (fun _ e=>by cases e)
 have hE:=hE.trans a.ext
 have b:=b.trans a.ext
 have g:=g.trans a.ext
 have c:=a.own;clear a
 refine oS rfl (Yk.storeC (i:=0) (v:=f) k (vr f rfl) hb (Nat.le_of_ble_eq_true rfl) Gu (DZ c).1 (DZ c).2 fun q m h y=> ?_)
 have hgr:w.grownBy q (some gb):=Ab hgr h (fun _ e=> .inl e)
 clear hE
 have b:=Af b h (Nat.le_trans (Nat.le_refl _) (by omega))
 clear g
 have c:=Df c h p
 clear hb
 have hb:=m;clear m
 have z:=bl hb
 refine oZ (GM (fn:=Tryz.f16) [] rfl [] (.tuple #[]) rfl trivial ?_)
 exact⟨_,rfl,hb,Bg c (by omega),hgr⟩

theorem EF(w0 w:World)(b:Ext w0 w)(gb:Nat)(hgb:w0.heap.size≤gb)(vb:Value)(l:Bs)(hb:w.heap[gb]? =some (.cells ([vb]).toArray 28 (0,0)))(hr:RB w vb l)(id:BS)(hl:l.length+64≤140737488355328):
  Calls Tryz.prog 18 #[AB id.1,PQ gb 0] w fun e w' =>∃v',e = .returned (.tuple #[])∧w'.heap[gb]? =some (.cells ([v']).toArray 28 (0,0))∧w'.ownsRow w.heap.size 5 1 v' (l++id.1).length (Lib.byteCells (l++id.1))∧w.grownBy w' (some gb):=by
 have hgl:=(bl hb)
 have hgr:=World.grownBy.refl w (some gb)
 refine As (args:= [AB id.1,PQ gb 0]) Tryz.func18 rfl 6 rfl (Nat.le_of_ble_eq_true rfl) ?_
 intro p hb
 have t:p 0=(AB id.1:Value):=hb.get 0
 have q:p 1=(PQ gb 0:Value):=hb.get 1
 clear hb
 have hE:=Ext.refl w
 refine sk fun K1 u=>(wt (oS rfl (Yk.box (cs:=(Lib.byteCells id.1:List Value).toArray) t fun m n x r g ac=> ?_)))
 have c:=Ext.refl w
 have ad:=hE
 have ae:=b
 have af:=hE.size
 have ag:=b.size
 have ah:=Bc (bl hb) x
 have hb:=eb g hb
 have hgr:w.grownBy n (some gb):=Ab hgr g.grown (fun _ e=>by cases e)
 have hE:=hE.trans g
 have b:=b.trans g
 have c:=c.trans g
 have f:=r;clear r
 have ai:m<n.heap.size:=by omega
 refine oZ (tN (u _ _ (wt (oS rfl (Yk.cell1 Ek rfl q (Al hb (show _=some (vb:Value)from rfl)) (oS rfl (Yk.loadAll (vr (PQ m 0) rfl) f P8 rfl (by exact At id.2) (oS rfl (Yk.callA2 OW (vr vb rfl) (vr (AB id.1) rfl) ((NO _ vb (l) (hr.keep hE) (by omega) id).mono ?_))))))))))
 rintro e y ⟨j,rfl,a⟩
 refine⟨_,rfl,?_⟩
 have o:=Ext.refl n
 have aj:=hE
 have ak:=b
 have al:=c
 have am:=hE.size
 have an:=b.size
 have ao:=c.size
 have z:OB j gb:=Be a.own (bl hb)
 have ap:OB j m:=Be a.own (bl f)
 have hb:=eb a.ext hb
 have hgr:w.grownBy y (some gb):=Ab hgr a.ext.grown (fun _ e=>by cases e)
 have hE:=hE.trans a.ext
 have b:=b.trans a.ext
 have c:=c.trans a.ext
 have f:=eb a.ext f
 have o:=o.trans a.ext
 have h:=a.own;clear a
 refine oS rfl (Yk.storeC (i:=0) (v:=j) q (vr j rfl) hb (Nat.le_of_ble_eq_true rfl) Gu (DZ h).1 (DZ h).2 fun aa s k aq=> ?_)
 have hgr:w.grownBy aa (some gb):=Ab hgr k (fun _ e=> .inl e)
 clear hE
 have b:=Af b k (Nat.le_trans (Nat.le_refl _) (by omega))
 clear c
 have f:=kb k f (by omega)
 clear o
 have h:=Df h k z
 clear hb
 have hb:=s;clear s
 have ar:=bl hb
 refine oZ (GM (fn:=Tryz.f18) [] rfl [] (.tuple #[]) rfl trivial ?_)
 exact⟨_,rfl,hb,Bg h (by omega),hgr⟩
open Go.RowKit
set_option maxRecDepth 100000
theorem OX{d:Option Tmp}{ty:TypeId}{pos:String}{af:Array Edge}{gd:Option (Nat × Bool)}(σ:Operand→Value)(w:World):(execOp σ ⟨d, .alloc 28,ty,pos,af,gd⟩).run Tryz.prog w = .ok (.value (PQ w.heap.size 0)) (w.alloc (.cells ([(Value.slice none 0 0)]).toArray 28)):=by kernel_rfl
theorem QM{a b:Value}(ha:∃o n c,a = .slice o n c)(hb:∃o n c,b = .slice o n c)(w:World):(Instr.build 58 #[(0,a),(1,b)]).run Tryz.prog w = .ok (.agg #[a,b]) w:=by
 obtain⟨_,_,_,rfl⟩:=ha
 obtain⟨_,_,_,rfl⟩:=hb
 kernel_rfl
theorem PX{a b:Value}(ha:∃o n c,a = .slice o n c)(hb:∃o n c,b = .slice o n c)(w:World):(Instr.index 58 (.agg #[a,b]) (NI 0)).run Tryz.prog w = .ok a w:=by
 obtain⟨_,_,_,rfl⟩:=ha
 obtain⟨_,_,_,rfl⟩:=hb
 kernel_rfl
theorem PY{a b:Value}(ha:∃o n c,a = .slice o n c)(hb:∃o n c,b = .slice o n c)(w:World):(Instr.index 58 (.agg #[a,b]) (NI 1)).run Tryz.prog w = .ok b w:=by
 obtain⟨_,_,_,rfl⟩:=ha
 obtain⟨_,_,_,rfl⟩:=hb
 kernel_rfl
theorem Hh:AI Tryz.prog 14:=fun _ _=>by kernel_rfl
theorem EG:AI Tryz.prog 16:=fun _ _=>by kernel_rfl
theorem EH:AI Tryz.prog 18:=fun _ _=>by kernel_rfl
theorem M7(z:Int)(w:World):(Instr.buildSlice 28 1 #[(0, .int .u8 z)]).run Tryz.prog w = .ok (.slice (some ⟨w.heap.size,0,none⟩) 1 1) (w.alloc (.cells #[.int .u8 z] 5)):=by kernel_rfl
set_option maxHeartbeats 3200000
theorem H2(w:World)(z:Ah)(hm:RefsAt w z)(hL:By z.1):
  Calls Tryz.prog 5 #[.agg (refsC z).toArray] w fun e w' =>∃v,e = .returned (.tuple #[v,NI (if AO z.1=true then 0 else 1)])∧RB w' v (if AO z.1=true then encR z.1 else [])∧Ext w w' :=by
 have hmt:=hm.branches
 have hmg:=hm.tags
 have hml:=hm.log
 refine As (args:= [.agg (refsC z).toArray]) Tryz.func5 rfl 95 rfl (Nat.le_of_ble_eq_true rfl) ?_
 intro c6 hb
 have q:c6 0=(.agg (refsC z).toArray:Value):=hb.get 0
 clear hb
 have hE:=Ext.refl w
 refine sk fun K1 c7=>(wt (oS rfl (Yk.box (cs:=(refsC z:List Value).toArray) q fun g w3 f4 b1 c9 f6=> ?_)))
 have hE:=hE.trans c9
 have f:=b1;clear b1
 have f7:g<w3.heap.size:=by omega
 refine oA rfl (oA rfl (oZ (tN (c7 _ _ (sk fun f8 da=>(sk fun f9 db=>(wt (oS rfl (Yk.loadAll (vr (PQ g 0) rfl) f (N9).choose_spec rfl (AC (Ao z) IJ) (oS rfl (Yk.callA1 Of (vr (.agg (refsC z).toArray) rfl) ((ET _ z ⟨(hmt.keep hE),(hmg.keep hE),(hml.keep hE)⟩ hL).mono ?_))))))))))))
 rintro e a8 ⟨rfl,b2⟩
 refine⟨_,rfl,?_⟩
 have hE:=hE.trans b2
 have f:=eb b2 f
 refine oS rfl (Yk.notB (vr (.bool (AO z.1)) rfl) (oZ (tN (db _ _ ?_))))
 refine AW (!(AO z.1)) (vr (.bool (!(AO z.1))) rfl) (fun bj=> ?_) (fun bj=> ?_)
 ·have hrt:AO z.1=false:=by simpa using bj
  refine sk fun ga dc=>(wt (oA rfl (oA rfl (oZ (tN (dc _ _ (Am (An (Aj (fn:=Tryz.f5) _ rfl [(Value.slice none 0 0),NI 1] (.tuple #[(Value.slice none 0 0),NI 1]) rfl ⟨rfl,rfl,trivial⟩ ?_)))))))))
  exact⟨.slice none 0 0,by rw[hrt];rfl,by rw[hrt];exact RB.nil _,hE⟩
 have hrt:AO z.1=true:=by simpa using bj
 have hR:=J3 hrt
 have hbl_:=hR.bl
 have htl_:=hR.tl
 have hgl_:=hR.ll
 refine Aq (tN (da _ _ (sk fun gb dd=>(wt (oS rfl (Yk.alloc (cs:=([(Value.slice none 0 0)]).toArray) OX fun c b3 de b4 bk gc=> ?_))))))
 have h:=Ext.refl a8
 have ag:=hE.size
 have gd:=Bc (bl f) de
 have hE:=hE.trans bk
 have f:=eb bk f
 have h:=h.trans bk
 have b5:=b4;clear b4
 have ge:c<b3.heap.size:=by omega
 refine oZ ?_
 have hrow0:b3.ownsRow w.heap.size 5 1 (Value.slice none 0 0) ([]:List UInt8).length (Lib.byteCells ([]:List UInt8)):=World.ownsRow_nil _ _ _ 1
 have df:Value.ownBlock (Value.slice none 0 0)≠some g:=by simp[Value.ownBlock]
 have dg:Value.ownBlock (Value.slice none 0 0)≠some c:=by simp[Value.ownBlock]
 refine tN (dd _ _ (sk fun gf dh=>(wt (oS rfl (Yk.mkFunc (vs:= #[PQ c 0]) (by simp only[List.map_toArray,List.map_cons,List.map_nil];exact congrArg List.toArray (KA (vr (PQ c 0) rfl))) (oA rfl (oZ (tN (dh _ _ (sk fun gg di=>(wt (oS rfl (Yk.mkFunc (vs:= #[PQ c 0]) (by simp only[List.map_toArray,List.map_cons,List.map_nil];exact congrArg List.toArray (KA (vr (PQ c 0) rfl))) (oA rfl (oZ (tN (di _ _ (sk fun gh dj=>(wt (oS rfl (Yk.mkFunc (vs:= #[PQ c 0]) (by simp only[List.map_toArray,List.map_cons,List.map_nil];exact congrArg List.toArray (KA (vr (PQ c 0) rfl))) ?_)))))))))))))))))))))
 refine oA rfl (oZ (tN (dj _ _ (sk fun gi dk=>(sk fun gj dl=>(wt (oS rfl (Yk.fieldAt LU (vr (PQ g 0) rfl) (oS rfl (Yk.cell1 D5 rfl (vr (PQ g 0) rfl) (Al f (show(refsC z)[0]? =some (z.2.branches:Value)from BN z)) (oS rfl (Yk.fieldAt LV (vr (PQ g 0) rfl) (oS rfl (Yk.cell1 D5 rfl (vr (PQ g 1) rfl) (Al f (show(refsC z)[1]? =some (z.2.tags:Value)from B6 z)) (oS rfl (Yk.arr2 (QM (RG.slice (hmt.keep hE)) (RG.slice (hmg.keep hE))) (vr z.2.branches rfl) (vr z.2.tags rfl) (oM rfl (A3 [(0, .agg (refsC z).toArray),(1,PQ g 0),(2,(Value.slice none 0 0)),(3,NI 0),(4,PQ c 0),(5, .func (.func 14) #[] #[PQ c 0]),(6, .func (.func 16) #[] #[PQ c 0]),(7, .func (.func 18) #[] #[PQ c 0]),(24, .agg #[z.2.branches,z.2.tags]),(25,NI 0)] ⟨q,rfl,rfl,rfl,rfl,rfl,rfl,rfl,rfl,rfl,trivial⟩ fun gk ⟨q,p,u,y,r,s,m,o,t,l,_⟩=>(tN (dl _ _ (Av (A4 (fun(ρ:Au) (wz:World)=>∃i:Nat,∃vb_i:Value,ρ 0=(.agg (refsC z).toArray:Value)∧ρ 1=(PQ g 0:Value)∧ρ 2=((Value.slice none 0 0):Value)∧ρ 3=(NI 0:Value)∧ρ 4=(PQ c 0:Value)∧ρ 5=(.func (.func 14) #[] #[PQ c 0]:Value)∧ρ 6=(.func (.func 16) #[] #[PQ c 0]:Value)∧ρ 7=(.func (.func 18) #[] #[PQ c 0]:Value)∧ρ 24=(.agg #[z.2.branches,z.2.tags]:Value)∧ρ 25=(NI i:Value)∧Ext w wz∧wz.heap[g]? =some (.cells (refsC z).toArray 35 (0,0))∧Ext a8 wz∧wz.heap[c]? =some (.cells ([vb_i]).toArray 28 (0,0))∧wz.ownsRow w.heap.size 5 1 vb_i (lsB z.1 i:List UInt8).length (Lib.byteCells (lsB z.1 i))∧(i≤2)∧(OB vb_i g)∧(OB vb_i c)∧True) (fun ρ _=>2-(intOf (ρ 25)).toNat) ⟨0,(Value.slice none 0 0),q,p,u,y,r,s,m,o,t,l,hE,f,h,b5,BW hrow0 ((IT rfl).symm),Nat.zero_le _,df,dg,trivial⟩ ?_))))))))))))))))))))))
 clear b5
 clear hrow0
 clear hE f h
 rintro b6 gl ⟨i,vb_i,q,p,u,y,r,s,m,o,t,l,hE,f,h,hb_i,ho_i,hii,hap_n2i,hap_n16i,-⟩
 have q25:=l
 have hgli:=(bl hb_i)
 refine sk fun gm dm=>(wt (oS rfl (Yk.eqI (a:=(i:Nat)) (b:=(2:Nat)) l rfl (AX _ _ _ _) (oZ (tN (dm _ _ (sk fun gn b7=> ?_)))))))
 refine AL ((i)<(2)) (vr (.bool (decide ((i)<(2)))) rfl) (fun dn=> ?_) (fun dn=> ?_)
 ·have h01:i=0∨i=1:=by omega
  have hll:=Hx hR i
  rcases h01 with h0 | h0
  ·have dp:=Cx (n:=z.1.branches.length) (by have:=hR.bl;omega)
   refine Aq (tN (b7 _ _ (sk fun go dq=>(Av (sk fun gp dr=>(wt (oS rfl (Yk.arr2at (PX (RG.slice (hmt.keep hE)) (RG.slice (hmg.keep hE))) t ((show _=NI i from l).trans (by rw[h0])) (oA rfl (oZ (tN (dr _ _ (sk fun gq ds=>(wt (oM rfl (oM rfl (oS rfl (Yk.lenRG D5 (RG.of (hmt.keep hE) (vr z.2.branches rfl)) (oS rfl (Yk.clo Hh (caps:= #[PQ c 0]) s #[NI ((z.1.branches).length),PQ c 0] (by simp only[List.map_toArray,List.map_cons,List.map_nil,List.append_toArray,List.cons_append,List.nil_append];exact congrArg List.toArray (CZ (vr (NI ((z.1.branches).length)) rfl) rfl)) ?_))))))))))))))))))))
   refine(Hg w _ hE c (by omega) vb_i (lsB z.1 i) hb_i (RB.ofOwn ho_i) ((z.1.branches).length) (by(try simp only[List.length_append,List.length_cons,List.length_nil]);omega) (by omega)).mono ?_
   rintro e gr ⟨bm,rfl,b8,ao,bo⟩
   refine⟨_,rfl,?_⟩
   have dt:OB bm g:=Be ao (bl f)
   have du:OB bm c:=Be ao (bl hb_i)
   have ao:=Bg ao hE.size
   have hE:=Af hE bo (Nat.le_trans ag (by omega))
   have f:=kb bo f (by omega)
   have h:=Af h bo (Nat.le_trans (Nat.le_refl _) (by omega))
   clear hb_i
   clear ho_i
   have hb_i:=b8;clear b8
   have gs:=bl hb_i
   refine oZ (tN (ds _ _ (sk fun gt dv=>(wt (oM rfl (oS rfl (Yk.lenRG D5 (RG.of (hmt.keep hE) (vr z.2.branches rfl)) (oM rfl (A3 [(0, .agg (refsC z).toArray),(1,PQ g 0),(2,(Value.slice none 0 0)),(3,NI 0),(4,PQ c 0),(5, .func (.func 14) #[] #[PQ c 0]),(6, .func (.func 16) #[] #[PQ c 0]),(7, .func (.func 18) #[] #[PQ c 0]),(9,z.2.branches),(24, .agg #[z.2.branches,z.2.tags]),(25,NI i),(32,z.2.branches),(33,NI ((z.1.branches).length)),(34,NI 0)] ⟨q,p,u,y,r,s,m,o,rfl,t,l,rfl,rfl,rfl,trivial⟩ fun gu ⟨q,p,u,y,r,s,m,o,T9,t,l,ad,ae,aa,_⟩=>(tN (dv _ _ (Av (A4 (fun(ρ:Au) (wz:World)=>∃j:Nat,∃vb_j:Value,ρ 0=(.agg (refsC z).toArray:Value)∧ρ 1=(PQ g 0:Value)∧ρ 2=((Value.slice none 0 0):Value)∧ρ 3=(NI 0:Value)∧ρ 4=(PQ c 0:Value)∧ρ 5=(.func (.func 14) #[] #[PQ c 0]:Value)∧ρ 6=(.func (.func 16) #[] #[PQ c 0]:Value)∧ρ 7=(.func (.func 18) #[] #[PQ c 0]:Value)∧ρ 9=(z.2.branches:Value)∧ρ 24=(.agg #[z.2.branches,z.2.tags]:Value)∧ρ 25=(NI i:Value)∧ρ 32=(z.2.branches:Value)∧ρ 33=(NI ((z.1.branches).length):Value)∧ρ 34=(NI j:Value)∧Ext w wz∧wz.heap[g]? =some (.cells (refsC z).toArray 35 (0,0))∧Ext a8 wz∧wz.heap[c]? =some (.cells ([vb_j]).toArray 28 (0,0))∧wz.ownsRow w.heap.size 5 1 vb_j (((lsB z.1 i:List UInt8)++Lib.uvarint ((z.1.branches).length):List UInt8)++(z.1.branches.take j).flatMap Ci:List UInt8).length (Lib.byteCells (((lsB z.1 i:List UInt8)++Lib.uvarint ((z.1.branches).length):List UInt8)++(z.1.branches.take j).flatMap Ci))∧(j≤z.1.branches.length)∧(OB vb_j g)∧(OB vb_j c)∧True) (fun ρ _=>z.1.branches.length-(intOf (ρ 34)).toNat) ⟨0,bm,q,p,u,y,r,s,m,o,T9,t,l,ad,ae,aa,hE,f,h,hb_i,BW ao (by simp),Nat.zero_le _,dt,du,trivial⟩ ?_)))))))))))))
   clear hb_i
   clear ao
   clear hE f h
   rintro dw gv ⟨j,vb_j,q,p,u,y,r,s,m,o,T9,t,l,ad,ae,aa,hE,f,h,hb_j,ho_j,hij,hap_n2j,hap_n16j,-⟩
   have q34:=aa
   have hglj:=(bl hb_j)
   refine sk fun gw dx=>(wt (oS rfl (Yk.eqI (a:=(j:Nat)) (b:=((z.1.branches).length:Nat)) aa ae (AX _ _ _ _) (oZ (tN (dx _ _ (sk fun gx dy=> ?_)))))))
   refine AL ((j)<((z.1.branches).length)) (vr (.bool (decide ((j)<((z.1.branches).length)))) rfl) (fun ax=> ?_) (fun ax=> ?_)
   ·have hltj:j<z.1.branches.length:=ax
    have hnl:=hR.bn _ (CB dNmd hltj)
    have htl:=Ca hnl (by omega)
    have hfl:=Gs hR.bl hR.bn j
    have hidl:(z.1.branches.getD j dNmd).id.1.length=32:=(z.1.branches.getD j dNmd).id.2
    refine Aq (tN (dy _ _ (sk fun gy dz=>(Av (sk fun gz d0=>(wt ?_))))))
    have g0:(nmdC ((z.1.branches).getD (j) dNmd)).length=33:=(RG.elem (hmt.keep hE) dNmd (hltj))
    refine oS rfl (Yk.atRG D5 Iw (by decide) dNmd (RG.of (hmt.keep hE) ad) aa (hltj) fun d1 b9=>(oS rfl (Yk.loadPR (PR.of b9 (vr d1 rfl)) (NF).choose_spec rfl (by rw[Bq];exact Ix) (oS rfl (Yk.alloc (cs:=(nmdC (⟨[],zid⟩:AK)).toArray) NG fun ah d2 ca cb ay g1=> ?_)))))
    have d3:=hE.size
    have d4:=h.size
    have g2:=Bc (bl f) ca
    have g3:=Bc (bl hb_j) ca
    have d5:OB vb_j ah:=CY ho_j (by omega)
    have hE:=hE.trans ay
    have f:=eb ay f
    have h:=h.trans ay
    have hb_j:=eb ay hb_j
    have ho_j:=Stab.own _ _ _ _ _ _ _ _ ho_j ay
    have ak:=cb;clear cb
    have g4:ah<d2.heap.size:=by omega
    refine oS rfl (Yk.storeAll (vr (PQ ah 0) rfl) (vr (.agg (nmdC ((z.1.branches).getD (j) dNmd)).toArray) rfl) ak (by simp only[List.size_toArray,Bq]) (AC (Bq _) Ix) (CL (x:=((z.1.branches).getD (j) dNmd))) fun d6 cc az g5=> ?_)
    have hE:=Af hE az (Nat.le_trans d3 (by omega))
    have f:=kb az f (by omega)
    have h:=Af h az (Nat.le_trans d4 (by omega))
    have hb_j:=kb az hb_j (by omega)
    have ho_j:=Df ho_j az d5
    clear ak
    have ak:d6.heap[ah]? =some (.cells (nmdC ((z.1.branches).getD (j) dNmd)).toArray 60 (0,0)):=cc;clear cc
    have g6:=bl ak
    refine oZ ?_
    clear b9
    refine tN (d0 _ _ (sk fun g7 d7=>(wt (oM rfl (oS rfl (Yk.fieldAt FJ (vr (PQ ah 0) rfl) (oS rfl (Yk.cell1 DT rfl (vr (PQ ah 0) rfl) (Al ak (show(nmdC ((z.1.branches).getD (j) dNmd))[0]? =some (St ((((z.1.branches).getD (j) dNmd)).name):Value)from Ed ((z.1.branches).getD (j) dNmd))) (oS rfl (Yk.clo EG (caps:= #[PQ c 0]) m #[St ((((z.1.branches).getD (j) dNmd)).name),PQ c 0] (by simp only[List.map_toArray,List.map_cons,List.map_nil,List.append_toArray,List.cons_append,List.nil_append];exact congrArg List.toArray (CZ (vr (St ((((z.1.branches).getD (j) dNmd)).name)) rfl) rfl)) ((EE w _ hE c (by omega) vb_j (((lsB z.1 i:List UInt8)++Lib.uvarint ((z.1.branches).length):List UInt8)++(z.1.branches.take j).flatMap Ci) hb_j (RB.ofOwn ho_j) ((((z.1.branches).getD (j) dNmd)).name) (by(try simp only[List.length_append,List.length_cons,List.length_nil]);omega)).mono ?_)))))))))))
    rintro e g8 ⟨d8,rfl,cd,a9,ba⟩
    refine⟨_,rfl,?_⟩
    have a9:=Bg a9 hE.size
    have hE:=Af hE ba (Nat.le_trans ag (by omega))
    have f:=kb ba f (by omega)
    have h:=Af h ba (Nat.le_trans (Nat.le_refl _) (by omega))
    have ak:=kb ba ak (by omega)
    clear hb_j
    clear ho_j
    have hb_j:=cd;clear cd
    have g9:=bl hb_j
    refine oZ (tN (d7 _ _ (wt (oM rfl (oS rfl (Yk.fieldAt LT (vr (PQ ah 0) rfl) (oS rfl (Yk.loadPR (PR.blk ak (FX ((z.1.branches).getD (j) dNmd)) (FY ((z.1.branches).getD (j) dNmd)) (vr (PQ ah 1) rfl)) P8 rfl (At (((z.1.branches).getD (j) dNmd)).id.2) (oS rfl (Yk.clo EH (caps:= #[PQ c 0]) o #[AB ((((z.1.branches).getD (j) dNmd)).id.1),PQ c 0] (by simp only[List.map_toArray,List.map_cons,List.map_nil,List.append_toArray,List.cons_append,List.nil_append];exact congrArg List.toArray (CZ (vr (AB ((((z.1.branches).getD (j) dNmd)).id.1)) rfl) rfl)) ((EF w _ hE c (by omega) d8 ((((lsB z.1 i:List UInt8)++Lib.uvarint ((z.1.branches).length):List UInt8)++(z.1.branches.take j).flatMap Ci:List UInt8)++Bd ((((z.1.branches).getD (j) dNmd)).name)) hb_j (RB.ofOwn a9) ((((z.1.branches).getD (j) dNmd)).id) (by(try simp only[List.length_append,List.length_cons,List.length_nil]);omega)).mono ?_)))))))))))
    rintro e ha ⟨bp,rfl,ce,a0,bq⟩
    refine⟨_,rfl,?_⟩
    have d9:OB bp g:=Be a0 (bl f)
    have ea:OB bp c:=Be a0 (bl hb_j)
    have a0:=Bg a0 hE.size
    have hE:=Af hE bq (Nat.le_trans ag (by omega))
    have f:=kb bq f (by omega)
    have h:=Af h bq (Nat.le_trans (Nat.le_refl _) (by omega))
    clear hb_j
    clear a9
    have hb_j:=ce;clear ce
    have hc:=bl hb_j
    refine oZ (bN (tN (dz _ _ (wt (oS rfl (Yk.bin (xv:=NI j) (yv:=NI 1) aa rfl rfl (AA _ _ _ (by omega)) (oM rfl (A3 [(0, .agg (refsC z).toArray),(1,PQ g 0),(2,(Value.slice none 0 0)),(3,NI 0),(4,PQ c 0),(5, .func (.func 14) #[] #[PQ c 0]),(6, .func (.func 16) #[] #[PQ c 0]),(7, .func (.func 18) #[] #[PQ c 0]),(9,z.2.branches),(11,PQ ah 0),(24, .agg #[z.2.branches,z.2.tags]),(25,NI i),(32,z.2.branches),(33,NI ((z.1.branches).length)),(34,NI ((j)+(1)))] ⟨q,p,u,y,r,s,m,o,T9,rfl,t,l,ad,ae,rfl,trivial⟩ fun ec ⟨q,p,u,y,r,s,m,o,T9,ed,t,l,ad,ae,aa,_⟩=>(tN (And.intro ⟨j+1,bp,q,p,u,y,r,s,m,o,T9,t,l,ad,ae,aa,hE,f,h,hb_j,BW a0 (by rw[CM dNmd hltj];simp only[Ci,List.append_assoc]),by omega,d9,ea,trivial⟩ ?_))))))))))
    show z.1.branches.length-(intOf (ec 34)).toNat<z.1.branches.length-(intOf (dw 34)).toNat
    rw[aa,q34]
    simp only[intOf,Int.toNat_natCast];omega
   have hje:j=z.1.branches.length:=by omega
   refine AP (Ar (Ar (Az (bN (tN (dq _ _ (wt (oS rfl (Yk.bin (xv:=NI i) (yv:=NI 1) l rfl rfl (AA _ _ _ (by omega)) (oM rfl (A3 [(0, .agg (refsC z).toArray),(1,PQ g 0),(2,(Value.slice none 0 0)),(3,NI 0),(4,PQ c 0),(5, .func (.func 14) #[] #[PQ c 0]),(6, .func (.func 16) #[] #[PQ c 0]),(7, .func (.func 18) #[] #[PQ c 0]),(9,z.2.branches),(24, .agg #[z.2.branches,z.2.tags]),(25,NI ((i)+(1))),(32,z.2.branches),(33,NI ((z.1.branches).length)),(34,NI j)] ⟨q,p,u,y,r,s,m,o,T9,t,rfl,ad,ae,aa,trivial⟩ fun ee ⟨q,p,u,y,r,s,m,o,T9,t,l,ad,ae,aa,_⟩=>(tN (And.intro ⟨i+1,vb_j,q,p,u,y,r,s,m,o,t,l,hE,f,h,hb_j,BW ho_j (by rw[IT h0,Hw (show i+1=1 by omega),hje,List.take_length];simp[Ej]),by omega,hap_n2j,hap_n16j,trivial⟩ ?_)))))))))))))
   show 2-(intOf (ee 25)).toNat<2-(intOf (b6 25)).toNat
   rw[l,q25]
   simp only[intOf,Int.toNat_natCast];omega
  have dp:=Cx (n:=z.1.tags.length) (by have:=hR.tl;omega)
  refine Aq (tN (b7 _ _ (sk fun he ef=>(Av (sk fun hf eg=>(wt (oS rfl (Yk.arr2at (PY (RG.slice (hmt.keep hE)) (RG.slice (hmg.keep hE))) t ((show _=NI i from l).trans (by rw[h0])) (oA rfl (oZ (tN (eg _ _ (sk fun hg eh=>(wt (oM rfl (oM rfl (oS rfl (Yk.lenRG D5 (RG.of (hmg.keep hE) (vr z.2.tags rfl)) (oS rfl (Yk.clo Hh (caps:= #[PQ c 0]) s #[NI ((z.1.tags).length),PQ c 0] (by simp only[List.map_toArray,List.map_cons,List.map_nil,List.append_toArray,List.cons_append,List.nil_append];exact congrArg List.toArray (CZ (vr (NI ((z.1.tags).length)) rfl) rfl)) ?_))))))))))))))))))))
  refine(Hg w _ hE c (by omega) vb_i (lsB z.1 i) hb_i (RB.ofOwn ho_i) ((z.1.tags).length) (by(try simp only[List.length_append,List.length_cons,List.length_nil]);omega) (by omega)).mono ?_
  rintro e hh ⟨br,rfl,cf,ap,bs⟩
  refine⟨_,rfl,?_⟩
  have ei:OB br g:=Be ap (bl f)
  have ej:OB br c:=Be ap (bl hb_i)
  have ap:=Bg ap hE.size
  have hE:=Af hE bs (Nat.le_trans ag (by omega))
  have f:=kb bs f (by omega)
  have h:=Af h bs (Nat.le_trans (Nat.le_refl _) (by omega))
  clear hb_i
  clear ho_i
  have hb_i:=cf;clear cf
  have hi:=bl hb_i
  refine oZ (tN (eh _ _ (sk fun hj el=>(wt (oM rfl (oS rfl (Yk.lenRG D5 (RG.of (hmg.keep hE) (vr z.2.tags rfl)) (oM rfl (A3 [(0, .agg (refsC z).toArray),(1,PQ g 0),(2,(Value.slice none 0 0)),(3,NI 0),(4,PQ c 0),(5, .func (.func 14) #[] #[PQ c 0]),(6, .func (.func 16) #[] #[PQ c 0]),(7, .func (.func 18) #[] #[PQ c 0]),(9,z.2.tags),(24, .agg #[z.2.branches,z.2.tags]),(25,NI i),(32,z.2.tags),(33,NI ((z.1.tags).length)),(34,NI 0)] ⟨q,p,u,y,r,s,m,o,rfl,t,l,rfl,rfl,rfl,trivial⟩ fun hk ⟨q,p,u,y,r,s,m,o,T9,t,l,ad,ae,aa,_⟩=>(tN (el _ _ (Av (A4 (fun(ρ:Au) (wz:World)=>∃j:Nat,∃vb_j:Value,ρ 0=(.agg (refsC z).toArray:Value)∧ρ 1=(PQ g 0:Value)∧ρ 2=((Value.slice none 0 0):Value)∧ρ 3=(NI 0:Value)∧ρ 4=(PQ c 0:Value)∧ρ 5=(.func (.func 14) #[] #[PQ c 0]:Value)∧ρ 6=(.func (.func 16) #[] #[PQ c 0]:Value)∧ρ 7=(.func (.func 18) #[] #[PQ c 0]:Value)∧ρ 9=(z.2.tags:Value)∧ρ 24=(.agg #[z.2.branches,z.2.tags]:Value)∧ρ 25=(NI i:Value)∧ρ 32=(z.2.tags:Value)∧ρ 33=(NI ((z.1.tags).length):Value)∧ρ 34=(NI j:Value)∧Ext w wz∧wz.heap[g]? =some (.cells (refsC z).toArray 35 (0,0))∧Ext a8 wz∧wz.heap[c]? =some (.cells ([vb_j]).toArray 28 (0,0))∧wz.ownsRow w.heap.size 5 1 vb_j (((lsB z.1 i:List UInt8)++Lib.uvarint ((z.1.tags).length):List UInt8)++(z.1.tags.take j).flatMap Ci:List UInt8).length (Lib.byteCells (((lsB z.1 i:List UInt8)++Lib.uvarint ((z.1.tags).length):List UInt8)++(z.1.tags.take j).flatMap Ci))∧(j≤z.1.tags.length)∧(OB vb_j g)∧(OB vb_j c)∧True) (fun ρ _=>z.1.tags.length-(intOf (ρ 34)).toNat) ⟨0,br,q,p,u,y,r,s,m,o,T9,t,l,ad,ae,aa,hE,f,h,hb_i,BW ap (by simp),Nat.zero_le _,ei,ej,trivial⟩ ?_)))))))))))))
  clear hb_i
  clear ap
  clear hE f h
  rintro em hl ⟨j,vb_j,q,p,u,y,r,s,m,o,T9,t,l,ad,ae,aa,hE,f,h,hb_j,ho_j,hij,hap_n2j,hap_n16j,-⟩
  have q34:=aa
  have hglj:=(bl hb_j)
  refine sk fun hn en=>(wt (oS rfl (Yk.eqI (a:=(j:Nat)) (b:=((z.1.tags).length:Nat)) aa ae (AX _ _ _ _) (oZ (tN (en _ _ (sk fun ho eo=> ?_)))))))
  refine AL ((j)<((z.1.tags).length)) (vr (.bool (decide ((j)<((z.1.tags).length)))) rfl) (fun ax=> ?_) (fun ax=> ?_)
  ·have hltj:j<z.1.tags.length:=ax
   have hnl:=hR.tn _ (CB dNmd hltj)
   have htl:=Ca hnl (by omega)
   have hfl:=Gs hR.tl hR.tn j
   have hidl:(z.1.tags.getD j dNmd).id.1.length=32:=(z.1.tags.getD j dNmd).id.2
   refine Aq (tN (eo _ _ (sk fun hp ep=>(Av (sk fun hq eq=>(wt ?_))))))
   have hr:(nmdC ((z.1.tags).getD (j) dNmd)).length=33:=(RG.elem (hmg.keep hE) dNmd (hltj))
   refine oS rfl (Yk.atRG D5 Iw (by decide) dNmd (RG.of (hmg.keep hE) ad) aa (hltj) fun er cg=>(oS rfl (Yk.loadPR (PR.of cg (vr er rfl)) (NF).choose_spec rfl (by rw[Bq];exact Ix) (oS rfl (Yk.alloc (cs:=(nmdC (⟨[],zid⟩:AK)).toArray) NG fun ai es ch ci a1 hs=> ?_)))))
   have et:=hE.size
   have eu:=h.size
   have ht:=Bc (bl f) ch
   have hu:=Bc (bl hb_j) ch
   have ew:OB vb_j ai:=CY ho_j (by omega)
   have hE:=hE.trans a1
   have f:=eb a1 f
   have h:=h.trans a1
   have hb_j:=eb a1 hb_j
   have ho_j:=Stab.own _ _ _ _ _ _ _ _ ho_j a1
   have al:=ci;clear ci
   have hv:ai<es.heap.size:=by omega
   refine oS rfl (Yk.storeAll (vr (PQ ai 0) rfl) (vr (.agg (nmdC ((z.1.tags).getD (j) dNmd)).toArray) rfl) al (by simp only[List.size_toArray,Bq]) (AC (Bq _) Ix) (CL (x:=((z.1.tags).getD (j) dNmd))) fun ex cj a2 hw=> ?_)
   have hE:=Af hE a2 (Nat.le_trans et (by omega))
   have f:=kb a2 f (by omega)
   have h:=Af h a2 (Nat.le_trans eu (by omega))
   have hb_j:=kb a2 hb_j (by omega)
   have ho_j:=Df ho_j a2 ew
   clear al
   have al:ex.heap[ai]? =some (.cells (nmdC ((z.1.tags).getD (j) dNmd)).toArray 60 (0,0)):=cj;clear cj
   have hx:=bl al
   refine oZ ?_
   clear cg
   refine tN (eq _ _ (sk fun hy ey=>(wt (oM rfl (oS rfl (Yk.fieldAt FJ (vr (PQ ai 0) rfl) (oS rfl (Yk.cell1 DT rfl (vr (PQ ai 0) rfl) (Al al (show(nmdC ((z.1.tags).getD (j) dNmd))[0]? =some (St ((((z.1.tags).getD (j) dNmd)).name):Value)from Ed ((z.1.tags).getD (j) dNmd))) (oS rfl (Yk.clo EG (caps:= #[PQ c 0]) m #[St ((((z.1.tags).getD (j) dNmd)).name),PQ c 0] (by simp only[List.map_toArray,List.map_cons,List.map_nil,List.append_toArray,List.cons_append,List.nil_append];exact congrArg List.toArray (CZ (vr (St ((((z.1.tags).getD (j) dNmd)).name)) rfl) rfl)) ((EE w _ hE c (by omega) vb_j (((lsB z.1 i:List UInt8)++Lib.uvarint ((z.1.tags).length):List UInt8)++(z.1.tags.take j).flatMap Ci) hb_j (RB.ofOwn ho_j) ((((z.1.tags).getD (j) dNmd)).name) (by(try simp only[List.length_append,List.length_cons,List.length_nil]);omega)).mono ?_)))))))))))
   rintro e hz ⟨ez,rfl,ck,bb,bc⟩
   refine⟨_,rfl,?_⟩
   have bb:=Bg bb hE.size
   have hE:=Af hE bc (Nat.le_trans ag (by omega))
   have f:=kb bc f (by omega)
   have h:=Af h bc (Nat.le_trans (Nat.le_refl _) (by omega))
   have al:=kb bc al (by omega)
   clear hb_j
   clear ho_j
   have hb_j:=ck;clear ck
   have h1:=bl hb_j
   refine oZ (tN (ey _ _ (wt (oM rfl (oS rfl (Yk.fieldAt LT (vr (PQ ai 0) rfl) (oS rfl (Yk.loadPR (PR.blk al (FX ((z.1.tags).getD (j) dNmd)) (FY ((z.1.tags).getD (j) dNmd)) (vr (PQ ai 1) rfl)) P8 rfl (At (((z.1.tags).getD (j) dNmd)).id.2) (oS rfl (Yk.clo EH (caps:= #[PQ c 0]) o #[AB ((((z.1.tags).getD (j) dNmd)).id.1),PQ c 0] (by simp only[List.map_toArray,List.map_cons,List.map_nil,List.append_toArray,List.cons_append,List.nil_append];exact congrArg List.toArray (CZ (vr (AB ((((z.1.tags).getD (j) dNmd)).id.1)) rfl) rfl)) ((EF w _ hE c (by omega) ez ((((lsB z.1 i:List UInt8)++Lib.uvarint ((z.1.tags).length):List UInt8)++(z.1.tags.take j).flatMap Ci:List UInt8)++Bd ((((z.1.tags).getD (j) dNmd)).name)) hb_j (RB.ofOwn bb) ((((z.1.tags).getD (j) dNmd)).id) (by(try simp only[List.length_append,List.length_cons,List.length_nil]);omega)).mono ?_)))))))))))
   rintro e h2 ⟨bt,rfl,cl,a3,bu⟩
   refine⟨_,rfl,?_⟩
   have e0:OB bt g:=Be a3 (bl f)
   have e1:OB bt c:=Be a3 (bl hb_j)
   have a3:=Bg a3 hE.size
   have hE:=Af hE bu (Nat.le_trans ag (by omega))
   have f:=kb bu f (by omega)
   have h:=Af h bu (Nat.le_trans (Nat.le_refl _) (by omega))
   clear hb_j
   clear bb
   have hb_j:=cl;clear cl
   have h3:=bl hb_j
   refine oZ (bN (tN (ep _ _ (wt (oS rfl (Yk.bin (xv:=NI j) (yv:=NI 1) aa rfl rfl (AA _ _ _ (by omega)) (oM rfl (A3 [(0, .agg (refsC z).toArray),(1,PQ g 0),(2,(Value.slice none 0 0)),(3,NI 0),(4,PQ c 0),(5, .func (.func 14) #[] #[PQ c 0]),(6, .func (.func 16) #[] #[PQ c 0]),(7, .func (.func 18) #[] #[PQ c 0]),(9,z.2.tags),(11,PQ ai 0),(24, .agg #[z.2.branches,z.2.tags]),(25,NI i),(32,z.2.tags),(33,NI ((z.1.tags).length)),(34,NI ((j)+(1)))] ⟨q,p,u,y,r,s,m,o,T9,rfl,t,l,ad,ae,rfl,trivial⟩ fun e2 ⟨q,p,u,y,r,s,m,o,T9,ed,t,l,ad,ae,aa,_⟩=>(tN (And.intro ⟨j+1,bt,q,p,u,y,r,s,m,o,T9,t,l,ad,ae,aa,hE,f,h,hb_j,BW a3 (by rw[CM dNmd hltj];simp only[Ci,List.append_assoc]),by omega,e0,e1,trivial⟩ ?_))))))))))
   show z.1.tags.length-(intOf (e2 34)).toNat<z.1.tags.length-(intOf (em 34)).toNat
   rw[aa,q34]
   simp only[intOf,Int.toNat_natCast];omega
  have hje:j=z.1.tags.length:=by omega
  refine AP (Ar (Ar (Az (bN (tN (ef _ _ (wt (oS rfl (Yk.bin (xv:=NI i) (yv:=NI 1) l rfl rfl (AA _ _ _ (by omega)) (oM rfl (A3 [(0, .agg (refsC z).toArray),(1,PQ g 0),(2,(Value.slice none 0 0)),(3,NI 0),(4,PQ c 0),(5, .func (.func 14) #[] #[PQ c 0]),(6, .func (.func 16) #[] #[PQ c 0]),(7, .func (.func 18) #[] #[PQ c 0]),(9,z.2.tags),(24, .agg #[z.2.branches,z.2.tags]),(25,NI ((i)+(1))),(32,z.2.tags),(33,NI ((z.1.tags).length)),(34,NI j)] ⟨q,p,u,y,r,s,m,o,T9,t,rfl,ad,ae,aa,trivial⟩ fun e3 ⟨q,p,u,y,r,s,m,o,T9,t,l,ad,ae,aa,_⟩=>(tN (And.intro ⟨i+1,vb_j,q,p,u,y,r,s,m,o,t,l,hE,f,h,hb_j,BW ho_j (by rw[Hw h0,IU (show i+1=2 by omega),hje,List.take_length];simp only[Ej,List.append_assoc]),by omega,hap_n2j,hap_n16j,trivial⟩ ?_)))))))))))))
  show 2-(intOf (e3 25)).toNat<2-(intOf (b6 25)).toNat
  rw[l,q25]
  simp only[intOf,Int.toNat_natCast];omega
 have hie:i=2:=by omega
 have hll:=Hx hR i
 have hhd:=hR.hd
 have htl:=Ca hhd (by omega)
 have hul:=Cx (n:=z.1.log.length) (by have:=hR.ll;omega)
 have hal:z.1.at_.1.length=32:=z.1.at_.2
 refine AP (Ar (Ar (Az (tN (dk _ _ (sk fun h4 e4=>(wt (oM rfl (oS rfl (Yk.fieldAt FK p (oS rfl (Yk.cell1 DT rfl (vr (PQ g 2) rfl) (Al f (show(refsC z)[2]? =some (St (z.1.head):Value)from Cq z)) (oS rfl (Yk.clo EG (caps:= #[PQ c 0]) m #[St (z.1.head),PQ c 0] (by simp only[List.map_toArray,List.map_cons,List.map_nil,List.append_toArray,List.cons_append,List.nil_append];exact congrArg List.toArray (CZ (vr (St (z.1.head)) rfl) rfl)) ((EE w _ hE c (by omega) vb_i (lsB z.1 i) hb_i (RB.ofOwn ho_i) z.1.head (by(try simp only[List.length_append,List.length_cons,List.length_nil]);omega)).mono ?_)))))))))))))))
 rintro e h5 ⟨e5,rfl,cm,bd,cn⟩
 refine⟨_,rfl,?_⟩
 have bd:=Bg bd hE.size
 have hE:=Af hE cn (Nat.le_trans ag (by omega))
 have f:=kb cn f (by omega)
 clear hb_i
 clear ho_i
 have hb_i:=cm;clear cm
 have h6:=bl hb_i
 refine oZ (tN (e4 _ _ (sk fun h7 e6=>(wt (oM rfl (oS rfl (Yk.fieldAt HM p (oS rfl (Yk.loadPR (PR.blk f (B7 z) (Cm z) (vr (PQ g 3) rfl)) P8 rfl (At z.1.at_.2) (oS rfl (Yk.clo EH (caps:= #[PQ c 0]) o #[AB z.1.at_.1,PQ c 0] (by simp only[List.map_toArray,List.map_cons,List.map_nil,List.append_toArray,List.cons_append,List.nil_append];exact congrArg List.toArray (CZ (vr (AB z.1.at_.1) rfl) rfl)) ((EF w _ hE c (by omega) e5 ((lsB z.1 i:List UInt8)++Bd z.1.head) hb_i (RB.ofOwn bd) z.1.at_ (by(try simp only[List.length_append,List.length_cons,List.length_nil]);omega)).mono ?_))))))))))))
 rintro e h8 ⟨e7,rfl,co,be,cp⟩
 refine⟨_,rfl,?_⟩
 have be:=Bg be hE.size
 have hE:=Af hE cp (Nat.le_trans ag (by omega))
 have f:=kb cp f (by omega)
 clear hb_i
 clear bd
 have hb_i:=co;clear co
 have h9:=bl hb_i
 refine oZ (tN (e6 _ _ (sk fun ia e8=>(wt (oM rfl (oS rfl (Yk.fieldAt HK p (oS rfl (Yk.cell1 EA rfl (vr (PQ g 35) rfl) (Al f (show(refsC z)[35]? =some (z.2.log:Value)from Bn z)) (oS rfl (Yk.lenRG EA (RG.of (hml.keep hE) (vr z.2.log rfl)) (oS rfl (Yk.clo Hh (caps:= #[PQ c 0]) s #[NI ((z.1.log).length),PQ c 0] (by simp only[List.map_toArray,List.map_cons,List.map_nil,List.append_toArray,List.cons_append,List.nil_append];exact congrArg List.toArray (CZ (vr (NI ((z.1.log).length)) rfl) rfl)) ((Hg w _ hE c (by omega) e7 (((lsB z.1 i:List UInt8)++Bd z.1.head:List UInt8)++z.1.at_.1) hb_i (RB.ofOwn be) ((z.1.log).length) (by(try simp only[List.length_append,List.length_cons,List.length_nil]);omega) (by omega)).mono ?_))))))))))))))
 rintro e ib ⟨bv,rfl,cq,aq,cr⟩
 refine⟨_,rfl,?_⟩
 have e9:OB bv g:=Be aq (bl f)
 have fa:OB bv c:=Be aq (bl hb_i)
 have aq:=Bg aq hE.size
 have hE:=Af hE cr (Nat.le_trans ag (by omega))
 have f:=kb cr f (by omega)
 clear hb_i
 clear be
 have hb_i:=cq;clear cq
 have ic:=bl hb_i
 refine oZ (tN (e8 _ _ (sk fun ie fb=>(sk fun ig fc=>(wt (oS rfl (Yk.fieldAt HK p (oS rfl (Yk.cell1 EA rfl (vr (PQ g 35) rfl) (Al f (show(refsC z)[35]? =some (z.2.log:Value)from Bn z)) (oS rfl (Yk.lenRG EA (RG.of (hml.keep hE) (vr z.2.log rfl)) (oM rfl (A3 [(0, .agg (refsC z).toArray),(1,PQ g 0),(2,(Value.slice none 0 0)),(3,NI 0),(4,PQ c 0),(5, .func (.func 14) #[] #[PQ c 0]),(6, .func (.func 16) #[] #[PQ c 0]),(7, .func (.func 18) #[] #[PQ c 0]),(24, .agg #[z.2.branches,z.2.tags]),(25,NI i),(62,z.2.log),(63,NI ((z.1.log).length)),(64,NI 0)] ⟨q,p,u,y,r,s,m,o,t,l,rfl,rfl,rfl,trivial⟩ fun ih ⟨q,p,u,y,r,s,m,o,t,l,ar,au,aj,_⟩=>(tN (fc _ _ (Av (A4 (fun(ρ:Au) (wz:World)=>∃k:Nat,∃vb_k:Value,ρ 0=(.agg (refsC z).toArray:Value)∧ρ 1=(PQ g 0:Value)∧ρ 2=((Value.slice none 0 0):Value)∧ρ 3=(NI 0:Value)∧ρ 4=(PQ c 0:Value)∧ρ 5=(.func (.func 14) #[] #[PQ c 0]:Value)∧ρ 6=(.func (.func 16) #[] #[PQ c 0]:Value)∧ρ 7=(.func (.func 18) #[] #[PQ c 0]:Value)∧ρ 24=(.agg #[z.2.branches,z.2.tags]:Value)∧ρ 25=(NI i:Value)∧ρ 62=(z.2.log:Value)∧ρ 63=(NI ((z.1.log).length):Value)∧ρ 64=(NI k:Value)∧Ext w wz∧wz.heap[g]? =some (.cells (refsC z).toArray 35 (0,0))∧wz.heap[c]? =some (.cells ([vb_k]).toArray 28 (0,0))∧wz.ownsRow w.heap.size 5 1 vb_k (((((lsB z.1 i:List UInt8)++Bd z.1.head:List UInt8)++z.1.at_.1:List UInt8)++Lib.uvarint ((z.1.log).length):List UInt8)++(z.1.log.take k).flatMap Co:List UInt8).length (Lib.byteCells (((((lsB z.1 i:List UInt8)++Bd z.1.head:List UInt8)++z.1.at_.1:List UInt8)++Lib.uvarint ((z.1.log).length):List UInt8)++(z.1.log.take k).flatMap Co))∧(k≤z.1.log.length)∧(OB vb_k g)∧(OB vb_k c)∧True) (fun ρ _=>z.1.log.length-(intOf (ρ 64)).toNat) ⟨0,bv,q,p,u,y,r,s,m,o,t,l,ar,au,aj,hE,f,hb_i,BW aq (by simp),Nat.zero_le _,e9,fa,trivial⟩ ?_)))))))))))))))))
 clear h
 clear hb_i
 clear aq
 clear hE f
 rintro fd fe ⟨k,vb_k,q,p,u,y,r,s,m,o,t,l,ar,au,aj,hE,f,hb_k,ho_k,hik,hap_n2k,hap_n16k,-⟩
 have q64:=aj
 have hglk:=(bl hb_k)
 refine sk fun ii ff=>(wt (oS rfl (Yk.eqI (a:=(k:Nat)) (b:=((z.1.log).length:Nat)) aj au (AX _ _ _ _) (oZ (tN (ff _ _ (sk fun ij fg=> ?_)))))))
 refine AL ((k)<((z.1.log).length)) (vr (.bool (decide ((k)<((z.1.log).length)))) rfl) (fun ct=> ?_) (fun ct=> ?_)
 ·have hltk:k<z.1.log.length:=ct
  have hnn:=hR.ln _ (CB Ad hltk)
  have hkn:=hnn.1
  have hkm:=hnn.2
  have ht1:=Ca hkn (by omega)
  have ht2:=Ca hkm (by omega)
  have hfl:=Ly hR k
  have hol:(z.1.log.getD k Ad).old.1.length=32:=(z.1.log.getD k Ad).old.2
  have hnl:(z.1.log.getD k Ad).new.1.length=32:=(z.1.log.getD k Ad).new.2
  refine Aq (tN (fg _ _ (sk fun ik fh=>(Av (sk fun il fi=>(wt ?_))))))
  have im:(entC ((z.1.log).getD (k) Ad)).length=67:=(RG.elem (hml.keep hE) Ad (hltk))
  refine oS rfl (Yk.atRG EA MM (by decide) Ad (RG.of (hml.keep hE) ar) aj (hltk) fun fj cu=>(oS rfl (Yk.loadPR (PR.of cu (vr fj rfl)) (NH).choose_spec rfl (by rw[Bp];exact Iy) (oS rfl (Yk.alloc (cs:=(entC (⟨0,[],zid,zid,[]⟩:AM)).toArray) NJ fun ac fk cv cw a4 io=> ?_)))))
  have av:=Ext.refl fe
  have fl:=hE.size
  have ip:=Bc (bl f) cv
  have iq:=Bc (bl hb_k) cv
  have cx:OB vb_k ac:=CY ho_k (by omega)
  have hE:=hE.trans a4
  have f:=eb a4 f
  have hb_k:=eb a4 hb_k
  have ho_k:=Stab.own _ _ _ _ _ _ _ _ ho_k a4
  have av:=av.trans a4
  have ab:=cw;clear cw
  have ir:ac<fk.heap.size:=by omega
  refine oS rfl (Yk.storeAll (vr (PQ ac 0) rfl) (vr (.agg (entC ((z.1.log).getD (k) Ad)).toArray) rfl) ab (by simp only[List.size_toArray,Bp]) (AC (Bp _) Iy) (C7 (x:=((z.1.log).getD (k) Ad))) fun fm cy a5 iu=> ?_)
  have hE:=Af hE a5 (Nat.le_trans fl (by omega))
  have f:=kb a5 f (by omega)
  have hb_k:=kb a5 hb_k (by omega)
  have ho_k:=Df ho_k a5 cx
  have av:=Af av a5 (Nat.le_trans (Nat.le_refl _) (by omega))
  clear ab
  have ab:fm.heap[ac]? =some (.cells (entC ((z.1.log).getD (k) Ad)).toArray 50 (0,0)):=cy;clear cy
  have iv:=bl ab
  refine oZ ?_
  clear cu
  refine tN (fi _ _ (sk fun iw fo=>(wt (oS rfl (Yk.cell1 Ek rfl r (Al hb_k (show _=some (vb_k:Value)from rfl)) (oS rfl (Yk.fieldAt HN (vr (PQ ac 0) rfl) (oS rfl (Yk.fieldAt LW (vr (PQ ac 0) rfl) (oS rfl (Yk.cell1 u5 rfl (vr (PQ ac 0) rfl) (Al ab (show(entC ((z.1.log).getD (k) Ad))[0]? =some (B8 ((((z.1.log).getD (k) Ad)).kind):Value)from GP ((z.1.log).getD (k) Ad))) (oS rfl (Yk.lit1 (b:=(((z.1.log).getD (k) Ad)).kind) M7 (vr (B8 ((((z.1.log).getD (k) Ad)).kind)) rfl) fun fp fq am=> ?_)))))))))))))
  have ix:=hE.size
  have iy:=av.size
  have hE:=hE.trans am.ext
  have f:=eb am.ext f
  have hb_k:=eb am.ext hb_k
  have ho_k:=Stab.own _ _ _ _ _ _ _ _ ho_k am.ext
  have ab:=eb am.ext ab
  have cz:=am.own;clear am
  refine oS rfl (Yk.appendRB _ _ w.heap.size (.int .u8 0) Ek Ih rfl Ek (((((lsB z.1 i:List UInt8)++Bd z.1.head:List UInt8)++z.1.at_.1:List UInt8)++Lib.uvarint ((z.1.log).length):List UInt8)++(z.1.log.take k).flatMap Co) ([((((z.1.log).getD (k) Ad)).kind:UInt8)]) (B4 ho_k (vr vb_k rfl)) (RB.of (RB.ofOwn cz) (vr fp rfl)) (by(try simp only[List.length_append,List.length_cons,List.length_nil]);omega) hE.size fun a6 fr aw an=> ?_)
  have an:Grew fq fr vb_k a6:=an
  have fs:OB a6 c:=AU an hap_n16k (bl hb_k)
  have hE:=AZ hE an ho_k (Nat.le_refl _)
  have f:=AN f an hap_n2k
  have hb_k:=AN hb_k an hap_n16k
  clear av
  have ab:=AN ab an cx
  clear ho_k
  refine oS rfl (Yk.storeC (i:=0) (v:=a6) r (vr a6 rfl) hb_k (Nat.le_of_ble_eq_true rfl) Gu (DZ aw).1 (DZ aw).2 fun iz c0 bf i0=> ?_)
  have hE:=Af hE bf (Nat.le_trans ag (by omega))
  have f:=kb bf f (by omega)
  have ab:=kb bf ab (by omega)
  have aw:=Df aw bf fs
  clear hb_k
  have hb_k:=c0;clear c0
  have i1:=bl hb_k
  refine oZ ?_
  clear cz
  refine tN (fo _ _ (sk fun i2 ft=>(wt (oM rfl (oS rfl (Yk.fieldAt HN (vr (PQ ac 0) rfl) (oS rfl (Yk.fieldAt LY (vr (PQ ac 0) rfl) (oS rfl (Yk.cell1 DT rfl (vr (PQ ac 1) rfl) (Al ab (show(entC ((z.1.log).getD (k) Ad))[1]? =some (St ((((z.1.log).getD (k) Ad)).name):Value)from Il ((z.1.log).getD (k) Ad))) (oS rfl (Yk.clo EG (caps:= #[PQ c 0]) m #[St ((((z.1.log).getD (k) Ad)).name),PQ c 0] (by simp only[List.map_toArray,List.map_cons,List.map_nil,List.append_toArray,List.cons_append,List.nil_append];exact congrArg List.toArray (CZ (vr (St ((((z.1.log).getD (k) Ad)).name)) rfl) rfl)) ((EE w _ hE c (by omega) a6 (((((lsB z.1 i:List UInt8)++Bd z.1.head:List UInt8)++z.1.at_.1:List UInt8)++Lib.uvarint ((z.1.log).length):List UInt8)++(z.1.log.take k).flatMap Co++ [((((z.1.log).getD (k) Ad)).kind:UInt8)]) hb_k (RB.ofOwn aw) ((((z.1.log).getD (k) Ad)).name) (by(try simp only[List.length_append,List.length_cons,List.length_nil]);omega)).mono ?_)))))))))))))
  rintro e i3 ⟨fu,rfl,c1,bg,bw⟩
  refine⟨_,rfl,?_⟩
  have bg:=Bg bg hE.size
  have hE:=Af hE bw (Nat.le_trans ag (by omega))
  have f:=kb bw f (by omega)
  have ab:=kb bw ab (by omega)
  clear aw
  clear hb_k
  have hb_k:=c1;clear c1
  have i4:=bl hb_k
  refine oZ (tN (ft _ _ (sk fun i5 fv=>(wt (oM rfl (oS rfl (Yk.fieldAt HN (vr (PQ ac 0) rfl) (oS rfl (Yk.fieldAt HU (vr (PQ ac 0) rfl) (oS rfl (Yk.loadPR (PR.blk ab (FU ((z.1.log).getD (k) Ad)) (GQ ((z.1.log).getD (k) Ad)) (vr (PQ ac 2) rfl)) P8 rfl (At (((z.1.log).getD (k) Ad)).old.2) (oS rfl (Yk.clo EH (caps:= #[PQ c 0]) o #[AB ((((z.1.log).getD (k) Ad)).old.1),PQ c 0] (by simp only[List.map_toArray,List.map_cons,List.map_nil,List.append_toArray,List.cons_append,List.nil_append];exact congrArg List.toArray (CZ (vr (AB ((((z.1.log).getD (k) Ad)).old.1)) rfl) rfl)) ((EF w _ hE c (by omega) fu ((((((lsB z.1 i:List UInt8)++Bd z.1.head:List UInt8)++z.1.at_.1:List UInt8)++Lib.uvarint ((z.1.log).length):List UInt8)++(z.1.log.take k).flatMap Co++ [((((z.1.log).getD (k) Ad)).kind:UInt8)]:List UInt8)++Bd ((((z.1.log).getD (k) Ad)).name)) hb_k (RB.ofOwn bg) ((((z.1.log).getD (k) Ad)).old) (by(try simp only[List.length_append,List.length_cons,List.length_nil]);omega)).mono ?_))))))))))))))
  rintro e i6 ⟨fw,rfl,c2,bh,bx⟩
  refine⟨_,rfl,?_⟩
  have bh:=Bg bh hE.size
  have hE:=Af hE bx (Nat.le_trans ag (by omega))
  have f:=kb bx f (by omega)
  have ab:=kb bx ab (by omega)
  clear hb_k
  clear bg
  have hb_k:=c2;clear c2
  have i7:=bl hb_k
  refine oZ (tN (fv _ _ (sk fun i8 fx=>(wt (oM rfl (oS rfl (Yk.fieldAt HN (vr (PQ ac 0) rfl) (oS rfl (Yk.fieldAt HV (vr (PQ ac 0) rfl) (oS rfl (Yk.loadPR (PR.blk ab (FW ((z.1.log).getD (k) Ad)) (GR ((z.1.log).getD (k) Ad)) (vr (PQ ac 34) rfl)) P8 rfl (At (((z.1.log).getD (k) Ad)).new.2) (oS rfl (Yk.clo EH (caps:= #[PQ c 0]) o #[AB ((((z.1.log).getD (k) Ad)).new.1),PQ c 0] (by simp only[List.map_toArray,List.map_cons,List.map_nil,List.append_toArray,List.cons_append,List.nil_append];exact congrArg List.toArray (CZ (vr (AB ((((z.1.log).getD (k) Ad)).new.1)) rfl) rfl)) ((EF w _ hE c (by omega) fw (((((((lsB z.1 i:List UInt8)++Bd z.1.head:List UInt8)++z.1.at_.1:List UInt8)++Lib.uvarint ((z.1.log).length):List UInt8)++(z.1.log.take k).flatMap Co++ [((((z.1.log).getD (k) Ad)).kind:UInt8)]:List UInt8)++Bd ((((z.1.log).getD (k) Ad)).name):List UInt8)++((((z.1.log).getD (k) Ad)).old).1) hb_k (RB.ofOwn bh) ((((z.1.log).getD (k) Ad)).new) (by(try simp only[List.length_append,List.length_cons,List.length_nil]);omega)).mono ?_))))))))))))))
  rintro e i9 ⟨fy,rfl,c3,bi,bz⟩
  refine⟨_,rfl,?_⟩
  have bi:=Bg bi hE.size
  have hE:=Af hE bz (Nat.le_trans ag (by omega))
  have f:=kb bz f (by omega)
  have ab:=kb bz ab (by omega)
  clear hb_k
  clear bh
  have hb_k:=c3;clear c3
  have ja:=bl hb_k
  refine oZ (tN (fx _ _ (wt (oM rfl (oS rfl (Yk.fieldAt LX (vr (PQ ac 0) rfl) (oS rfl (Yk.cell1 DT rfl (vr (PQ ac 66) rfl) (Al ab (show(entC ((z.1.log).getD (k) Ad))[66]? =some (St ((((z.1.log).getD (k) Ad)).note):Value)from Fg ((z.1.log).getD (k) Ad))) (oS rfl (Yk.clo EG (caps:= #[PQ c 0]) m #[St ((((z.1.log).getD (k) Ad)).note),PQ c 0] (by simp only[List.map_toArray,List.map_cons,List.map_nil,List.append_toArray,List.cons_append,List.nil_append];exact congrArg List.toArray (CZ (vr (St ((((z.1.log).getD (k) Ad)).note)) rfl) rfl)) ((EE w _ hE c (by omega) fy ((((((((lsB z.1 i:List UInt8)++Bd z.1.head:List UInt8)++z.1.at_.1:List UInt8)++Lib.uvarint ((z.1.log).length):List UInt8)++(z.1.log.take k).flatMap Co++ [((((z.1.log).getD (k) Ad)).kind:UInt8)]:List UInt8)++Bd ((((z.1.log).getD (k) Ad)).name):List UInt8)++((((z.1.log).getD (k) Ad)).old).1:List UInt8)++((((z.1.log).getD (k) Ad)).new).1) hb_k (RB.ofOwn bi) ((((z.1.log).getD (k) Ad)).note) (by(try simp only[List.length_append,List.length_cons,List.length_nil]);omega)).mono ?_)))))))))))
  rintro e jb ⟨b0,rfl,c4,a7,c5⟩
  refine⟨_,rfl,?_⟩
  have fz:OB b0 g:=Be a7 (bl f)
  have f0:OB b0 c:=Be a7 (bl hb_k)
  have a7:=Bg a7 hE.size
  have hE:=Af hE c5 (Nat.le_trans ag (by omega))
  have f:=kb c5 f (by omega)
  clear hb_k
  clear bi
  have hb_k:=c4;clear c4
  have jc:=bl hb_k
  refine oZ (bN (tN (fh _ _ (wt (oS rfl (Yk.bin (xv:=NI k) (yv:=NI 1) aj rfl rfl (AA _ _ _ (by omega)) (oM rfl (A3 [(0, .agg (refsC z).toArray),(1,PQ g 0),(2,(Value.slice none 0 0)),(3,NI 0),(4,PQ c 0),(5, .func (.func 14) #[] #[PQ c 0]),(6, .func (.func 16) #[] #[PQ c 0]),(7, .func (.func 18) #[] #[PQ c 0]),(13,PQ ac 0),(24, .agg #[z.2.branches,z.2.tags]),(25,NI i),(62,z.2.log),(63,NI ((z.1.log).length)),(64,NI ((k)+(1)))] ⟨q,p,u,y,r,s,m,o,rfl,t,l,ar,au,rfl,trivial⟩ fun f1 ⟨q,p,u,y,r,s,m,o,jd,t,l,ar,au,aj,_⟩=>(tN (And.intro ⟨k+1,b0,q,p,u,y,r,s,m,o,t,l,ar,au,aj,hE,f,hb_k,BW a7 (by rw[CM Ad hltk];simp only[Co,List.append_assoc]),by omega,fz,f0,trivial⟩ ?_))))))))))
  show z.1.log.length-(intOf (f1 64)).toNat<z.1.log.length-(intOf (fd 64)).toNat
  rw[aj,q64]
  simp only[intOf,Int.toNat_natCast];omega
 have hke:k=z.1.log.length:=by omega
 refine AP (Ar (Ar (Az (tN (fb _ _ (sk fun je f2=>(wt (oS rfl (Yk.cell1 Ek rfl r (Al hb_k (show _=some (vb_k:Value)from rfl)) (oA rfl (oA rfl (oZ (tN (f2 _ _ (Am (Aj (fn:=Tryz.f5) _ rfl [vb_k,NI 0] (.tuple #[vb_k,NI 0]) rfl ⟨rfl,rfl,trivial⟩ ?_))))))))))))))))
 have hen:((((lsB z.1 i:List UInt8)++Bd z.1.head:List UInt8)++z.1.at_.1:List UInt8)++Lib.uvarint ((z.1.log).length):List UInt8)++(z.1.log.take k).flatMap Co=encR z.1:=by rw[IU hie,hke,List.take_length];simp only[encR,List.append_assoc]
 exact⟨vb_k,by rw[hrt];rfl,by rw[hrt,if_pos rfl,←hen];exact RB.ofOwn ho_k,hE⟩
open Go.RowKit
set_option maxRecDepth 100000
theorem M8{b:Bs}{s t:List AK × Nat}(h:CE b s=some t):t.1.length=s.1.length+1:=by
 unfold CE at h
 cases hn:EM b s.2 with
 | none=>rw[hn]at h;cases h
 | some x=>rw[hn]at h;cases h;simp
theorem OY:AI Tryz.prog 48:=fun _ _=>by kernel_rfl
theorem OZ:AI Tryz.prog 46:=fun _ _=>by kernel_rfl
theorem O0:AI Tryz.prog 47:=fun _ _=>by kernel_rfl
theorem Ku(z0:List UInt8)(z1:BS)(w:World):(Instr.build 60 #[(0,St z0),(1,AB z1.1)]).run Tryz.prog w = .ok (.agg (St (z0) :: (Lib.byteCells z1.1)).toArray) w:=by
 obtain⟨z1,k1⟩:=z1
 obtain⟨a1_0,a1_1,a1_2,a1_3,a1_4,a1_5,a1_6,a1_7,a1_8,a1_9,a1_10,a1_11,a1_12,a1_13,a1_14,a1_15,a1_16,a1_17,a1_18,a1_19,a1_20,a1_21,a1_22,a1_23,a1_24,a1_25,a1_26,a1_27,a1_28,a1_29,a1_30,a1_31,rfl⟩:=Fc k1
 exact Jf _ _ _ _ _ _ _ _ _ _ _ _ _ _ _ _ _ _ _ _ _ _ _ _ _ _ _ _ _ _ _ _ _ w
theorem O1:∀(cs:Array Value),cs.size=33→∀w:World,(Instr.buildSlice 33 1 #[(0, .agg cs)]).run Tryz.prog w = .ok (.slice (some ⟨w.heap.size,0,none⟩) 1 1) (w.alloc (.cells cs 60))
 | ⟨c0 :: c1 :: c2 :: c3 :: c4 :: c5 :: c6 :: c7 :: c8 :: c9 :: c10 :: c11 :: c12 :: c13 :: c14 :: c15 :: c16 :: c17 :: c18 :: c19 :: c20 :: c21 :: c22 :: c23 :: c24 :: c25 :: c26 :: c27 :: c28 :: c29 :: c30 :: c31 :: c32 :: []⟩,_,w=>N5 c0 c1 c2 c3 c4 c5 c6 c7 c8 c9 c10 c11 c12 c13 c14 c15 c16 c17 c18 c19 c20 c21 c22 c23 c24 c25 c26 c27 c28 c29 c30 c31 c32 w
set_option maxHeartbeats 1600000
theorem J7{w0 w:World}{r:Nat}{v:Value}{b:Bs}{i:Nat}(c:Ext w0 w)(hb:w.heap[r]? =some (.cells (Bz (Bj v b (i))).toArray 68 (0,0)))(hr:RB w0 v b)(lr:w0.heap.size≤r)(hi:i≤b.length)(hl:b.length≤4611686018427387904):
  Calls Tryz.prog 45 #[PQ r 0] w fun e w' =>(∃x,e = .returned x∧∃u l j,DM b i=some (l,j)∧u=x∧OG w.heap.size 60 33 nmdC w' u l∧w'.heap[r]? =some (.cells (Bz (Bj v b (j))).toArray 68 (0,0))∧j≤b.length∧w.grownBy w' (some r))∨∃ch,e = .panicked ch∧DM b i=none∧ch= [CS]∧w.grownBy w' (some r):=by
 have hsz0:=c.size
 have hapr:b= []∨OB v r:=by
   rcases b with _ | ⟨b0,b1⟩
   ·exact .inl rfl
   ·exact .inr fun e=>by have:=RB.lt hr (by simp) e;omega
 have hlr:=(bl hb)
 have hgr:=World.grownBy.refl w (some r)
 refine CP (args:= [PQ r 0]) Tryz.func45 rfl 19 rfl (Nat.le_of_ble_eq_true rfl) ?_
 intro al hb
 have g:al 0=(PQ r 0:Value):=hb.get 0
 clear hb
 refine sk fun K1 am=>(wt (oA rfl (oZ ?_)))
 have hrow0:OG w.heap.size 60 33 nmdC w (Value.slice none 0 0) ([]:List AK):=OG.nil _ _ _ _ _
 refine tN (am _ _ (sk fun K2 an=>(sk fun K3 ao=>(wt (oM rfl ?_)))))
 have ap:=OG.off hrow0 hb (by decide)
 refine oP rfl (Yp.callA2 OY g (vr (NI 64) rfl) ?_)
 refine AV (H1 _ r v b i hb (hr.keep c) hapr hi hl 64) ?_ ?_
 rotate_left
 ·
  rintro ch w7 ⟨hPx,rfl,hgx⟩
  refine AD (AD (A1 ?_))
  exact .inr ⟨_,rfl,PS hPx,rfl,Ab hgr hgx (fun _ e=> .inl e)⟩
 rintro v_ w9 ⟨n,j,hP,rfl,ae,aa⟩
 have hgr:w.grownBy w9 (some r):=Ab hgr aa (fun _ e=> .inl e)
 have c:=Af c aa (Nat.le_trans (Nat.le_refl _) lr)
 have hrow0:=OG.kept hrow0 aa ap
 clear hb
 have hb:=ae;clear ae
 have hle_j:=(F6 hi hP).1
 have bb:=bl hb
 refine oM rfl (A3 [(0,PQ r 0),(2,(Value.slice none 0 0)),(5,NI n),(6,NI 0)] ⟨g,rfl,rfl,rfl,trivial⟩ fun bc ⟨g,p,q,m,_⟩=> ?_)
 have hnl:=(F6 hi hP).2.1
 refine tN (ao _ _ (Av (A4 (fun(ρ:Au) (wz:World)=>∃k:Nat,∃j0:Nat,∃o:List AK,∃vo:Value,ρ 0=(PQ r 0:Value)∧ρ 5=(NI n:Value)∧ρ 6=(NI k:Value)∧ρ 2=(vo:Value)∧w.grownBy wz (some r)∧Ext w0 wz∧wz.heap[r]? =some (.cells (Bz (Bj v b (j0))).toArray 68 (0,0))∧OG w.heap.size 60 33 (nmdC) wz vo (o)∧(k≤n)∧(j0≤b.length)∧(CT (CE b) k ([],j)=some (o,j0))∧True) (fun ρ _=>n-(intOf (ρ 6)).toNat) ⟨0,j,[],(Value.slice none 0 0),g,q,m,p,hgr,c,hb,CR hrow0 (rfl),Nat.zero_le _,hle_j,rfl,trivial⟩ ?_)))
 clear hrow0
 clear hb
 clear hgr c
 rintro ar bd ⟨k,j0,o,vo,g,q,m,p,hgr,c,hb,hr_vo,hk,hj0,hit,-⟩
 have q6:=m
 refine sk fun be au=>(wt (oS rfl (Yk.eqI (a:=(k:Nat)) (b:=(n:Nat)) m q (AX _ _ _ _) (oZ (tN (au _ _ (sk fun bf av=> ?_)))))))
 refine AL ((k)<(n)) (vr (.bool (decide ((k)<(n)))) rfl) (fun af=> ?_) (fun af=> ?_)
 ·have hlt:k<n:=af
  have hol:o.length=k:=by have:=Ht (f:=CE b) (fun s t h=>M8 h) k hit;simpa using this
  refine Aq (tN (av _ _ (sk fun bg aw=>(Av (sk fun bh ax=>(wt (oM rfl ?_)))))))
  have ay:=OG.off hr_vo hb (by decide)
  refine oP rfl (Yp.callA1 OZ g ?_)
  refine AV (FC _ r v b j0 hb (hr.keep c) hapr hj0 hl) ?_ ?_
  rotate_left
  ·
   rintro ch bi ⟨hPx,rfl,hgx⟩
   refine AD (Bu (AD (AD (Bu (AD (A1 ?_))))))
   exact .inr ⟨_,rfl,OL hP hlt hit (RA hPx),rfl,Ab hgr hgx (fun _ e=> .inl e)⟩
  rintro v_ az ⟨d1,j1,hP1,rfl,ag,ab⟩
  have hgr:w.grownBy az (some r):=Ab hgr ab (fun _ e=> .inl e)
  have c:=Af c ab (Nat.le_trans (Nat.le_refl _) lr)
  have hr_vo:=OG.kept hr_vo ab ay
  clear hb
  have hb:=ag;clear ag
  have hle_j1:=(txtP_le hP1).1
  have bj:=bl hb
  refine oA rfl (oZ (tN (ax _ _ (wt (oM rfl (oM rfl (oM rfl ?_)))))))
  have a0:=OG.off hr_vo hb (by decide)
  refine oP rfl (Yp.callA1 O0 g ?_)
  refine AV (Hy _ r v b j1 hb (hr.keep c) hapr hle_j1 hl) ?_ ?_
  rotate_left
  ·
   rintro ch bk ⟨hPx,rfl,hgx⟩
   refine Bu (AD (AD (Bu (AD (A1 ?_)))))
   exact .inr ⟨_,rfl,OL hP hlt hit (RC hP1 hPx),rfl,Ab hgr hgx (fun _ e=> .inl e)⟩
  rintro v_ a1 ⟨d2,j2,hP2,rfl,ah,ac⟩
  have hgr:w.grownBy a1 (some r):=Ab hgr ac (fun _ e=> .inl e)
  have c:=Af c ac (Nat.le_trans (Nat.le_refl _) lr)
  have hr_vo:=OG.kept hr_vo ac a0
  clear hb
  have hb:=ah;clear ah
  have hle_j2:=IC hP2
  have bm:=bl hb
  refine oS rfl (Yk.build2 (vr (St (d1)) rfl) (vr (AB d2.1) rfl) (fun w=>Ku d1 d2 w) (oS rfl (Yk.lit1G (a:=(⟨d1,d2⟩:AK)) (enc:=nmdC) (vr (.agg (nmdC (⟨d1,d2⟩:AK)).toArray) rfl) (Bq _) O1 fun a2 ai aj z=> ?_)))
  have hgr:w.grownBy ai (some r):=Ab hgr z.grown (fun _ e=>by cases e)
  have c:=c.trans z
  have hr_vo:=hr_vo.keep z
  have hb:=eb z hb
  have a3:=OG.off hr_vo hb (by decide)
  refine oS rfl (Yk.appendRG _ _ w.heap.size _ 48 D5 wr30_ig60.choose_spec.1 wr30_ig60.choose_spec.2 D5 (o) ([(⟨d1,d2⟩:AK)]) (OG.of hr_vo p) (RG.of aj (vr a2 rfl)) (fun _ _=>CL) (by simp only[List.length_cons,List.length_nil];omega) (by simp only[List.length_cons,List.length_nil];omega) hgr.size fun ad ak a4 y=> ?_)
  have y:Grew ai ak vo ad:= .eqv p y
  have hgr:w.grownBy ak (some r):=Ab hgr y.by_ (fun _ e=> .inr (hr_vo.2.lt _ e).1)
  have c:=AZ c y hr_vo.2 hsz0
  have hb:=AN hb y a3
  clear aj
  clear hr_vo
  refine oA rfl (oZ (bN (tN (aw _ _ (wt (oS rfl (Yk.bin (xv:=NI k) (yv:=NI 1) m rfl rfl (AA _ _ _ (by omega)) (oM rfl (A3 [(0,PQ r 0),(2,ad),(3,St (d1)),(5,NI n),(6,NI ((k)+(1)))] ⟨g,rfl,rfl,q,rfl,trivial⟩ fun a5 ⟨g,p,T3,q,m,_⟩=>(tN (And.intro ⟨k+1,j2,o++ [⟨d1,d2⟩],ad,g,q,m,p,hgr,c,hb,CR a4 (rfl),by omega,hle_j2,QJ hit (RD hP1 hP2),trivial⟩ ?_)))))))))))
  show n-(intOf (a5 6)).toNat<n-(intOf (ar 6)).toNat
  rw[m,q6]
  simp only[intOf,Int.toNat_natCast];omega
 have hkn:k=n:=by omega
 subst hkn
 have hN:DM b i=some (o,j0):=(Lz hP).trans hit
 refine AP (Ar (Ar (Az (tN (an _ _ (sk fun bo a6=>(wt (oM rfl (oA rfl (oZ (tN (a6 _ _ (Am (CK (fn:=Tryz.f45) _ rfl [vo] (vo) rfl ⟨p,trivial⟩ ?_))))))))))))))
 exact .inl ⟨_,rfl,_,o,j0,hN,rfl,hr_vo,hb,hj0,hgr⟩
end Go.Proofs.YtmonlobfofkbdaaGreatDoor
