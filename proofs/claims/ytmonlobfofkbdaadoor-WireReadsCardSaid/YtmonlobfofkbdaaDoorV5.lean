/- Part 5 of what stands behind these statements: laws and walks of the functions that are reached. Conditions: those that each theorem names. -/
import Derived.Test.YtmonlobfofkbdaaDoorV4
set_option linter.unusedVariables false
set_option linter.unusedSimpArgs false
namespace Go.Proofs.YtmonlobfofkbdaaDoor
open Go.RowKit
set_option maxRecDepth 100000
theorem Gy:AN Tryd.prog 110:=fun _ _=>by kernel_rfl
theorem MD:AN Tryd.prog 112:=fun _ _=>by kernel_rfl
theorem ME:AN Tryd.prog 115:=fun _ _=>by kernel_rfl
theorem MF:AN Tryd.prog 116:=fun _ _=>by kernel_rfl
set_option maxHeartbeats 1600000
theorem MG(w:World)(r g m:Nat)(v:Value)(b:Bs)(i most:Nat)(hb:w.heap[r]? =some (.cells (A4 (AL v b (i))).toArray 111 (0,0)))(hr:RB w v b)(hap:b= []∨OB v r)(hi:i≤b.length)(hl:b.length≤4611686018427387904)(Inv:Nat→World→Prop)(Bad:World→Prop) 
  (h0:∀(n j:Nat) (w' :World),Bk b i=some (n,j)→n≤most→w'.heap[r]? =some (.cells (A4 (AL v b (j))).toArray 111 (0,0))→w.grownBy w' (some r)→Inv 0 w')
  (hstep:∀(n j k:Nat) (u:World),Bk b i=some (n,j)→k<n→Inv k u→Calls Tryd.prog 112 #[PQ g 0,PQ m 0] u fun e u' =>(∃x,e = .returned x∧x = .tuple #[]∧Inv (k+1) u')∨∃ch,e = .panicked ch∧ch= [BS]∧Bad u')
  (hbad:∀w' :World,(Bk b i=none∨∃n j,Bk b i=some (n,j)∧¬n≤most)→w.grownBy w' (some r)→Bad w'):
  Calls Tryd.prog 111 #[PQ r 0,NI most, .func (.func 112) #[] #[PQ g 0,PQ m 0]] w fun e w' =>(∃x,e = .returned x∧x = .tuple #[]∧∃n j,Bk b i=some (n,j)∧n≤most∧Inv n w')∨∃ch,e = .panicked ch∧ch= [BS]∧Bad w' :=by
 have hlr:=(bl hb)
 have hgr:=World.grownBy.refl w (some r)
 refine BN (args:= [PQ r 0,NI most, .func (.func 112) #[] #[PQ g 0,PQ m 0]]) Tryd.func111 rfl 19 rfl (Nat.le_of_ble_eq_true rfl) ?_
 intro s hb
 have h:s 0=(PQ r 0:Value):=hb.get 0
 have l:s 1=(NI most:Value):=hb.get 1
 have o:s 2=(.func (.func 112) #[] #[PQ g 0,PQ m 0]:Value):=hb.get 2
 clear hb
 have hE:=Ext.refl w
 refine sk fun K1 y=>(wt (oM rfl (oP rfl (Yp.callA1 Gy h ?_))))
 refine Ar (Cy _ r v b i hb (hr.keep hE) hap hi hl) ?_ ?_
 rotate_left
 ·
  rintro ch w2 ⟨hP,rfl,hgn⟩
  refine Aq (postP_panic ?_)
  exact .inr ⟨_,rfl,rfl,hbad _ (.inl hP) (Ag hgr hgn (fun _ e=> .inl e))⟩
 rintro v_ z ⟨c,j,hP,rfl,hbn,hgn⟩
 clear hb
 have hgr:w.grownBy z (some r):=Ag hgr hgn (fun _ e=> .inl e)
 clear hE
 have hb:=hbn;clear hbn
 refine oA rfl (oZ (tN (y _ _ (sk fun K5 aa=>(wt (oM rfl (oM rfl (oS rfl (Yk.eqI (a:=(c:Nat)) (b:=(most:Nat)) rfl l (CC _ _ _ _) (oP rfl (Yp.callA1 CQ (vr (.bool (decide ((c)≤(most)))) rfl) ?_)))))))))))
 refine Ar (AZ _ (decide ((c)≤(most)))) ?_ ?_
 rotate_left
 ·
  rintro ch w8 ⟨rfl,hb,hx⟩
  refine Aq (postP_panic ?_)
  have hno:=of_decide_eq_false hb
  exact .inr ⟨_,rfl,rfl,hbad _ (.inr ⟨c,j,hP,by omega⟩) (Ag hgr hx.grown (fun _ e=>by cases e))⟩
 rintro v_ ab ⟨rfl,ac,t⟩
 have hgr:w.grownBy ab (some r):=Ag hgr t.grown (fun _ e=>by cases e)
 have hb:=eb t hb
 have ad:=of_decide_eq_true ac
 refine oZ ?_
 have hle:=ad
 have hcl:=GQ hP
 refine tN (aa _ _ (sk fun ap ae=>(wt (oM rfl (oM rfl (Bp [(0,PQ r 0),(1,NI most),(2, .func (.func 112) #[] #[PQ g 0,PQ m 0]),(6,NI c),(13,NI c),(14,NI 0)] ⟨h,l,o,rfl,rfl,rfl,trivial⟩ fun aq ⟨h,l,o,q,p,f,_⟩=>(tN (ae _ _ (AA (Bu (fun(ρ:As) (wz:World)=>∃k:Nat,ρ 0=(PQ r 0:Value)∧ρ 1=(NI most:Value)∧ρ 2=(.func (.func 112) #[] #[PQ g 0,PQ m 0]:Value)∧ρ 6=(NI c:Value)∧ρ 13=(NI c:Value)∧ρ 14=(NI k:Value)∧Inv k wz∧(k≤c)∧True) (fun ρ _=>c-(intOf (ρ 14)).toNat) ⟨0,h,l,o,q,p,f,h0 c j _ hP hle hb hgr,Nat.zero_le _,trivial⟩ ?_))))))))))
 clear hgr
 clear hb
 rintro af ar ⟨k,h,l,o,q,p,f,hI,hk,-⟩
 have q14:=f
 by_cases hlt:k<c
 ·refine sk fun au ag=>(wt (oS rfl (Yk.eqI (a:=(k:Nat)) (b:=(c:Nat)) f p (A0 _ _ _ _) (oZ (tN (ag _ _ (sk fun av ah=>(At (vr (.bool (true)) (congrArg Value.bool (decide_eq_true (hlt)))) (Ak (tN (ah _ _ (sk fun aw ai=>(AA (wt (oM rfl (oP rfl (Yp.clo MD (caps:= #[PQ g 0,PQ m 0]) o #[PQ g 0,PQ m 0] (by simp) ?_)))))))))))))))))
  refine Ar (hstep c j k _ hP hlt hI) ?_ ?_
  rotate_left
  ·
   rintro ch ax ⟨rfl,hB⟩
   refine CR (Aq (Aq (CR (postP_panic ?_))))
   exact .inr ⟨_,rfl,rfl,hB⟩
  rintro v_ ay ⟨rfl,hI2⟩
  have hI:=hI2;clear hI2
  refine oZ (bN (tN (ai _ _ (wt (oS rfl (Yk.bin (xv:=NI k) (yv:=NI 1) f rfl rfl (Be _ _ _ (by omega)) (oM rfl (Bp [(0,PQ r 0),(1,NI most),(2, .func (.func 112) #[] #[PQ g 0,PQ m 0]),(6,NI c),(13,NI c),(14,NI ((k)+(1))),(15, .bool (true))] ⟨h,l,o,q,p,rfl,(congrArg Value.bool (decide_eq_true (hlt))),trivial⟩ fun aj ⟨h,l,o,q,p,f,az,_⟩=>(tN (And.intro ⟨k+1,h,l,o,q,p,f,hI,by omega,trivial⟩ ?_))))))))))
  show c-(intOf (aj 14)).toNat<c-(intOf (af 14)).toNat
  rw[f,q14]
  simp only[intOf,Int.toNat_natCast];omega
 refine sk fun a0 ak=>(wt (oS rfl (Yk.eqI (a:=(k:Nat)) (b:=(c:Nat)) f p (A0 _ _ _ _) (oZ (tN (ak _ _ (sk fun a1 a2=>(Am (vr (.bool (false)) (congrArg Value.bool (decide_eq_false (hlt)))) (Bm (Ax (Ax (AS (C3 (fn:=Tryd.f111) [] rfl [] (.tuple #[]) rfl trivial ?_)))))))))))))
 have hkc:k=c:=by omega
 subst hkc
 exact .inl ⟨_,rfl,rfl,k,j,hP,hle,hI⟩

theorem MH(w:World)(r g m:Nat)(v:Value)(b:Bs)(i most:Nat)(hb:w.heap[r]? =some (.cells (A4 (AL v b (i))).toArray 111 (0,0)))(hr:RB w v b)(hap:b= []∨OB v r)(hi:i≤b.length)(hl:b.length≤4611686018427387904)(Inv:Nat→World→Prop)(Bad:World→Prop) 
  (h0:∀(n j:Nat) (w' :World),Bk b i=some (n,j)→n≤most→w'.heap[r]? =some (.cells (A4 (AL v b (j))).toArray 111 (0,0))→w.grownBy w' (some r)→Inv 0 w')
  (hstep:∀(n j k:Nat) (u:World),Bk b i=some (n,j)→k<n→Inv k u→Calls Tryd.prog 115 #[PQ m 0,PQ g 0] u fun e u' =>(∃x,e = .returned x∧x = .tuple #[]∧Inv (k+1) u')∨∃ch,e = .panicked ch∧ch= [BS]∧Bad u')
  (hbad:∀w' :World,(Bk b i=none∨∃n j,Bk b i=some (n,j)∧¬n≤most)→w.grownBy w' (some r)→Bad w'):
  Calls Tryd.prog 111 #[PQ r 0,NI most, .func (.func 115) #[] #[PQ m 0,PQ g 0]] w fun e w' =>(∃x,e = .returned x∧x = .tuple #[]∧∃n j,Bk b i=some (n,j)∧n≤most∧Inv n w')∨∃ch,e = .panicked ch∧ch= [BS]∧Bad w' :=by
 have hlr:=(bl hb)
 have hgr:=World.grownBy.refl w (some r)
 refine BN (args:= [PQ r 0,NI most, .func (.func 115) #[] #[PQ m 0,PQ g 0]]) Tryd.func111 rfl 19 rfl (Nat.le_of_ble_eq_true rfl) ?_
 intro s hb
 have h:s 0=(PQ r 0:Value):=hb.get 0
 have l:s 1=(NI most:Value):=hb.get 1
 have o:s 2=(.func (.func 115) #[] #[PQ m 0,PQ g 0]:Value):=hb.get 2
 clear hb
 have hE:=Ext.refl w
 refine sk fun K1 y=>(wt (oM rfl (oP rfl (Yp.callA1 Gy h ?_))))
 refine Ar (Cy _ r v b i hb (hr.keep hE) hap hi hl) ?_ ?_
 rotate_left
 ·
  rintro ch w2 ⟨hP,rfl,hgn⟩
  refine Aq (postP_panic ?_)
  exact .inr ⟨_,rfl,rfl,hbad _ (.inl hP) (Ag hgr hgn (fun _ e=> .inl e))⟩
 rintro v_ z ⟨c,j,hP,rfl,hbn,hgn⟩
 clear hb
 have hgr:w.grownBy z (some r):=Ag hgr hgn (fun _ e=> .inl e)
 clear hE
 have hb:=hbn;clear hbn
 refine oA rfl (oZ (tN (y _ _ (sk fun K5 aa=>(wt (oM rfl (oM rfl (oS rfl (Yk.eqI (a:=(c:Nat)) (b:=(most:Nat)) rfl l (CC _ _ _ _) (oP rfl (Yp.callA1 CQ (vr (.bool (decide ((c)≤(most)))) rfl) ?_)))))))))))
 refine Ar (AZ _ (decide ((c)≤(most)))) ?_ ?_
 rotate_left
 ·
  rintro ch w8 ⟨rfl,hb,hx⟩
  refine Aq (postP_panic ?_)
  have hno:=of_decide_eq_false hb
  exact .inr ⟨_,rfl,rfl,hbad _ (.inr ⟨c,j,hP,by omega⟩) (Ag hgr hx.grown (fun _ e=>by cases e))⟩
 rintro v_ ab ⟨rfl,ac,t⟩
 have hgr:w.grownBy ab (some r):=Ag hgr t.grown (fun _ e=>by cases e)
 have hb:=eb t hb
 have ad:=of_decide_eq_true ac
 refine oZ ?_
 have hle:=ad
 have hcl:=GQ hP
 refine tN (aa _ _ (sk fun ap ae=>(wt (oM rfl (oM rfl (Bp [(0,PQ r 0),(1,NI most),(2, .func (.func 115) #[] #[PQ m 0,PQ g 0]),(6,NI c),(13,NI c),(14,NI 0)] ⟨h,l,o,rfl,rfl,rfl,trivial⟩ fun aq ⟨h,l,o,q,p,f,_⟩=>(tN (ae _ _ (AA (Bu (fun(ρ:As) (wz:World)=>∃k:Nat,ρ 0=(PQ r 0:Value)∧ρ 1=(NI most:Value)∧ρ 2=(.func (.func 115) #[] #[PQ m 0,PQ g 0]:Value)∧ρ 6=(NI c:Value)∧ρ 13=(NI c:Value)∧ρ 14=(NI k:Value)∧Inv k wz∧(k≤c)∧True) (fun ρ _=>c-(intOf (ρ 14)).toNat) ⟨0,h,l,o,q,p,f,h0 c j _ hP hle hb hgr,Nat.zero_le _,trivial⟩ ?_))))))))))
 clear hgr
 clear hb
 rintro af ar ⟨k,h,l,o,q,p,f,hI,hk,-⟩
 have q14:=f
 by_cases hlt:k<c
 ·refine sk fun au ag=>(wt (oS rfl (Yk.eqI (a:=(k:Nat)) (b:=(c:Nat)) f p (A0 _ _ _ _) (oZ (tN (ag _ _ (sk fun av ah=>(At (vr (.bool (true)) (congrArg Value.bool (decide_eq_true (hlt)))) (Ak (tN (ah _ _ (sk fun aw ai=>(AA (wt (oM rfl (oP rfl (Yp.clo ME (caps:= #[PQ m 0,PQ g 0]) o #[PQ m 0,PQ g 0] (by simp) ?_)))))))))))))))))
  refine Ar (hstep c j k _ hP hlt hI) ?_ ?_
  rotate_left
  ·
   rintro ch ax ⟨rfl,hB⟩
   refine CR (Aq (Aq (CR (postP_panic ?_))))
   exact .inr ⟨_,rfl,rfl,hB⟩
  rintro v_ ay ⟨rfl,hI2⟩
  have hI:=hI2;clear hI2
  refine oZ (bN (tN (ai _ _ (wt (oS rfl (Yk.bin (xv:=NI k) (yv:=NI 1) f rfl rfl (Be _ _ _ (by omega)) (oM rfl (Bp [(0,PQ r 0),(1,NI most),(2, .func (.func 115) #[] #[PQ m 0,PQ g 0]),(6,NI c),(13,NI c),(14,NI ((k)+(1))),(15, .bool (true))] ⟨h,l,o,q,p,rfl,(congrArg Value.bool (decide_eq_true (hlt))),trivial⟩ fun aj ⟨h,l,o,q,p,f,az,_⟩=>(tN (And.intro ⟨k+1,h,l,o,q,p,f,hI,by omega,trivial⟩ ?_))))))))))
  show c-(intOf (aj 14)).toNat<c-(intOf (af 14)).toNat
  rw[f,q14]
  simp only[intOf,Int.toNat_natCast];omega
 refine sk fun a0 ak=>(wt (oS rfl (Yk.eqI (a:=(k:Nat)) (b:=(c:Nat)) f p (A0 _ _ _ _) (oZ (tN (ak _ _ (sk fun a1 a2=>(Am (vr (.bool (false)) (congrArg Value.bool (decide_eq_false (hlt)))) (Bm (Ax (Ax (AS (C3 (fn:=Tryd.f111) [] rfl [] (.tuple #[]) rfl trivial ?_)))))))))))))
 have hkc:k=c:=by omega
 subst hkc
 exact .inl ⟨_,rfl,rfl,k,j,hP,hle,hI⟩

theorem MI(w:World)(r g m:Nat)(v:Value)(b:Bs)(i most:Nat)(hb:w.heap[r]? =some (.cells (A4 (AL v b (i))).toArray 111 (0,0)))(hr:RB w v b)(hap:b= []∨OB v r)(hi:i≤b.length)(hl:b.length≤4611686018427387904)(Inv:Nat→World→Prop)(Bad:World→Prop) 
  (h0:∀(n j:Nat) (w' :World),Bk b i=some (n,j)→n≤most→w'.heap[r]? =some (.cells (A4 (AL v b (j))).toArray 111 (0,0))→w.grownBy w' (some r)→Inv 0 w')
  (hstep:∀(n j k:Nat) (u:World),Bk b i=some (n,j)→k<n→Inv k u→Calls Tryd.prog 116 #[PQ m 0,PQ g 0] u fun e u' =>(∃x,e = .returned x∧x = .tuple #[]∧Inv (k+1) u')∨∃ch,e = .panicked ch∧ch= [BS]∧Bad u')
  (hbad:∀w' :World,(Bk b i=none∨∃n j,Bk b i=some (n,j)∧¬n≤most)→w.grownBy w' (some r)→Bad w'):
  Calls Tryd.prog 111 #[PQ r 0,NI most, .func (.func 116) #[] #[PQ m 0,PQ g 0]] w fun e w' =>(∃x,e = .returned x∧x = .tuple #[]∧∃n j,Bk b i=some (n,j)∧n≤most∧Inv n w')∨∃ch,e = .panicked ch∧ch= [BS]∧Bad w' :=by
 have hlr:=(bl hb)
 have hgr:=World.grownBy.refl w (some r)
 refine BN (args:= [PQ r 0,NI most, .func (.func 116) #[] #[PQ m 0,PQ g 0]]) Tryd.func111 rfl 19 rfl (Nat.le_of_ble_eq_true rfl) ?_
 intro s hb
 have h:s 0=(PQ r 0:Value):=hb.get 0
 have l:s 1=(NI most:Value):=hb.get 1
 have o:s 2=(.func (.func 116) #[] #[PQ m 0,PQ g 0]:Value):=hb.get 2
 clear hb
 have hE:=Ext.refl w
 refine sk fun K1 y=>(wt (oM rfl (oP rfl (Yp.callA1 Gy h ?_))))
 refine Ar (Cy _ r v b i hb (hr.keep hE) hap hi hl) ?_ ?_
 rotate_left
 ·
  rintro ch w2 ⟨hP,rfl,hgn⟩
  refine Aq (postP_panic ?_)
  exact .inr ⟨_,rfl,rfl,hbad _ (.inl hP) (Ag hgr hgn (fun _ e=> .inl e))⟩
 rintro v_ z ⟨c,j,hP,rfl,hbn,hgn⟩
 clear hb
 have hgr:w.grownBy z (some r):=Ag hgr hgn (fun _ e=> .inl e)
 clear hE
 have hb:=hbn;clear hbn
 refine oA rfl (oZ (tN (y _ _ (sk fun K5 aa=>(wt (oM rfl (oM rfl (oS rfl (Yk.eqI (a:=(c:Nat)) (b:=(most:Nat)) rfl l (CC _ _ _ _) (oP rfl (Yp.callA1 CQ (vr (.bool (decide ((c)≤(most)))) rfl) ?_)))))))))))
 refine Ar (AZ _ (decide ((c)≤(most)))) ?_ ?_
 rotate_left
 ·
  rintro ch w8 ⟨rfl,hb,hx⟩
  refine Aq (postP_panic ?_)
  have hno:=of_decide_eq_false hb
  exact .inr ⟨_,rfl,rfl,hbad _ (.inr ⟨c,j,hP,by omega⟩) (Ag hgr hx.grown (fun _ e=>by cases e))⟩
 rintro v_ ab ⟨rfl,ac,t⟩
 have hgr:w.grownBy ab (some r):=Ag hgr t.grown (fun _ e=>by cases e)
 have hb:=eb t hb
 have ad:=of_decide_eq_true ac
 refine oZ ?_
 have hle:=ad
 have hcl:=GQ hP
 refine tN (aa _ _ (sk fun ap ae=>(wt (oM rfl (oM rfl (Bp [(0,PQ r 0),(1,NI most),(2, .func (.func 116) #[] #[PQ m 0,PQ g 0]),(6,NI c),(13,NI c),(14,NI 0)] ⟨h,l,o,rfl,rfl,rfl,trivial⟩ fun aq ⟨h,l,o,q,p,f,_⟩=>(tN (ae _ _ (AA (Bu (fun(ρ:As) (wz:World)=>∃k:Nat,ρ 0=(PQ r 0:Value)∧ρ 1=(NI most:Value)∧ρ 2=(.func (.func 116) #[] #[PQ m 0,PQ g 0]:Value)∧ρ 6=(NI c:Value)∧ρ 13=(NI c:Value)∧ρ 14=(NI k:Value)∧Inv k wz∧(k≤c)∧True) (fun ρ _=>c-(intOf (ρ 14)).toNat) ⟨0,h,l,o,q,p,f,h0 c j _ hP hle hb hgr,Nat.zero_le _,trivial⟩ ?_))))))))))
 clear hgr
 clear hb
 rintro af ar ⟨k,h,l,o,q,p,f,hI,hk,-⟩
 have q14:=f
 by_cases hlt:k<c
 ·refine sk fun au ag=>(wt (oS rfl (Yk.eqI (a:=(k:Nat)) (b:=(c:Nat)) f p (A0 _ _ _ _) (oZ (tN (ag _ _ (sk fun av ah=>(At (vr (.bool (true)) (congrArg Value.bool (decide_eq_true (hlt)))) (Ak (tN (ah _ _ (sk fun aw ai=>(AA (wt (oM rfl (oP rfl (Yp.clo MF (caps:= #[PQ m 0,PQ g 0]) o #[PQ m 0,PQ g 0] (by simp) ?_)))))))))))))))))
  refine Ar (hstep c j k _ hP hlt hI) ?_ ?_
  rotate_left
  ·
   rintro ch ax ⟨rfl,hB⟩
   refine CR (Aq (Aq (CR (postP_panic ?_))))
   exact .inr ⟨_,rfl,rfl,hB⟩
  rintro v_ ay ⟨rfl,hI2⟩
  have hI:=hI2;clear hI2
  refine oZ (bN (tN (ai _ _ (wt (oS rfl (Yk.bin (xv:=NI k) (yv:=NI 1) f rfl rfl (Be _ _ _ (by omega)) (oM rfl (Bp [(0,PQ r 0),(1,NI most),(2, .func (.func 116) #[] #[PQ m 0,PQ g 0]),(6,NI c),(13,NI c),(14,NI ((k)+(1))),(15, .bool (true))] ⟨h,l,o,q,p,rfl,(congrArg Value.bool (decide_eq_true (hlt))),trivial⟩ fun aj ⟨h,l,o,q,p,f,az,_⟩=>(tN (And.intro ⟨k+1,h,l,o,q,p,f,hI,by omega,trivial⟩ ?_))))))))))
  show c-(intOf (aj 14)).toNat<c-(intOf (af 14)).toNat
  rw[f,q14]
  simp only[intOf,Int.toNat_natCast];omega
 refine sk fun a0 ak=>(wt (oS rfl (Yk.eqI (a:=(k:Nat)) (b:=(c:Nat)) f p (A0 _ _ _ _) (oZ (tN (ak _ _ (sk fun a1 a2=>(Am (vr (.bool (false)) (congrArg Value.bool (decide_eq_false (hlt)))) (Bm (Ax (Ax (AS (C3 (fn:=Tryd.f111) [] rfl [] (.tuple #[]) rfl trivial ?_)))))))))))))
 have hkc:k=c:=by omega
 subst hkc
 exact .inl ⟨_,rfl,rfl,k,j,hP,hle,hI⟩
open Go.RowKit
set_option maxRecDepth 100000
structure RC (w0 : World) (r m g n : Nat) (v : Value) (b : Bs) : Prop where
 hr:RB w0 v b
 lr:w0.heap.size≤r
 lm:w0.heap.size≤m
 lg:w0.heap.size≤g
 ln:w0.heap.size≤n
 hrm:r≠m
 hrg:r≠g
 hrn:r≠n
 hmg:m≠g
 hmn:m≠n
 hgn:g≠n
 hl:b.length≤4611686018427387904
structure RS (w0 : World) (r m g n : Nat) (v : Value) (b : Bs) (p : Ai) (w : World) (i : Nat) (X : Ah) : Prop where
 hb:w.heap[r]? =some (.cells (A4 (AL v b (i))).toArray 111 (0,0))
 hm:w.heap[m]? =some (.cells (msgC X).toArray 29 (0,0))
 hg:w.heap[g]? =some (.cells ([PQ r 0]).toArray 109 (0,0))
 hn:w.heap[n]? =some (.cells (partsC p).toArray 92 (0,0))
 hE0:Ext w0 w
 hi:i≤b.length
structure Ap4 (u : Value) (r m g n : Nat) : Prop where
 r:OB u r
 m:OB u m
 g:OB u g
 n:OB u n
theorem EE:Tryd.prog.underlying 109=some (.pointer 111):=by kernel_rfl
theorem MJ:AN Tryd.prog 108:=fun _ _=>by kernel_rfl
theorem KJ(z0:Int)(w:World):(Instr.build 67 #[(0, .int .u8 z0)]).run Tryd.prog w = .ok (.agg #[.int .u8 z0, .string ⟨#[]⟩, .int .u8 0, .int .u8 0, .int .u8 0, .int .u8 0, .int .u8 0, .int .u8 0, .int .u8 0, .int .u8 0, .int .u8 0, .int .u8 0, .int .u8 0, .int .u8 0, .int .u8 0, .int .u8 0, .int .u8 0, .int .u8 0, .int .u8 0, .int .u8 0, .int .u8 0, .int .u8 0, .int .u8 0, .int .u8 0, .int .u8 0, .int .u8 0, .int .u8 0, .int .u8 0, .int .u8 0, .int .u8 0, .int .u8 0, .int .u8 0, .int .u8 0, .int .u8 0, .int .u8 0, .int .u8 0, .int .u8 0, .int .u8 0, .int .u8 0, .int .u8 0, .int .u8 0, .int .u8 0, .int .u8 0, .int .u8 0, .int .u8 0, .int .u8 0, .int .u8 0, .int .u8 0, .int .u8 0, .int .u8 0, .int .u8 0, .int .u8 0, .int .u8 0, .int .u8 0, .int .u8 0, .int .u8 0, .int .u8 0, .int .u8 0, .int .u8 0, .int .u8 0, .int .u8 0, .int .u8 0, .int .u8 0, .int .u8 0, .int .u8 0, .int .u8 0]) w:=by kernel_rfl
theorem LM(z0:UInt8)(w:World):(Instr.build 67 #[(0,B8 z0)]).run Tryd.prog w = .ok (.agg (B8 (z0) :: (St ([]) :: (Lib.byteCells zid.1++(Lib.byteCells zid.1)))).toArray) w:=by
 exact KJ _ w
theorem MK:AN Tryd.prog 113:=fun _ _=>by kernel_rfl
theorem NA:(Tryd.prog.info? 9).map (·.size)=some 1:=by kernel_rfl
theorem Gz:AN Tryd.prog 114:=fun _ _=>by kernel_rfl
theorem NB(c0 c1 c2 c3 c4 c5 c6 c7 c8 c9 c10 c11 c12 c13 c14 c15 c16 c17 c18 c19 c20 c21 c22 c23 c24 c25 c26 c27 c28 c29 c30 c31 c32 c33 c34 c35 c36 c37 c38 c39 c40 c41 c42 c43 c44 c45 c46 c47 c48 c49 c50 c51 c52 c53 c54 c55 c56 c57 c58 c59 c60 c61 c62 c63 c64 c65:Value)(w:World):(Instr.buildSlice 22 1 #[(0, .agg #[c0,c1,c2,c3,c4,c5,c6,c7,c8,c9,c10,c11,c12,c13,c14,c15,c16,c17,c18,c19,c20,c21,c22,c23,c24,c25,c26,c27,c28,c29,c30,c31,c32,c33,c34,c35,c36,c37,c38,c39,c40,c41,c42,c43,c44,c45,c46,c47,c48,c49,c50,c51,c52,c53,c54,c55,c56,c57,c58,c59,c60,c61,c62,c63,c64,c65])]).run Tryd.prog w = .ok (.slice (some ⟨w.heap.size,0,none⟩) 1 1) (w.alloc (.cells #[c0,c1,c2,c3,c4,c5,c6,c7,c8,c9,c10,c11,c12,c13,c14,c15,c16,c17,c18,c19,c20,c21,c22,c23,c24,c25,c26,c27,c28,c29,c30,c31,c32,c33,c34,c35,c36,c37,c38,c39,c40,c41,c42,c43,c44,c45,c46,c47,c48,c49,c50,c51,c52,c53,c54,c55,c56,c57,c58,c59,c60,c61,c62,c63,c64,c65] 67)):=by kernel_rfl
theorem NC:∀(cs:Array Value),cs.size=66→∀w:World,(Instr.buildSlice 22 1 #[(0, .agg cs)]).run Tryd.prog w = .ok (.slice (some ⟨w.heap.size,0,none⟩) 1 1) (w.alloc (.cells cs 67))
 | ⟨c0 :: c1 :: c2 :: c3 :: c4 :: c5 :: c6 :: c7 :: c8 :: c9 :: c10 :: c11 :: c12 :: c13 :: c14 :: c15 :: c16 :: c17 :: c18 :: c19 :: c20 :: c21 :: c22 :: c23 :: c24 :: c25 :: c26 :: c27 :: c28 :: c29 :: c30 :: c31 :: c32 :: c33 :: c34 :: c35 :: c36 :: c37 :: c38 :: c39 :: c40 :: c41 :: c42 :: c43 :: c44 :: c45 :: c46 :: c47 :: c48 :: c49 :: c50 :: c51 :: c52 :: c53 :: c54 :: c55 :: c56 :: c57 :: c58 :: c59 :: c60 :: c61 :: c62 :: c63 :: c64 :: c65 :: []⟩,_,w=>NB c0 c1 c2 c3 c4 c5 c6 c7 c8 c9 c10 c11 c12 c13 c14 c15 c16 c17 c18 c19 c20 c21 c22 c23 c24 c25 c26 c27 c28 c29 c30 c31 c32 c33 c34 c35 c36 c37 c38 c39 c40 c41 c42 c43 c44 c45 c46 c47 c48 c49 c50 c51 c52 c53 c54 c55 c56 c57 c58 c59 c60 c61 c62 c63 c64 c65 w
theorem wr9_ig67:∃z,(Tryd.prog.info? 67).map (fun i=>(i.zero,i.size,i.bytes))=some (some z,66,88)∧z.cells.size=66:=Le (by kernel_rfl)
theorem ML:(Tryd.prog.info? 22).map (·.size)=some 1:=by kernel_rfl
theorem ND(c0 c1 c2 c3 c4 c5 c6 c7 c8 c9 c10 c11 c12 c13 c14 c15 c16 c17 c18 c19 c20 c21 c22 c23 c24 c25 c26 c27 c28 c29 c30 c31:Value)(w:World):(Instr.buildSlice 23 1 #[(0, .agg #[c0,c1,c2,c3,c4,c5,c6,c7,c8,c9,c10,c11,c12,c13,c14,c15,c16,c17,c18,c19,c20,c21,c22,c23,c24,c25,c26,c27,c28,c29,c30,c31])]).run Tryd.prog w = .ok (.slice (some ⟨w.heap.size,0,none⟩) 1 1) (w.alloc (.cells #[c0,c1,c2,c3,c4,c5,c6,c7,c8,c9,c10,c11,c12,c13,c14,c15,c16,c17,c18,c19,c20,c21,c22,c23,c24,c25,c26,c27,c28,c29,c30,c31] 25)):=by kernel_rfl
theorem J9:∀(cs:Array Value),cs.size=32→∀w:World,(Instr.buildSlice 23 1 #[(0, .agg cs)]).run Tryd.prog w = .ok (.slice (some ⟨w.heap.size,0,none⟩) 1 1) (w.alloc (.cells cs 25))
 | ⟨[c0,c1,c2,c3,c4,c5,c6,c7,c8,c9,c10,c11,c12,c13,c14,c15,c16,c17,c18,c19,c20,c21,c22,c23,c24,c25,c26,c27,c28,c29,c30,c31]⟩,_,w=>ND c0 c1 c2 c3 c4 c5 c6 c7 c8 c9 c10 c11 c12 c13 c14 c15 c16 c17 c18 c19 c20 c21 c22 c23 c24 c25 c26 c27 c28 c29 c30 c31 w
theorem wr9_ig25:∃z,(Tryd.prog.info? 25).map (fun i=>(i.zero,i.size,i.bytes))=some (some z,32,32)∧z.cells.size=32:=Le (by kernel_rfl)
theorem I0:(Tryd.prog.info? 23).map (·.size)=some 1:=by kernel_rfl
set_option maxHeartbeats 1600000
theorem NE{w0 w:World}{r m g n:Nat}{v:Value}{b:Bs}{p:Ai}{i:Nat}{X:Ah}(C:RC w0 r m g n v b)(hS:RS w0 r m g n v b p w i X)(ho:OG w0.heap.size 67 66 updC w X.2.refs X.1.refs)(hlw:X.1.refs.length≤1000000)(ap:Ap4 X.2.refs r m g n):
  Calls Tryd.prog 112 #[PQ g 0,PQ m 0] w fun e w' =>(∃x,e = .returned x∧x = .tuple #[]∧∃c j vw,updP b i=some (c,j)∧RS w0 r m g n v b p w' j (({ X.1 with refs:=X.1.refs++ [c] },{ X.2 with refs:=vw }):Ah)∧OG w0.heap.size 67 66 updC w' vw (X.1.refs++ [c])∧Ap4 vw r m g n)∨∃ch,e = .panicked ch∧updP b i=none∧ch= [BS]∧Ext w0 w' :=by
 obtain⟨hr,lr,lm,lg,ln,hrm,hrg,hrn,hmg,hmn,hgn,hl⟩:=C
 obtain⟨hb,hm,hg,hn,f,hi⟩:=hS
 have hlr:=(bl hb)
 have hlm:=(bl hm)
 have hlg:=(bl hg)
 have hln:=(bl hn)
 have hapr:b= []∨OB v r:=by
   rcases b with _ | ⟨b0,b1⟩
   ·exact .inl rfl
   ·exact .inr fun e=>by have:=RB.lt hr (by simp) e;omega
 refine BN (args:= [PQ g 0,PQ m 0]) Tryd.func112 rfl 18 rfl (Nat.le_of_ble_eq_true rfl) ?_
 intro aj hb
 have T0:aj 0=(PQ g 0:Value):=hb.get 0
 have T1:aj 1=(PQ m 0:Value):=hb.get 1
 clear hb
 refine sk fun K1 ay=>(wt (oS rfl (Yk.cell1 EE rfl T0 (Ab hg (show _=some (PQ r 0:Value)from rfl)) (oP rfl (Yp.callA1 MJ (vr (PQ r 0) rfl) ?_)))))
 refine Ar (Ho _ r v b i hb (hr.keep f) hapr hi hl) ?_ ?_
 rotate_left
 ·
  rintro ch w4 ⟨hPx,rfl,hgx⟩
  refine Aq (postP_panic ?_)
  exact .inr ⟨_,rfl,by simp only[updP,hPx,Option.bind_some,Option.bind_none],rfl,Ae f hgx lr⟩
 rintro v_ w6 ⟨c1,j1,hP1,rfl,al,ac⟩
 have f:=Ae f ac (Nat.le_trans (Nat.le_refl _) lr)
 clear hb
 have hm:=kb ac hm (by omega)
 have hg:=kb ac hg (by omega)
 have hn:=kb ac hn (by omega)
 have ho:=OG.kept ho ac ap.r
 have hb:=al;clear al
 have hle_j1:=Hn hP1
 have bf:=bl hb
 refine oS rfl (Yk.build1 (vr (B8 (c1)) rfl) (fun w=>LM c1 w) (oS rfl (Yk.alloc (cs:=(updC (⟨0,[],zid,zid⟩:AJ)).toArray) JW fun k w9 af am q bg=> ?_)))
 have ah:=f.size
 have bh:=Bo (bl hm) af
 have bi:=Bo (bl hg) af
 have bj:=Bo (bl hn) af
 have bk:=Bo (bl hb) af
 have ai:OB X.2.refs k:=Bc ho.2 (by omega)
 have f:=f.trans q
 have hm:=eb q hm
 have hg:=eb q hg
 have hn:=eb q hn
 have ho:=ho.keep q
 have hb:=eb q hb
 have h:=am;clear am
 have bm:k<w9.heap.size:=by omega
 refine oS rfl (Yk.storeAll (vr (PQ k 0) rfl) (vr (.agg (updC (⟨c1,[],zid,zid⟩:AJ)).toArray) rfl) h (by simp only[List.size_toArray,BH]) (Au (BH _) Fl) (Em (x:=(⟨c1,[],zid,zid⟩:AJ))) fun a0 an s bn=> ?_)
 have f:=Ae f s (Nat.le_trans ah (by omega))
 have hm:=kb s hm (by omega)
 have hg:=kb s hg (by omega)
 have hn:=kb s hn (by omega)
 have ho:=OG.kept ho s ai
 have hb:=kb s hb (by omega)
 clear h
 have h:a0.heap[k]? =some (.cells (updC (⟨c1,[],zid,zid⟩:AJ)).toArray 67 (0,0)):=an;clear an
 have bo:=bl h
 refine oZ (tN (ay _ _ (sk fun bp a1=>(wt (oS rfl (Yk.cell1 EE rfl T0 (Ab hg (show _=some (PQ r 0:Value)from rfl)) (oP rfl (Yp.callA2 MK (vr (PQ r 0) rfl) (vr (NI 32) rfl) ?_))))))))
 refine Ar (Gx _ r v b j1 hb (hr.keep f) hapr hle_j1 hl 32) ?_ ?_
 rotate_left
 ·
  rintro ch bq ⟨hPx,rfl,hgx⟩
  refine Aq (postP_panic ?_)
  exact .inr ⟨_,rfl,by simp only[updP,hP1,hPx,Option.bind_some,Option.bind_none],rfl,Ae f hgx lr⟩
 rintro v_ br ⟨c2,j2,hP2,rfl,ao,t⟩
 have f:=Ae f t (Nat.le_trans (Nat.le_refl _) lr)
 have hm:=kb t hm (by omega)
 have hg:=kb t hg (by omega)
 have hn:=kb t hn (by omega)
 have ho:=OG.kept ho t ap.r
 clear hb
 have h:=kb t h (by omega)
 have hb:=ao;clear ao
 have hle_j2:=(Er hP2).1
 have bs:=bl hb
 refine oS rfl (Yk.fieldAt DS (vr (PQ k 0) rfl) (oS rfl (Yk.storeC (i:=1) (v:=St (c2)) (vr (PQ k 1) rfl) (vr (St (c2)) rfl) h (by rw[BH];decide) NA rfl rfl fun a2 aq u bt=> ?_)))
 have f:=Ae f u (Nat.le_trans ah (by omega))
 have hm:=kb u hm (by omega)
 have hg:=kb u hg (by omega)
 have hn:=kb u hn (by omega)
 have ho:=OG.kept ho u ai
 clear h
 have hb:=kb u hb (by omega)
 have h:a2.heap[k]? =some (.cells (updC (⟨c1,c2,zid,zid⟩:AJ)).toArray 67 (0,0)):=Az aq (Mb (⟨c1,[],zid,zid⟩:AJ) c2);clear aq
 have bu:=bl h
 refine oZ (tN (a1 _ _ (sk fun bv a3=>(wt (oS rfl (Yk.cell1 EE rfl T0 (Ab hg (show _=some (PQ r 0:Value)from rfl)) (oP rfl (Yp.callA1 Gz (vr (PQ r 0) rfl) ?_))))))))
 refine Ar (Et _ r v b j2 hb (hr.keep f) hapr hle_j2 hl) ?_ ?_
 rotate_left
 ·
  rintro ch bw ⟨hPx,rfl,hgx⟩
  refine Aq (postP_panic ?_)
  exact .inr ⟨_,rfl,by simp only[updP,hP1,hP2,hPx,Option.bind_some,Option.bind_none],rfl,Ae f hgx lr⟩
 rintro v_ bx ⟨c3,j3,hP3,rfl,ar,y⟩
 have f:=Ae f y (Nat.le_trans (Nat.le_refl _) lr)
 have hm:=kb y hm (by omega)
 have hg:=kb y hg (by omega)
 have hn:=kb y hn (by omega)
 have ho:=OG.kept ho y ap.r
 clear hb
 have h:=kb y h (by omega)
 have hb:=ar;clear ar
 have hle_j3:=E5 hP3
 have bz:=bl hb
 refine oS rfl (Yk.fieldAt HV (vr (PQ k 0) rfl) (oS rfl (Yk.storeMid (a:=E1 (⟨c1,c2,zid,zid⟩:AJ)) (m:=Lib.byteCells zid.1) (z:=Gn (⟨c1,c2,zid,zid⟩:AJ)) (cells:=Lib.byteCells c3.1) (vr (PQ k 34) rfl) (vr (AB c3.1) rfl) (Ec (⟨c1,c2,zid,zid⟩:AJ)▸h) (Ez (⟨c1,c2,zid,zid⟩:AJ)) (by rw[Lib.byteCells_length,Lib.byteCells_length,zid.2,c3.2]) (by rw[Lib.byteCells_length,c3.2];exact Mh) (Av _) fun a4 au aa b2=> ?_)))
 have f:=Ae f aa (Nat.le_trans ah (by omega))
 have hm:=kb aa hm (by omega)
 have hg:=kb aa hg (by omega)
 have hn:=kb aa hn (by omega)
 have ho:=OG.kept ho aa ai
 clear h
 have hb:=kb aa hb (by omega)
 have h:a4.heap[k]? =some (.cells (updC (⟨c1,c2,zid,c3⟩:AJ)).toArray 67 (0,0)):=Az au (Md (⟨c1,c2,zid,zid⟩:AJ) c3);clear au
 have b3:=bl h
 refine oZ (tN (a3 _ _ (wt (oS rfl (Yk.fieldAt H0 T1 (oS rfl (Yk.cell1 CJ rfl (vr (PQ m 2) rfl) (Ab hm (show(msgC X)[2]? =some (X.2.refs:Value)from BF X)) (oS rfl (Yk.loadAll (vr (PQ k 0) rfl) h (JV).choose_spec rfl (Au (BH (⟨c1,c2,zid,c3⟩:AJ)) Fl) (oS rfl (Yk.lit1G (a:=(⟨c1,c2,zid,c3⟩:AJ)) (enc:=updC) (vr (.agg (updC (⟨c1,c2,zid,c3⟩:AJ)).toArray) rfl) (BH _) NC fun a5 a6 av ab=> ?_)))))))))))
 have f:=f.trans ab
 have hm:=eb ab hm
 have hg:=eb ab hg
 have hn:=eb ab hn
 have ho:=ho.keep ab
 have hb:=eb ab hb
 refine oS rfl (Yk.appendRG _ _ w0.heap.size _ 88 CJ wr9_ig67.choose_spec.1 wr9_ig67.choose_spec.2 CJ (X.1.refs) ([(⟨c1,c2,zid,c3⟩:AJ)]) (OG.of ho (vr X.2.refs rfl)) (RG.of av (vr a5 rfl)) (fun _ _=>Em) (by simp only[List.length_cons,List.length_nil];omega) (by simp only[List.length_cons,List.length_nil];omega) f.size fun o a7 ad l=> ?_)
 have l:Grew a6 a7 X.2.refs o:=l
 have a8:OB o r:=AP l ap.r (bl hb)
 have aw:OB o m:=AP l ap.m (bl hm)
 have a9:OB o g:=AP l ap.g (bl hg)
 have ba:OB o n:=AP l ap.n (bl hn)
 have f:=AF f l ho.2 (Nat.le_refl _)
 have hm:=AG hm l ap.m
 have hg:=AG hg l ap.g
 have hn:=AG hn l ap.n
 clear ho
 have hb:=AG hb l ap.r
 clear av
 refine oS rfl (Yk.fieldAt H0 T1 (oS rfl (Yk.storeC (i:=2) (v:=o) (vr (PQ m 2) rfl) (vr o rfl) hm (by rw[msg_len];decide) ML (RG.one (RG.ofOwn ad)).1 (RG.one (RG.ofOwn ad)).2 fun bb ax ae b4=> ?_)))
 have f:=Ae f ae (Nat.le_trans (Nat.le_refl _) (by omega))
 clear hm
 have hg:=kb ae hg (by omega)
 have hn:=kb ae hn (by omega)
 have hb:=kb ae hb (by omega)
 have ad:=OG.kept ad ae aw
 have hm:bb.heap[m]? =some (.cells (msgC ((⟨X.1.kind,X.1.session,(X.1.refs)++ [(⟨c1,c2,zid,c3⟩:AJ)],X.1.wants,X.1.haves,X.1.size,X.1.at_,X.1.id,X.1.bytes,X.1.name,X.1.old,X.1.new,X.1.force,X.1.code⟩,⟨o,X.2.wants,X.2.haves,X.2.bytes⟩):Ah)).toArray 29 (0,0)):=Az ax (HI X o ((X.1.refs)++ [(⟨c1,c2,zid,c3⟩:AJ)]));clear ax
 have b5:=bl hm
 refine oZ (C3 (fn:=Tryd.f112) [] rfl [] (.tuple #[]) rfl trivial ?_)
 exact .inl ⟨_,rfl,rfl,⟨c1,c2,zid,c3⟩,j3,o,by simp only[updP,hP1,hP2,hP3,Option.bind_some],⟨hb,hm,hg,hn,f,hle_j3⟩,ad,⟨a8,aw,a9,ba⟩⟩

theorem NF{w0 w:World}{r m g n:Nat}{v:Value}{b:Bs}{p:Ai}{i:Nat}{X:Ah}(C:RC w0 r m g n v b)(hS:RS w0 r m g n v b p w i X)(ho:OG w0.heap.size 25 32 Lib.byteCells w X.2.wants X.1.wants)(hlw:X.1.wants.length≤1000000)(ap:Ap4 X.2.wants r m g n):
  Calls Tryd.prog 115 #[PQ m 0,PQ g 0] w fun e w' =>(∃x,e = .returned x∧x = .tuple #[]∧∃c j vw,CZ b i=some (c,j)∧RS w0 r m g n v b p w' j (({ X.1 with wants:=X.1.wants++ [c.1] },{ X.2 with wants:=vw }):Ah)∧OG w0.heap.size 25 32 Lib.byteCells w' vw (X.1.wants++ [c.1])∧Ap4 vw r m g n)∨∃ch,e = .panicked ch∧CZ b i=none∧ch= [BS]∧Ext w0 w' :=by
 obtain⟨hr,lr,lm,lg,ln,hrm,hrg,hrn,hmg,hmn,hgn,hl⟩:=C
 obtain⟨hb,hm,hg,hn,f,hi⟩:=hS
 have hlr:=(bl hb)
 have hlm:=(bl hm)
 have hlg:=(bl hg)
 have hln:=(bl hn)
 have hapr:b= []∨OB v r:=by
   rcases b with _ | ⟨b0,b1⟩
   ·exact .inl rfl
   ·exact .inr fun e=>by have:=RB.lt hr (by simp) e;omega
 refine BN (args:= [PQ m 0,PQ g 0]) Tryd.func115 rfl 9 rfl (Nat.le_of_ble_eq_true rfl) ?_
 intro ae hb
 have T0:ae 0=(PQ m 0:Value):=hb.get 0
 have T1:ae 1=(PQ g 0:Value):=hb.get 1
 clear hb
 have s:Ext w (World.drew w):=(Below.refl _ _).drew
 have f:=f.trans s
 have hb:=eb s hb
 have hm:=eb s hm
 have hg:=eb s hg
 have hn:=eb s hn
 have ho:=ho.keep s
 refine BL [(0,2,PQ m 3),(1,3,X.2.wants),(2,4,PQ r 0),(6,8,PQ m 3)] [3,4,5,7] (fun wz=>Ext w0 wz∧wz.heap[m]? =some (.cells (msgC X).toArray 29 (0,0))∧wz.heap[g]? =some (.cells ([PQ r 0]).toArray 109 (0,0))∧wz.heap[n]? =some (.cells (partsC p).toArray 92 (0,0))∧True) (fun _ _ ⟨f,hm,hg,hn,_⟩ k=>⟨(f.trans k),(eb k hm),(eb k hg),(eb k hn),trivial⟩) (by kernel_rfl) (by kernel_rfl) (by kernel_rfl) ⟨f,hm,hg,hn,trivial⟩ ⟨fun w2 ⟨f,hm,hg,hn,_⟩=>Yk.fieldAt H1 T0 ⟨rfl,Ext.refl _⟩,fun w2 ⟨f,hm,hg,hn,_⟩=>Yk.cell1 Bw rfl (vr (PQ m 3) rfl) (Ab hm (show(msgC X)[3]? =some (X.2.wants:Value)from DE X)) ⟨rfl,Ext.refl _⟩,fun w2 ⟨f,hm,hg,hn,_⟩=>Yk.cell1 EE rfl T1 (Ab hg (show _=some (PQ r 0:Value)from rfl)) ⟨rfl,Ext.refl _⟩,fun w2 ⟨f,hm,hg,hn,_⟩=>Yk.fieldAt H1 T0 ⟨rfl,Ext.refl _⟩,trivial⟩ (AI rfl fun w3 t=> ?_)
 have f:=f.trans t
 have hb:=eb t hb
 have hm:=eb t hm
 have hg:=eb t hg
 have hn:=eb t hn
 have ho:=ho.keep t
 refine N1 (Yp.callA1 Gz (vr (PQ r 0) rfl) ?_)
 refine Ar (Et _ r v b i hb (hr.keep f) hapr hi hl) ?_ ?_
 rotate_left
 ·
  rintro ch w7 ⟨hPx,rfl,hgx⟩
  intro _
  refine postP_panic ?_
  exact .inr ⟨_,rfl,hPx,rfl,Ae f hgx lr⟩
 rintro v_ w9 ⟨c,j,hP,rfl,ag,aa⟩
 have f:=Ae f aa (Nat.le_trans (Nat.le_refl _) lr)
 clear hb
 have hm:=kb aa hm (by omega)
 have hg:=kb aa hg (by omega)
 have hn:=kb aa hn (by omega)
 have ho:=OG.kept ho aa ap.r
 have hb:=ag;clear ag
 have hle_j:=E5 hP
 have ax:=bl hb
 refine⟨.inr ⟨f,hm,hg,hn,trivial⟩,?_⟩
 refine AI rfl fun ay u=> ?_
 have f:=f.trans u
 have hm:=eb u hm
 have hg:=eb u hg
 have hn:=eb u hn
 have ho:=ho.keep u
 have hb:=eb u hb
 refine AW (Yk.lit1G (a:=(c.1)) (enc:=Lib.byteCells) (vr (AB c.1) rfl) (by rw[Lib.byteCells_length];exact c.2) J9 fun ak az ac y=> ?_)
 have f:=f.trans y
 have hm:=eb y hm
 have hg:=eb y hg
 have hn:=eb y hn
 have ho:=ho.keep y
 have hb:=eb y hb
 refine⟨.inr ⟨f,hm,hg,hn,trivial⟩,?_⟩
 refine AI rfl fun al o=> ?_
 have f:=f.trans o
 have hm:=eb o hm
 have hg:=eb o hg
 have hn:=eb o hn
 have ho:=ho.keep o
 have hb:=eb o hb
 have ac:=ac.keep o
 refine AW (Yk.appendRG _ _ w0.heap.size _ 32 Bw wr9_ig25.choose_spec.1 wr9_ig25.choose_spec.2 Bw (X.1.wants) ([(c.1)]) (OG.of ho (vr X.2.wants rfl)) (RG.of ac (vr ak rfl)) (fun _ _=>Av _) (by simp only[List.length_cons,List.length_nil];omega) (by simp only[List.length_cons,List.length_nil];omega) f.size fun l am q h=> ?_)
 have h:Grew al am X.2.wants l:=h
 have an:OB l r:=AP h ap.r (bl hb)
 have ah:OB l m:=AP h ap.m (bl hm)
 have ao:OB l g:=AP h ap.g (bl hg)
 have aq:OB l n:=AP h ap.n (bl hn)
 have f:=AF f h ho.2 (Nat.le_refl _)
 have hm:=AG hm h ap.m
 have hg:=AG hg h ap.g
 have hn:=AG hn h ap.n
 clear ho
 have hb:=AG hb h ap.r
 clear ac
 refine⟨.inr ⟨f,hm,hg,hn,trivial⟩,?_⟩
 refine AI rfl fun a0 z=> ?_
 have f:=f.trans z
 have hm:=eb z hm
 have hg:=eb z hg
 have hn:=eb z hn
 have hb:=eb z hb
 have q:=q.keep z
 refine AW (Yk.storeC (i:=3) (v:=l) (vr (PQ m 3) rfl) (vr l rfl) hm (by rw[msg_len];decide) I0 (RG.one (RG.ofOwn q)).1 (RG.one (RG.ofOwn q)).2 fun ar ai ab a1=> ?_)
 have f:=Ae f ab (Nat.le_trans (Nat.le_refl _) (by omega))
 clear hm
 have hg:=kb ab hg (by omega)
 have hn:=kb ab hn (by omega)
 have hb:=kb ab hb (by omega)
 have q:=OG.kept q ab ah
 have hm:ar.heap[m]? =some (.cells (msgC ((⟨X.1.kind,X.1.session,X.1.refs,(X.1.wants)++ [(c.1)],X.1.haves,X.1.size,X.1.at_,X.1.id,X.1.bytes,X.1.name,X.1.old,X.1.new,X.1.force,X.1.code⟩,⟨X.2.refs,l,X.2.haves,X.2.bytes⟩):Ah)).toArray 29 (0,0)):=Az ai (HJ X l ((X.1.wants)++ [(c.1)]));clear ai
 have a2:=bl hm
 refine⟨.inl rfl,?_⟩
 refine Cu (C3 (fn:=Tryd.f115) [] rfl [] (.tuple #[]) rfl trivial ?_)
 exact .inl ⟨_,rfl,rfl,c,j,l,hP,⟨hb,hm,hg,hn,f,hle_j⟩,q,⟨an,ah,ao,aq⟩⟩

theorem NG{w0 w:World}{r m g n:Nat}{v:Value}{b:Bs}{p:Ai}{i:Nat}{X:Ah}(C:RC w0 r m g n v b)(hS:RS w0 r m g n v b p w i X)(ho:OG w0.heap.size 25 32 Lib.byteCells w X.2.haves X.1.haves)(hlw:X.1.haves.length≤1000000)(ap:Ap4 X.2.haves r m g n)(hq:OG w0.heap.size 25 32 Lib.byteCells w X.2.wants X.1.wants)(qp:Ap4 X.2.wants r m g n)(aq:ApartV X.2.haves X.2.wants)(qa:ApartV X.2.wants X.2.haves):
  Calls Tryd.prog 116 #[PQ m 0,PQ g 0] w fun e w' =>(∃x,e = .returned x∧x = .tuple #[]∧∃c j vw,CZ b i=some (c,j)∧RS w0 r m g n v b p w' j (({ X.1 with haves:=X.1.haves++ [c.1] },{ X.2 with haves:=vw }):Ah)∧OG w0.heap.size 25 32 Lib.byteCells w' vw (X.1.haves++ [c.1])∧Ap4 vw r m g n∧OG w0.heap.size 25 32 Lib.byteCells w' X.2.wants X.1.wants∧ApartV vw X.2.wants∧ApartV X.2.wants vw)∨∃ch,e = .panicked ch∧CZ b i=none∧ch= [BS]∧Ext w0 w' :=by
 obtain⟨hr,lr,lm,lg,ln,hrm,hrg,hrn,hmg,hmn,hgn,hl⟩:=C
 obtain⟨hb,hm,hg,hn,f,hi⟩:=hS
 have hlr:=(bl hb)
 have hlm:=(bl hm)
 have hlg:=(bl hg)
 have hln:=(bl hn)
 have hapr:b= []∨OB v r:=by
   rcases b with _ | ⟨b0,b1⟩
   ·exact .inl rfl
   ·exact .inr fun e=>by have:=RB.lt hr (by simp) e;omega
 refine BN (args:= [PQ m 0,PQ g 0]) Tryd.func116 rfl 9 rfl (Nat.le_of_ble_eq_true rfl) ?_
 intro ae hb
 have T0:ae 0=(PQ m 0:Value):=hb.get 0
 have T1:ae 1=(PQ g 0:Value):=hb.get 1
 clear hb
 have q:Ext w (World.drew w):=(Below.refl _ _).drew
 have f:=f.trans q
 have hb:=eb q hb
 have hm:=eb q hm
 have hg:=eb q hg
 have hn:=eb q hn
 have ho:=ho.keep q
 have hq:=hq.keep q
 refine BL [(0,2,PQ m 4),(1,3,X.2.haves),(2,4,PQ r 0),(6,8,PQ m 4)] [3,4,5,7] (fun wz=>Ext w0 wz∧wz.heap[m]? =some (.cells (msgC X).toArray 29 (0,0))∧wz.heap[g]? =some (.cells ([PQ r 0]).toArray 109 (0,0))∧wz.heap[n]? =some (.cells (partsC p).toArray 92 (0,0))∧True) (fun _ _ ⟨f,hm,hg,hn,_⟩ k=>⟨(f.trans k),(eb k hm),(eb k hg),(eb k hn),trivial⟩) (by kernel_rfl) (by kernel_rfl) (by kernel_rfl) ⟨f,hm,hg,hn,trivial⟩ ⟨fun w2 ⟨f,hm,hg,hn,_⟩=>Yk.fieldAt H2 T0 ⟨rfl,Ext.refl _⟩,fun w2 ⟨f,hm,hg,hn,_⟩=>Yk.cell1 Bw rfl (vr (PQ m 4) rfl) (Ab hm (show(msgC X)[4]? =some (X.2.haves:Value)from DF X)) ⟨rfl,Ext.refl _⟩,fun w2 ⟨f,hm,hg,hn,_⟩=>Yk.cell1 EE rfl T1 (Ab hg (show _=some (PQ r 0:Value)from rfl)) ⟨rfl,Ext.refl _⟩,fun w2 ⟨f,hm,hg,hn,_⟩=>Yk.fieldAt H2 T0 ⟨rfl,Ext.refl _⟩,trivial⟩ (AI rfl fun w3 s=> ?_)
 have f:=f.trans s
 have hb:=eb s hb
 have hm:=eb s hm
 have hg:=eb s hg
 have hn:=eb s hn
 have ho:=ho.keep s
 have hq:=hq.keep s
 refine N1 (Yp.callA1 Gz (vr (PQ r 0) rfl) ?_)
 refine Ar (Et _ r v b i hb (hr.keep f) hapr hi hl) ?_ ?_
 rotate_left
 ·
  rintro ch w7 ⟨hPx,rfl,hgx⟩
  intro _
  refine postP_panic ?_
  exact .inr ⟨_,rfl,hPx,rfl,Ae f hgx lr⟩
 rintro v_ w9 ⟨c,j,hP,rfl,ag,aa⟩
 have f:=Ae f aa (Nat.le_trans (Nat.le_refl _) lr)
 clear hb
 have hm:=kb aa hm (by omega)
 have hg:=kb aa hg (by omega)
 have hn:=kb aa hn (by omega)
 have ho:=OG.kept ho aa ap.r
 have hq:=OG.kept hq aa qp.r
 have hb:=ag;clear ag
 have hle_j:=E5 hP
 have a0:=bl hb
 refine⟨.inr ⟨f,hm,hg,hn,trivial⟩,?_⟩
 refine AI rfl fun a1 t=> ?_
 have f:=f.trans t
 have hm:=eb t hm
 have hg:=eb t hg
 have hn:=eb t hn
 have ho:=ho.keep t
 have hq:=hq.keep t
 have hb:=eb t hb
 refine AW (Yk.lit1G (a:=(c.1)) (enc:=Lib.byteCells) (vr (AB c.1) rfl) (by rw[Lib.byteCells_length];exact c.2) J9 fun al a2 ac u=> ?_)
 have f:=f.trans u
 have hm:=eb u hm
 have hg:=eb u hg
 have hn:=eb u hn
 have ho:=ho.keep u
 have hq:=hq.keep u
 have hb:=eb u hb
 refine⟨.inr ⟨f,hm,hg,hn,trivial⟩,?_⟩
 refine AI rfl fun am o=> ?_
 have f:=f.trans o
 have hm:=eb o hm
 have hg:=eb o hg
 have hn:=eb o hn
 have ho:=ho.keep o
 have hq:=hq.keep o
 have hb:=eb o hb
 have ac:=ac.keep o
 refine AW (Yk.appendRG _ _ w0.heap.size _ 32 Bw wr9_ig25.choose_spec.1 wr9_ig25.choose_spec.2 Bw (X.1.haves) ([(c.1)]) (OG.of ho (vr X.2.haves rfl)) (RG.of ac (vr al rfl)) (fun _ _=>Av _) (by simp only[List.length_cons,List.length_nil];omega) (by simp only[List.length_cons,List.length_nil];omega) f.size fun l an y h=> ?_)
 have h:Grew am an X.2.haves l:=h
 have ao:OB l r:=AP h ap.r (bl hb)
 have ah:OB l m:=AP h ap.m (bl hm)
 have ar:OB l g:=AP h ap.g (bl hg)
 have au:OB l n:=AP h ap.n (bl hn)
 have ai:ApartV l X.2.wants:=KA h aq hq.2
 have av:ApartV X.2.wants l:=fun k h1 h2=>ai k h2 h1
 have f:=AF f h ho.2 (Nat.le_refl _)
 have hm:=AG hm h ap.m
 have hg:=AG hg h ap.g
 have hn:=AG hn h ap.n
 clear ho
 have hq:=GM hq h aq
 have hb:=AG hb h ap.r
 clear ac
 refine⟨.inr ⟨f,hm,hg,hn,trivial⟩,?_⟩
 refine AI rfl fun a3 z=> ?_
 have f:=f.trans z
 have hm:=eb z hm
 have hg:=eb z hg
 have hn:=eb z hn
 have hq:=hq.keep z
 have hb:=eb z hb
 have y:=y.keep z
 refine AW (Yk.storeC (i:=4) (v:=l) (vr (PQ m 4) rfl) (vr l rfl) hm (by rw[msg_len];decide) I0 (RG.one (RG.ofOwn y)).1 (RG.one (RG.ofOwn y)).2 fun aw aj ab a4=> ?_)
 have f:=Ae f ab (Nat.le_trans (Nat.le_refl _) (by omega))
 clear hm
 have hg:=kb ab hg (by omega)
 have hn:=kb ab hn (by omega)
 have hq:=OG.kept hq ab qp.m
 have hb:=kb ab hb (by omega)
 have y:=OG.kept y ab ah
 have hm:aw.heap[m]? =some (.cells (msgC ((⟨X.1.kind,X.1.session,X.1.refs,X.1.wants,(X.1.haves)++ [(c.1)],X.1.size,X.1.at_,X.1.id,X.1.bytes,X.1.name,X.1.old,X.1.new,X.1.force,X.1.code⟩,⟨X.2.refs,X.2.wants,l,X.2.bytes⟩):Ah)).toArray 29 (0,0)):=Az aj (HK X l ((X.1.haves)++ [(c.1)]));clear aj
 have a5:=bl hm
 refine⟨.inl rfl,?_⟩
 refine Cu (C3 (fn:=Tryd.f116) [] rfl [] (.tuple #[]) rfl trivial ?_)
 exact .inl ⟨_,rfl,rfl,c,j,l,hP,⟨hb,hm,hg,hn,f,hle_j⟩,y,⟨ao,ah,ar,au⟩,hq,ai,av⟩
open Go.RowKit
set_option maxRecDepth 100000
set_option linter.unusedVariables false
theorem LN{w0 w:World}{r m g n:Nat}{v:Value}{b:Bs}{p:Ai}{i:Nat}{X:Ah}(C:RC w0 r m g n v b)(hS:RS w0 r m g n v b p w i X)(h0:X.1.refs= [])(ho:OG w0.heap.size 67 66 updC w X.2.refs X.1.refs)(ap:Ap4 X.2.refs r m g n):
  Calls Tryd.prog 111 #[PQ r 0,NI 128, .func (.func 112) #[] #[PQ g 0,PQ m 0]] w fun e w' =>(∃x,e = .returned x∧x = .tuple #[]∧∃(l:List AJ) (j:Nat) (vw:Value),BO b i 128 (addUpd b) X.1.refs=some (l,j)∧RS w0 r m g n v b p w' j (({ X.1 with refs:=l },{ X.2 with refs:=vw }):Ah)∧OG w0.heap.size 67 66 updC w' vw l∧Ap4 vw r m g n)∨∃ch,e = .panicked ch∧BO b i 128 (addUpd b) X.1.refs=none∧ch= [BS]∧Ext w0 w' :=by
 have hb_:=hS.hb
 have hlr:=(bl hS.hb)
 have hlm:=(bl hS.hm)
 have hlg:=(bl hS.hg)
 have hln:=(bl hS.hn)
 have hapr:b= []∨OB v r:=by
  rcases b with _ | ⟨b0,b1⟩
  ·exact .inl rfl
  ·exact .inr fun e=>by have:=RB.lt C.hr (by simp) e;have:=C.lr;omega
 refine(MG w r g m v b i 128 hS.hb (C.hr.keep hS.hE0) hapr hS.hi C.hl (fun q u=>∃c j0,Bk b i=some (c,j0)∧c≤128∧∃(l:List AJ) (j:Nat) (vw:Value),Dw (addUpd b) q (X.1.refs,j0)=some (l,j)∧l.length=q∧RS w0 r m g n v b p u j (({ X.1 with refs:=l },{ X.2 with refs:=vw }):Ah)∧OG w0.heap.size 67 66 updC u vw l∧Ap4 vw r m g n) (fun u=>BO b i 128 (addUpd b) X.1.refs=none∧Ext w0 u) (fun c j0 w' hP hc hb' hgr=> ?_) (fun c j0 q u hP hq ⟨c',j0',hP',hc',l,j,vw,hit,hll,hS',ho',ap'⟩=> ?_) (fun w' hn hgr=>⟨FZ hn,Ae hS.hE0 hgr C.lr⟩)).mono ?_
 ·exact⟨c,j0,hP,hc,X.1.refs,j0,X.2.refs,rfl,by rw[h0];rfl,⟨hb',(hgr.block m hlm (DR (Ne.symm C.hrm))).trans hS.hm,(hgr.block g hlg (DR (Ne.symm C.hrg))).trans hS.hg,(hgr.block n hln (DR (Ne.symm C.hrn))).trans hS.hn,Ae hS.hE0 hgr C.lr,DA hS.hi hP⟩,ho.kept hgr ap.r,ap⟩
 ·rw[hP]at hP'
  cases hP'
  refine(NE C hS' ho' (by show l.length≤_;omega) ap').mono ?_
  rintro e u' (⟨x,rfl,rfl,d,j',vw',hd,a,f,ap2⟩ | ⟨ch,rfl,hd,hch,hE⟩)
  ·exact .inl ⟨_,rfl,rfl,c,j0,hP,hc',_,j',vw',by rw[Es hit];unfold addUpd;rw[hd];rfl,by show(l++ [_]).length=_;rw[List.length_append,hll];rfl,a,f,ap2⟩
  ·exact .inr ⟨ch,rfl,hch,by rw[Dl hP hc'];exact FY (j:=q+1) (by rw[Es hit];unfold addUpd;rw[hd];rfl) c hq,hE⟩
 ·rintro e w' (⟨x,rfl,rfl,c,j0,hP,hc,c',j0',hP',-,l,j,vw,hit,-,hS',ho',ap'⟩ | ⟨ch,rfl,hch,hn,hE⟩)
  ·rw[hP]at hP'
   cases hP'
   exact .inl ⟨_,rfl,rfl,l,j,vw,by rw[Dl hP hc];exact hit,hS',ho',ap'⟩
  ·exact .inr ⟨ch,rfl,hn,hch,hE⟩
theorem LO{w0 w:World}{r m g n:Nat}{v:Value}{b:Bs}{p:Ai}{i:Nat}{X:Ah}(C:RC w0 r m g n v b)(hS:RS w0 r m g n v b p w i X)(h0:X.1.wants= [])(ho:OG w0.heap.size 25 32 Lib.byteCells w X.2.wants X.1.wants)(ap:Ap4 X.2.wants r m g n):
  Calls Tryd.prog 111 #[PQ r 0,NI 65536, .func (.func 115) #[] #[PQ m 0,PQ g 0]] w fun e w' =>(∃x,e = .returned x∧x = .tuple #[]∧∃(l:List Bs) (j:Nat) (vw:Value),BO b i 65536 (addId b) X.1.wants=some (l,j)∧RS w0 r m g n v b p w' j (({ X.1 with wants:=l },{ X.2 with wants:=vw }):Ah)∧OG w0.heap.size 25 32 Lib.byteCells w' vw l∧Ap4 vw r m g n)∨∃ch,e = .panicked ch∧BO b i 65536 (addId b) X.1.wants=none∧ch= [BS]∧Ext w0 w' :=by
 have hb_:=hS.hb
 have hlr:=(bl hS.hb)
 have hlm:=(bl hS.hm)
 have hlg:=(bl hS.hg)
 have hln:=(bl hS.hn)
 have hapr:b= []∨OB v r:=by
  rcases b with _ | ⟨b0,b1⟩
  ·exact .inl rfl
  ·exact .inr fun e=>by have:=RB.lt C.hr (by simp) e;have:=C.lr;omega
 refine(MH w r g m v b i 65536 hS.hb (C.hr.keep hS.hE0) hapr hS.hi C.hl (fun q u=>∃c j0,Bk b i=some (c,j0)∧c≤65536∧∃(l:List Bs) (j:Nat) (vw:Value),Dw (addId b) q (X.1.wants,j0)=some (l,j)∧l.length=q∧RS w0 r m g n v b p u j (({ X.1 with wants:=l },{ X.2 with wants:=vw }):Ah)∧OG w0.heap.size 25 32 Lib.byteCells u vw l∧Ap4 vw r m g n) (fun u=>BO b i 65536 (addId b) X.1.wants=none∧Ext w0 u) (fun c j0 w' hP hc hb' hgr=> ?_) (fun c j0 q u hP hq ⟨c',j0',hP',hc',l,j,vw,hit,hll,hS',ho',ap'⟩=> ?_) (fun w' hn hgr=>⟨FZ hn,Ae hS.hE0 hgr C.lr⟩)).mono ?_
 ·exact⟨c,j0,hP,hc,X.1.wants,j0,X.2.wants,rfl,by rw[h0];rfl,⟨hb',(hgr.block m hlm (DR (Ne.symm C.hrm))).trans hS.hm,(hgr.block g hlg (DR (Ne.symm C.hrg))).trans hS.hg,(hgr.block n hln (DR (Ne.symm C.hrn))).trans hS.hn,Ae hS.hE0 hgr C.lr,DA hS.hi hP⟩,ho.kept hgr ap.r,ap⟩
 ·rw[hP]at hP'
  cases hP'
  refine(NF C hS' ho' (by show l.length≤_;omega) ap').mono ?_
  rintro e u' (⟨x,rfl,rfl,d,j',vw',hd,a,f,ap2⟩ | ⟨ch,rfl,hd,hch,hE⟩)
  ·exact .inl ⟨_,rfl,rfl,c,j0,hP,hc',_,j',vw',by rw[Es hit];unfold addId;rw[hd];rfl,by show(l++ [_]).length=_;rw[List.length_append,hll];rfl,a,f,ap2⟩
  ·exact .inr ⟨ch,rfl,hch,by rw[Dl hP hc'];exact FY (j:=q+1) (by rw[Es hit];unfold addId;rw[hd];rfl) c hq,hE⟩
 ·rintro e w' (⟨x,rfl,rfl,c,j0,hP,hc,c',j0',hP',-,l,j,vw,hit,-,hS',ho',ap'⟩ | ⟨ch,rfl,hch,hn,hE⟩)
  ·rw[hP]at hP'
   cases hP'
   exact .inl ⟨_,rfl,rfl,l,j,vw,by rw[Dl hP hc];exact hit,hS',ho',ap'⟩
  ·exact .inr ⟨ch,rfl,hn,hch,hE⟩
theorem LP{w0 w:World}{r m g n:Nat}{v:Value}{b:Bs}{p:Ai}{i:Nat}{X:Ah}(C:RC w0 r m g n v b)(hS:RS w0 r m g n v b p w i X)(h0:X.1.haves= [])(ho:OG w0.heap.size 25 32 Lib.byteCells w X.2.haves X.1.haves)(ap:Ap4 X.2.haves r m g n)(hq:OG w0.heap.size 25 32 Lib.byteCells w X.2.wants X.1.wants)(qp:Ap4 X.2.wants r m g n)(aq:ApartV X.2.haves X.2.wants)(qa:ApartV X.2.wants X.2.haves):
  Calls Tryd.prog 111 #[PQ r 0,NI 65536, .func (.func 116) #[] #[PQ m 0,PQ g 0]] w fun e w' =>(∃x,e = .returned x∧x = .tuple #[]∧∃(l:List Bs) (j:Nat) (vw:Value),BO b i 65536 (addId b) X.1.haves=some (l,j)∧RS w0 r m g n v b p w' j (({ X.1 with haves:=l },{ X.2 with haves:=vw }):Ah)∧OG w0.heap.size 25 32 Lib.byteCells w' vw l∧Ap4 vw r m g n∧OG w0.heap.size 25 32 Lib.byteCells w' X.2.wants X.1.wants∧ApartV vw X.2.wants∧ApartV X.2.wants vw)∨∃ch,e = .panicked ch∧BO b i 65536 (addId b) X.1.haves=none∧ch= [BS]∧Ext w0 w' :=by
 have hb_:=hS.hb
 have hlr:=(bl hS.hb)
 have hlm:=(bl hS.hm)
 have hlg:=(bl hS.hg)
 have hln:=(bl hS.hn)
 have hapr:b= []∨OB v r:=by
  rcases b with _ | ⟨b0,b1⟩
  ·exact .inl rfl
  ·exact .inr fun e=>by have:=RB.lt C.hr (by simp) e;have:=C.lr;omega
 refine(MI w r g m v b i 65536 hS.hb (C.hr.keep hS.hE0) hapr hS.hi C.hl (fun q u=>∃c j0,Bk b i=some (c,j0)∧c≤65536∧∃(l:List Bs) (j:Nat) (vw:Value),Dw (addId b) q (X.1.haves,j0)=some (l,j)∧l.length=q∧RS w0 r m g n v b p u j (({ X.1 with haves:=l },{ X.2 with haves:=vw }):Ah)∧OG w0.heap.size 25 32 Lib.byteCells u vw l∧Ap4 vw r m g n∧OG w0.heap.size 25 32 Lib.byteCells u X.2.wants X.1.wants∧ApartV vw X.2.wants∧ApartV X.2.wants vw) (fun u=>BO b i 65536 (addId b) X.1.haves=none∧Ext w0 u) (fun c j0 w' hP hc hb' hgr=> ?_) (fun c j0 q u hP hq ⟨c',j0',hP',hc',l,j,vw,hit,hll,hS',ho',ap',hq2,aq2,qa2⟩=> ?_) (fun w' hn hgr=>⟨FZ hn,Ae hS.hE0 hgr C.lr⟩)).mono ?_
 ·exact⟨c,j0,hP,hc,X.1.haves,j0,X.2.haves,rfl,by rw[h0];rfl,⟨hb',(hgr.block m hlm (DR (Ne.symm C.hrm))).trans hS.hm,(hgr.block g hlg (DR (Ne.symm C.hrg))).trans hS.hg,(hgr.block n hln (DR (Ne.symm C.hrn))).trans hS.hn,Ae hS.hE0 hgr C.lr,DA hS.hi hP⟩,ho.kept hgr ap.r,ap,hq.kept hgr qp.r,aq,qa⟩
 ·rw[hP]at hP'
  cases hP'
  refine(NG C hS' ho' (by show l.length≤_;omega) ap' hq2 qp aq2 qa2).mono ?_
  rintro e u' (⟨x,rfl,rfl,d,j',vw',hd,a,f,ap2,hq3,aq3,qa3⟩ | ⟨ch,rfl,hd,hch,hE⟩)
  ·exact .inl ⟨_,rfl,rfl,c,j0,hP,hc',_,j',vw',by rw[Es hit];unfold addId;rw[hd];rfl,by show(l++ [_]).length=_;rw[List.length_append,hll];rfl,a,f,ap2,hq3,aq3,qa3⟩
  ·exact .inr ⟨ch,rfl,hch,by rw[Dl hP hc'];exact FY (j:=q+1) (by rw[Es hit];unfold addId;rw[hd];rfl) c hq,hE⟩
 ·rintro e w' (⟨x,rfl,rfl,c,j0,hP,hc,c',j0',hP',-,l,j,vw,hit,-,hS',ho',ap',hq2,aq2,qa2⟩ | ⟨ch,rfl,hch,hn,hE⟩)
  ·rw[hP]at hP'
   cases hP'
   exact .inl ⟨_,rfl,rfl,l,j,vw,by rw[Dl hP hc];exact hit,hS',ho',ap',hq2,aq2,qa2⟩
  ·exact .inr ⟨ch,rfl,hn,hch,hE⟩
open Go.RowKit
set_option maxRecDepth 100000
structure MM (n : Nat) (X : Ah) : Prop where
 refs:∀k,Value.ownBlock X.2.refs=some k→n≤k
 wants:∀k,Value.ownBlock X.2.wants=some k→n≤k
 haves:∀k,Value.ownBlock X.2.haves=some k→n≤k
 bytes:∀k,Value.ownBlock X.2.bytes=some k→n≤k
theorem LQ(v:Value):ApartV (.slice none 0 0) v:=fun k h=>by cases h
theorem KK(v:Value):ApartV v (.slice none 0 0):=fun k _ h=>by cases h
theorem MN{d:Option Tmp}{ty:TypeId}{pos:String}{af:Array Edge}{gd:Option (Nat × Bool)}(σ:Operand→Value)(w:World):(execOp σ ⟨d, .alloc 29,ty,pos,af,gd⟩).run Tryd.prog w = .ok (.value (PQ w.heap.size 0)) (w.alloc (.cells (msgC ((⟨0,0,[],[],[],0,0,zid,[],[],zid,zid,false,0⟩,⟨.slice none 0 0, .slice none 0 0, .slice none 0 0, .slice none 0 0⟩):Ah)).toArray 29)):=by kernel_rfl
theorem F1:AN Tryd.prog 111:=fun _ _=>by kernel_rfl
theorem MO:(Tryd.prog.info? 4).map (·.size)=some 1:=by kernel_rfl
theorem LR:(Tryd.prog.info? 27).map (·.size)=some 1:=by kernel_rfl
set_option maxHeartbeats 3200000
theorem KM{w0 w:World}{r:Nat}{v:Value}{b:Bs}(f:Ext w0 w)(hb:w.heap[r]? =some (.cells (A4 (AL v b (0))).toArray 111 (0,0)))(hr:RB w0 v b)(lr:w0.heap.size≤r)(hl:b.length≤4611686018427387904):
  Calls Tryd.prog 67 #[PQ r 0] w fun e w' =>(∃x,e = .returned x∧∃X:Ah,Cv b=some X.1∧x = .agg (msgC X).toArray∧MsgAt w' X∧MM w0.heap.size X∧Ext w0 w')∨∃ch,e = .panicked ch∧Cv b=none∧ch= [BS]∧Ext w0 w' :=by
 have nf:=f.size
 have hlr:=(bl hb)
 have hapr:b= []∨OB v r:=by
   rcases b with _ | ⟨b0,b1⟩
   ·exact .inl rfl
   ·exact .inr fun e=>by have:=RB.lt hr (by simp) e;omega
 refine BN (args:= [PQ r 0]) Tryd.func67 rfl 95 rfl (Nat.le_of_ble_eq_true rfl) ?_
 intro gb hb
 have T0:gb 0=(PQ r 0:Value):=hb.get 0
 clear hb
 have hE:=Ext.refl w
 refine sk fun K1 gc=>(wt (oS rfl (Yk.box1 T0 rfl fun n2 w3 ge eg ct nh=> ?_)))
 have cu:=Ext.refl w
 have ni:=hE.size
 have nj:=f.size
 have nk:=Bo (bl hb) ge
 have f:=f.trans ct
 have hb:=eb ct hb
 have hE:=hE.trans ct
 have cu:=cu.trans ct
 have l:=eg;clear eg
 have nl:n2<w3.heap.size:=by omega
 refine oS rfl (Yk.alloc (cs:=(msgC ((⟨0,0,[],[],[],0,0,zid,[],[],zid,zid,false,0⟩,⟨.slice none 0 0, .slice none 0 0, .slice none 0 0, .slice none 0 0⟩):Ah)).toArray) MN fun y gf eh ei dt nm=> ?_)
 have nn:=hE.size
 have du:=f.size
 have no:=cu.size
 have np:=Bo (bl hb) eh
 have nq:=Bo (bl l) eh
 have f:=f.trans dt
 have hb:=eb dt hb
 have l:=eb dt l
 have j:=ei;clear ei
 have nr:y<gf.heap.size:=by omega
 refine oZ (tN (gc _ _ (sk fun ns ej=>(wt (oS rfl (Yk.cell1 EE rfl (vr (PQ n2 0) rfl) (Ab l (show _=some (PQ r 0:Value)from rfl)) (oP rfl (Yp.callA1 MJ (vr (PQ r 0) rfl) ?_))))))))
 refine Ar (Ho _ r v b 0 hb (hr.keep f) hapr (Nat.zero_le _) hl) ?_ ?_
 rotate_left
 ·
  rintro ch nt ⟨hPx,rfl,hgx⟩
  refine Aq (postP_panic ?_)
  exact .inr ⟨_,rfl,by unfold Cv;rw[hPx];rfl,rfl,(Ae f hgx lr)⟩
 rintro v_ nu ⟨c1,j1,hP1,rfl,el,dv⟩
 have f:=Ae f dv (Nat.le_trans (Nat.le_refl _) lr)
 clear hb
 clear hE
 clear cu
 have l:=kb dv l (by omega)
 have j:=kb dv j (by omega)
 have hb:=el;clear el
 have hle_j1:=Hn hP1
 have nv:=bl hb
 refine oS rfl (Yk.fieldAt H8 (vr (PQ y 0) rfl) (oS rfl (Yk.storeC (i:=0) (v:=B8 (c1)) (vr (PQ y 0) rfl) (vr (B8 (c1)) rfl) j (by rw[msg_len];decide) OC rfl rfl fun al em dw nw=> ?_)))
 have f:=Ae f dw (Nat.le_trans du (by omega))
 have l:=kb dw l (by omega)
 clear j
 have hb:=kb dw hb (by omega)
 have j:al.heap[y]? =some (.cells (msgC ((⟨c1,0,[],[],[],0,0,zid,[],[],zid,zid,false,0⟩,⟨(Value.slice none 0 0),(Value.slice none 0 0),(Value.slice none 0 0),(Value.slice none 0 0)⟩):Ah)).toArray 29 (0,0)):=Az em (Me ((⟨0,0,[],[],[],0,0,zid,[],[],zid,zid,false,0⟩,⟨.slice none 0 0, .slice none 0 0, .slice none 0 0, .slice none 0 0⟩):Ah) c1);clear em
 have nx:=bl j
 refine oZ ?_
 rcases hK:AV c1 with _ | p
 ·refine tN (ej _ _ (sk fun ny gg=> ?_))
  have nz:=f.size
  have n0:n2<al.heap.size:=(bl l)
  have n1:r<al.heap.size:=(bl hb)
  have n3:y<al.heap.size:=(bl j)
  refine D0 0 7 8 9 92 (partsC (⟨false,false,false,false,false,false,false,false⟩:Ai)).toArray (partsC BA).toArray [fun x w' =>∃b,x = .map (some b)∧MapF B8 AH (fun _:UInt8=>True) w' b AV,Is (PQ y 0),Is (B8 (c1)),Is (.tuple #[.agg (partsC BA).toArray, .bool (false)]),Is (.tuple #[.agg (partsC BA).toArray, .bool (false)]),Is (.agg (partsC BA).toArray),Is (.bool (false)),RowK al 92 8,(fun _ _=>True)] (by kernel_rfl) [10,11,12,13,9,14,15,3,4] (by kernel_rfl) (by kernel_rfl) (by kernel_rfl) (by kernel_rfl) rfl rfl (by kernel_rfl) rfl rfl rfl rfl rfl rfl rfl ⟨(fun _ _ _ ⟨b,h1,h2⟩ k=>⟨b,h1,MapF.stabK h2 k⟩),Stab.is _,Stab.is _,Stab.is _,Stab.is _,Stab.is _,Stab.is _,RowK.stab _ _ _,Stab.any,trivial⟩ rfl ?gh ?hQ1002
  case gh=>
   refine⟨?_,?_,?_,?_,?_,?_,?_,?_,?_,?_,trivial⟩
   ·refine AT (Aa rfl fun σ w1 hC h=> ?_)
    have hC:Ext al w1:=hC
    refine Yk.callA0 J2 ((Cs _).mono ?_)
    rintro e w2 ⟨b,rfl,hmk,hx,hom⟩
    exact⟨_,rfl,⟨hx,hom⟩,⟨b,rfl,hmk⟩⟩
   ·refine AT (Aa rfl fun σ w1 hC h=> ?_)
    have hC:Ext al w1:=hC
    have e2:σ 2=PQ y 0:=(Af (h 2 (by decide))).trans rfl
    exact Yk.fieldAt H8 e2 ⟨rfl,rfl⟩
   ·refine AT (Aa rfl fun σ w1 hC h=> ?_)
    have hC:Ext al w1:=hC
    have dx:=Af (h 11 (by decide))
    exact Yk.cell1 u5 rfl dx (Ab (eb hC j) (show(msgC ((⟨c1,0,[],[],[],0,0,zid,[],[],zid,zid,false,0⟩,⟨(Value.slice none 0 0),(Value.slice none 0 0),(Value.slice none 0 0),(Value.slice none 0 0)⟩):Ah))[0]? =some (B8 (c1):Value)from Bv ((⟨c1,0,[],[],[],0,0,zid,[],[],zid,zid,false,0⟩,⟨(Value.slice none 0 0),(Value.slice none 0 0),(Value.slice none 0 0),(Value.slice none 0 0)⟩):Ah))) ⟨rfl,rfl⟩
   ·refine AT (Aa rfl fun σ w1 hC h=> ?_)
    have hC:Ext al w1:=hC
    have dy:(fun x w' =>∃b,x = .map (some b)∧MapF B8 AH (fun _:UInt8=>True) w' b AV) (σ 10) w1:=h 10 (by decide)
    have dz:=Af (h 12 (by decide))
    obtain⟨b6,k6,m6⟩:=(show ∃b,σ 10 = .map (some b)∧MapF B8 AH (fun _:UInt8=>True) w1 b AV from dy)
    exact Yk.lookOkN (ek:=B8) (ev:=AH) (D:=fun _:UInt8=>True) CE CF (fun _ _=>Dv) C8 (z:=AH BA) Cr k6 dz m6 trivial hK ⟨rfl,rfl⟩
   ·refine AT (Aa rfl fun σ w1 hC h=> ?_)
    have hC:Ext al w1:=hC
    have d0:=Af (h 13 (by decide))
    exact Yk.move d0 ⟨rfl,rfl⟩
   ·refine AT (Aa rfl fun σ w1 hC h=> ?_)
    have hC:Ext al w1:=hC
    have e9:=Af (h 9 (by decide))
    exact Yk.extract (vs:= [.agg (partsC BA).toArray, .bool (false)]) e9 (show _=some (.agg (partsC BA).toArray:Value)from rfl) ⟨rfl,rfl⟩
   ·refine AT (Aa rfl fun σ w1 hC h=> ?_)
    have hC:Ext al w1:=hC
    have e9:=Af (h 9 (by decide))
    exact Yk.extract (vs:= [.agg (partsC BA).toArray, .bool (false)]) e9 (show _=some (.bool (false):Value)from rfl) ⟨rfl,rfl⟩
   ·refine AT (Aa rfl fun σ w1 hC h=> ?_)
    have hC:Eo al w1:=hC
    exact Yk.allocX J3 ⟨⟨hC,rfl⟩,w1.heap.size,_,rfl,hC.1.size,heap_alloc_new _ _,rfl⟩
   ·refine AT (Aa rfl fun σ w1 hC h=> ?_)
    have hC:D3 al w1:=hC
    have e3:(RowK al 92 8) (σ 3) w1:=h 3 (by decide)
    have d8:=Af (h 14 (by decide))
    obtain⟨g,cs,h1,h2,h3,h4⟩:=e3
    exact Yk.storeAll h1 d8 (show _=some (Obj.cells cs.toList.toArray 92 (0,0)) by simpa using h3) (by rw[show cs.toList.toArray=cs by simp,h4];rfl) (show(Tryd.prog.info? 92).map (·.size)=some 8 from Gt) (Cp) fun w2 a b c=>⟨⟨hC,g,cs,h2,h3,(by rw[h4];rfl),a,b,c⟩,trivial⟩
   ·exact trivial
  intro en gi cv hun55 he hf
  obtain⟨-,-,-,-,-,-,k15,k3,-⟩:=hf
  obtain⟨T0,q,s,-⟩:=he.hold [(0,_),(1,PQ n2 0),(2,PQ y 0)] ⟨T0,rfl,rfl,trivial⟩ rfl
  clear he
  have f:=f.trans cv
  have l:=eb cv l
  have hb:=eb cv hb
  have j:=eb cv j
  obtain⟨gj,cs_,o,gk,eo,n4⟩:=(show(RowK al 92 8) (en 3) gi from k3)
  obtain rfl:=hun55 gj cs_ _ _ gk eo
  clear k3
  have n5:=bl eo
  have a4:en 15 = .bool (false):=k15
  clear k15
  refine oA rfl (oZ (tN (gg _ _ (sk fun n6 n7=>(wt (oM rfl (oP rfl (Yp.callA1 CQ a4 ?_))))))))
  refine Ar (AZ _ (false)) ?_ ?_
  rotate_left
  ·
   rintro ch n8 ⟨rfl,hb,hx⟩
   refine Aq (postP_panic ?_)
   exact .inr ⟨_,rfl,by unfold Cv;simp[hP1,hK],rfl,f.trans hx⟩
  rintro v_ n9 ⟨rfl,gl,oa⟩
  cases gl
 refine tN (ej _ _ (sk fun ob gm=> ?_))
 have oc:=f.size
 have od:n2<al.heap.size:=(bl l)
 have oe:r<al.heap.size:=(bl hb)
 have og:y<al.heap.size:=(bl j)
 refine D0 0 7 8 9 92 (partsC (⟨false,false,false,false,false,false,false,false⟩:Ai)).toArray (partsC p).toArray [fun x w' =>∃b,x = .map (some b)∧MapF B8 AH (fun _:UInt8=>True) w' b AV,Is (PQ y 0),Is (B8 (c1)),Is (.tuple #[.agg (partsC p).toArray, .bool (true)]),Is (.tuple #[.agg (partsC p).toArray, .bool (true)]),Is (.agg (partsC p).toArray),Is (.bool (true)),RowK al 92 8,(fun _ _=>True)] (by kernel_rfl) [10,11,12,13,9,14,15,3,4] (by kernel_rfl) (by kernel_rfl) (by kernel_rfl) (by kernel_rfl) rfl rfl (by kernel_rfl) rfl rfl rfl rfl rfl rfl rfl ⟨(fun _ _ _ ⟨b,h1,h2⟩ k=>⟨b,h1,MapF.stabK h2 k⟩),Stab.is _,Stab.is _,Stab.is _,Stab.is _,Stab.is _,Stab.is _,RowK.stab _ _ _,Stab.any,trivial⟩ rfl ?gn ?hQ2002
 case gn=>
  refine⟨?_,?_,?_,?_,?_,?_,?_,?_,?_,?_,trivial⟩
  ·refine AT (Aa rfl fun σ w1 hC h=> ?_)
   have hC:Ext al w1:=hC
   refine Yk.callA0 J2 ((Cs _).mono ?_)
   rintro e w2 ⟨b,rfl,hmk,hx,hom⟩
   exact⟨_,rfl,⟨hx,hom⟩,⟨b,rfl,hmk⟩⟩
  ·refine AT (Aa rfl fun σ w1 hC h=> ?_)
   have hC:Ext al w1:=hC
   have e2:σ 2=PQ y 0:=(Af (h 2 (by decide))).trans rfl
   exact Yk.fieldAt H8 e2 ⟨rfl,rfl⟩
  ·refine AT (Aa rfl fun σ w1 hC h=> ?_)
   have hC:Ext al w1:=hC
   have dx:=Af (h 11 (by decide))
   exact Yk.cell1 u5 rfl dx (Ab (eb hC j) (show(msgC ((⟨c1,0,[],[],[],0,0,zid,[],[],zid,zid,false,0⟩,⟨(Value.slice none 0 0),(Value.slice none 0 0),(Value.slice none 0 0),(Value.slice none 0 0)⟩):Ah))[0]? =some (B8 (c1):Value)from Bv ((⟨c1,0,[],[],[],0,0,zid,[],[],zid,zid,false,0⟩,⟨(Value.slice none 0 0),(Value.slice none 0 0),(Value.slice none 0 0),(Value.slice none 0 0)⟩):Ah))) ⟨rfl,rfl⟩
  ·refine AT (Aa rfl fun σ w1 hC h=> ?_)
   have hC:Ext al w1:=hC
   have dy:(fun x w' =>∃b,x = .map (some b)∧MapF B8 AH (fun _:UInt8=>True) w' b AV) (σ 10) w1:=h 10 (by decide)
   have dz:=Af (h 12 (by decide))
   obtain⟨b6,k6,m6⟩:=(show ∃b,σ 10 = .map (some b)∧MapF B8 AH (fun _:UInt8=>True) w1 b AV from dy)
   exact Yk.lookOkS (ek:=B8) (ev:=AH) (D:=fun _:UInt8=>True) CE CF (fun _ _=>Dv) C8 (z:=AH BA) Cr k6 dz m6 trivial hK ⟨rfl,rfl⟩
  ·refine AT (Aa rfl fun σ w1 hC h=> ?_)
   have hC:Ext al w1:=hC
   have d0:=Af (h 13 (by decide))
   exact Yk.move d0 ⟨rfl,rfl⟩
  ·refine AT (Aa rfl fun σ w1 hC h=> ?_)
   have hC:Ext al w1:=hC
   have e9:=Af (h 9 (by decide))
   exact Yk.extract (vs:= [.agg (partsC p).toArray, .bool (true)]) e9 (show _=some (.agg (partsC p).toArray:Value)from rfl) ⟨rfl,rfl⟩
  ·refine AT (Aa rfl fun σ w1 hC h=> ?_)
   have hC:Ext al w1:=hC
   have e9:=Af (h 9 (by decide))
   exact Yk.extract (vs:= [.agg (partsC p).toArray, .bool (true)]) e9 (show _=some (.bool (true):Value)from rfl) ⟨rfl,rfl⟩
  ·refine AT (Aa rfl fun σ w1 hC h=> ?_)
   have hC:Eo al w1:=hC
   exact Yk.allocX J3 ⟨⟨hC,rfl⟩,w1.heap.size,_,rfl,hC.1.size,heap_alloc_new _ _,rfl⟩
  ·refine AT (Aa rfl fun σ w1 hC h=> ?_)
   have hC:D3 al w1:=hC
   have e3:(RowK al 92 8) (σ 3) w1:=h 3 (by decide)
   have d8:=Af (h 14 (by decide))
   obtain⟨g,cs,h1,h2,h3,h4⟩:=e3
   exact Yk.storeAll h1 d8 (show _=some (Obj.cells cs.toList.toArray 92 (0,0)) by simpa using h3) (by rw[show cs.toList.toArray=cs by simp,h4];rfl) (show(Tryd.prog.info? 92).map (·.size)=some 8 from Gt) (Cp) fun w2 a b c=>⟨⟨hC,g,cs,h2,h3,(by rw[h4];rfl),a,b,c⟩,trivial⟩
  ·exact trivial
 intro ep go cw hun78 he hf
 obtain⟨-,-,-,-,-,-,k15,k3,-⟩:=hf
 obtain⟨T0,q,s,-⟩:=he.hold [(0,_),(1,PQ n2 0),(2,PQ y 0)] ⟨T0,rfl,rfl,trivial⟩ rfl
 clear he
 have f:=f.trans cw
 have l:=eb cw l
 have hb:=eb cw hb
 have j:=eb cw j
 obtain⟨t,cs_,o,gp,n,oh⟩:=(show(RowK al 92 8) (ep 3) go from k3)
 obtain rfl:=hun78 t cs_ _ _ gp n
 clear k3
 have oi:=bl n
 have a4:ep 15 = .bool (true):=k15
 clear k15
 refine oA rfl (oZ (tN (gm _ _ (sk fun oj gq=>(wt (oM rfl (oP rfl (Yp.callA1 CQ a4 ?_))))))))
 refine Ar (AZ _ (true)) ?_ ?_
 rotate_left
 ·
  rintro ch ok ⟨rfl,hb,hx⟩
  refine Aq (postP_panic ?_)
  cases hb
 rintro v_ ol ⟨rfl,om,b8⟩
 have f:=f.trans b8
 have l:=eb b8 l
 have hb:=eb b8 hb
 have j:=eb b8 j
 have n:=eb b8 n
 refine oZ (tN (gq _ _ (sk fun on bt=>(wt (oS rfl (Yk.cell1 EE rfl q (Ab l (show _=some (PQ r 0:Value)from rfl)) (oP rfl (Yp.callA1 Gy (vr (PQ r 0) rfl) ?_))))))))
 refine Ar (Cy _ r v b j1 hb (hr.keep f) hapr hle_j1 hl) ?_ ?_
 rotate_left
 ·
  rintro ch oo ⟨hPx,rfl,hgx⟩
  refine Aq (postP_panic ?_)
  exact .inr ⟨_,rfl,by unfold Cv;simp[hP1,hPx],rfl,(Ae f hgx lr)⟩
 rintro v_ op ⟨c2,j2,hP2,rfl,eq,cx⟩
 have f:=Ae f cx (Nat.le_trans (Nat.le_refl _) lr)
 have l:=kb cx l (by omega)
 clear hb
 have j:=kb cx j (by omega)
 have n:=kb cx n (by omega)
 have hb:=eq;clear eq
 have hle_j2:=DA hle_j1 hP2
 have oq:=bl hb
 refine oS rfl (Yk.fieldAt LK s (oS rfl (Yk.storeC (i:=1) (v:=NI c2) (vr (PQ y 1) rfl) (vr (NI c2) rfl) j (by rw[msg_len];decide) Dm rfl rfl fun gr er cy os=> ?_)))
 have f:=Ae f cy (Nat.le_trans du (by omega))
 have l:=kb cy l (by omega)
 clear j
 have n:=kb cy n (by omega)
 have hb:=kb cy hb (by omega)
 have j:gr.heap[y]? =some (.cells (msgC ((⟨c1,((c2:Nat):Int),[],[],[],0,0,zid,[],[],zid,zid,false,0⟩,⟨(Value.slice none 0 0),(Value.slice none 0 0),(Value.slice none 0 0),(Value.slice none 0 0)⟩):Ah)).toArray 29 (0,0)):=Az er (Mf ((⟨c1,0,[],[],[],0,0,zid,[],[],zid,zid,false,0⟩,⟨(Value.slice none 0 0),(Value.slice none 0 0),(Value.slice none 0 0),(Value.slice none 0 0)⟩):Ah) ((c2:Nat):Int));clear er
 have ot:=bl j
 refine oZ ?_
 rcases CX hK with ⟨hk,rfl⟩ | ⟨hk,rfl⟩ | ⟨hk,rfl⟩ | ⟨hk,rfl⟩ | ⟨hk,rfl⟩ | ⟨hk,rfl⟩ | ⟨hk,rfl⟩ | ⟨hk,rfl⟩
 ·have hD:=DU hP1 hK hP2
  rw[Mu (m:=(⟨c1,((c2:Nat):Int),[],[],[],0,0,zid,[],[],zid,zid,false,0⟩:Msg)) hk]at hD
  refine tN (bt _ _ (sk fun ou gs=>(sk fun ov gt=>(wt (oS rfl (Yk.fieldAt LD o (oS rfl (Yk.cell1 De rfl (vr (PQ t 0) rfl) (Ab n (show(partsC (⟨false,false,false,false,false,false,false,false⟩:Ai))[0]? =some (.bool (false):Value)from BW (⟨false,false,false,false,false,false,false,false⟩:Ai))) (oZ (tN (gt _ _ (Am (vr (.bool (false)) rfl) (Ak (tN (gs _ _ (sk fun ow gu=>(sk fun ox gv=>(wt (oS rfl (Yk.fieldAt LE o (oS rfl (Yk.cell1 De rfl (vr (PQ t 1) rfl) (Ab n (show(partsC (⟨false,false,false,false,false,false,false,false⟩:Ai))[1]? =some (.bool (false):Value)from BX (⟨false,false,false,false,false,false,false,false⟩:Ai))) ?_))))))))))))))))))))))
  refine oZ (tN (gv _ _ (Am (vr (.bool (false)) rfl) (Ak (tN (gu _ _ (sk fun oy gw=>(sk fun oz gx=>(wt (oS rfl (Yk.fieldAt LF o (oS rfl (Yk.cell1 De rfl (vr (PQ t 2) rfl) (Ab n (show(partsC (⟨false,false,false,false,false,false,false,false⟩:Ai))[2]? =some (.bool (false):Value)from BY (⟨false,false,false,false,false,false,false,false⟩:Ai))) (oZ (tN (gx _ _ (Am (vr (.bool (false)) rfl) (Ak (tN (gw _ _ (sk fun o0 gy=> ?_)))))))))))))))))))))
  refine sk fun o1 gz=>(wt (oS rfl (Yk.fieldAt LG o (oS rfl (Yk.cell1 De rfl (vr (PQ t 3) rfl) (Ab n (show(partsC (⟨false,false,false,false,false,false,false,false⟩:Ai))[3]? =some (.bool (false):Value)from BZ (⟨false,false,false,false,false,false,false,false⟩:Ai))) (oZ (tN (gz _ _ (Am (vr (.bool (false)) rfl) (Ak (tN (gy _ _ (sk fun o2 g0=>(sk fun o3 g1=>(wt (oS rfl (Yk.fieldAt LH o (oS rfl (Yk.cell1 De rfl (vr (PQ t 4) rfl) (Ab n (show(partsC (⟨false,false,false,false,false,false,false,false⟩:Ai))[4]? =some (.bool (false):Value)from B0 (⟨false,false,false,false,false,false,false,false⟩:Ai))) (oZ (tN (g1 _ _ ?_))))))))))))))))))))))
  refine Am (vr (.bool (false)) rfl) (Ak (tN (g0 _ _ (sk fun o4 g2=>(sk fun o5 g3=>(wt (oS rfl (Yk.fieldAt H5 o (oS rfl (Yk.cell1 De rfl (vr (PQ t 5) rfl) (Ab n (show(partsC (⟨false,false,false,false,false,false,false,false⟩:Ai))[5]? =some (.bool (false):Value)from BP (⟨false,false,false,false,false,false,false,false⟩:Ai))) (oZ (tN (g3 _ _ (Am (vr (.bool (false)) rfl) (Ak (tN (g2 _ _ (sk fun o6 g4=>(sk fun o7 g5=>(wt ?_))))))))))))))))))))
  refine oS rfl (Yk.fieldAt H6 o (oS rfl (Yk.cell1 De rfl (vr (PQ t 6) rfl) (Ab n (show(partsC (⟨false,false,false,false,false,false,false,false⟩:Ai))[6]? =some (.bool (false):Value)from BQ (⟨false,false,false,false,false,false,false,false⟩:Ai))) (oZ (tN (g5 _ _ (Am (vr (.bool (false)) rfl) (Ak (tN (g4 _ _ (sk fun o8 es=>(sk fun o9 et=>(wt (oS rfl (Yk.fieldAt LJ o (oS rfl (Yk.cell1 De rfl (vr (PQ t 7) rfl) (Ab n (show(partsC (⟨false,false,false,false,false,false,false,false⟩:Ai))[7]? =some (.bool (false):Value)from BR (⟨false,false,false,false,false,false,false,false⟩:Ai))) (oZ ?_))))))))))))))))))
  have hMl:B9 (((⟨c1,((c2:Nat):Int),[],[],[],0,0,zid,[],[],zid,zid,false,0⟩,⟨(Value.slice none 0 0),(Value.slice none 0 0),(Value.slice none 0 0),(Value.slice none 0 0)⟩):Ah):Ah).1:=⟨by simp,fun u hu=>(by cases hu),by simp,by simp,by simp⟩
  by_cases hj:j2=b.length
  ·refine tN (et _ _ (Am (vr (.bool (false)) rfl) (Ak (tN (es _ _ (sk fun pa g6=> ?_))))))
   refine Bh 14 _ [Is (PQ r 0),Is (PQ r 0),Is (PQ r 1),Is (NI j2),Is (PQ r 0),Is (PQ r 0),Is (PQ r 0),Is (v),Is (NI b.length),Is (.bool (true)),Is (.bool (true)),Is (.agg (msgC ((⟨c1,((c2:Nat):Int),[],[],[],0,0,zid,[],[],zid,zid,false,0⟩,⟨(Value.slice none 0 0),(Value.slice none 0 0),(Value.slice none 0 0),(Value.slice none 0 0)⟩):Ah)).toArray),Is (.bool (rightB (((⟨c1,((c2:Nat):Int),[],[],[],0,0,zid,[],[],zid,zid,false,0⟩,⟨(Value.slice none 0 0),(Value.slice none 0 0),(Value.slice none 0 0),(Value.slice none 0 0)⟩):Ah):Ah).1)),Is (.bool (rightB (((⟨c1,((c2:Nat):Int),[],[],[],0,0,zid,[],[],zid,zid,false,0⟩,⟨(Value.slice none 0 0),(Value.slice none 0 0),(Value.slice none 0 0),(Value.slice none 0 0)⟩):Ah):Ah).1))] (by kernel_rfl) [79,80,81,82,83,84,85,86,87,88,89,90,91,92,93] (by kernel_rfl) (by kernel_rfl) (by kernel_rfl) rfl rfl rfl (fun _ _=>trivial) (Db (B6 trivial)) ?g7 ?hQ3027
   case g7=>
    refine⟨?_,?_,?_,?_,?_,?_,?_,?_,?_,?_,?_,?_,?_,?_,?_,trivial⟩
    ·refine Aj (Aa rfl fun σ w1 hC h=> ?_)
     have e1:=(Af (h 1 (by decide))).trans q
     exact Yk.cell1 EE rfl e1 (Ab (eb hC l) (show _=some (PQ r 0:Value)from rfl)) ⟨Ext.refl _,rfl⟩
    ·refine Aj (Aa rfl fun σ w1 hC h=> ?_)
     have am:=Af (h 79 (by decide))
     exact Yk.nilCheck am ⟨Ext.refl _,rfl⟩
    ·refine Aj (Aa rfl fun σ w1 hC h=> ?_)
     have an:=Af (h 80 (by decide))
     exact Yk.fieldAt Bi an ⟨Ext.refl _,rfl⟩
    ·refine Aj (Aa rfl fun σ w1 hC h=> ?_)
     have ao:=Af (h 81 (by decide))
     exact Yk.cell1 FI rfl ao (Ab (eb hC hb) (show(A4 (AL v b (j2)))[1]? =some (NI j2:Value)from BV (AL v b (j2)))) ⟨Ext.refl _,rfl⟩
    ·refine Aj (Aa rfl fun σ w1 hC h=> ?_)
     have e1:=(Af (h 1 (by decide))).trans q
     exact Yk.cell1 EE rfl e1 (Ab (eb hC l) (show _=some (PQ r 0:Value)from rfl)) ⟨Ext.refl _,rfl⟩
    ·refine Aj (Aa rfl fun σ w1 hC h=> ?_)
     have ap:=Af (h 83 (by decide))
     exact Yk.nilCheck ap ⟨Ext.refl _,rfl⟩
    ·refine Aj (Aa rfl fun σ w1 hC h=> ?_)
     have aq:=Af (h 84 (by decide))
     exact Yk.fieldAt Cb aq ⟨Ext.refl _,rfl⟩
    ·refine Aj (Aa rfl fun σ w1 hC h=> ?_)
     have ar:=Af (h 85 (by decide))
     exact Yk.cell1 El rfl ar (Ab (eb hC hb) (show(A4 (AL v b (j2)))[0]? =some (v:Value)from B2 (AL v b (j2)))) ⟨Ext.refl _,rfl⟩
    ·refine Aj (Aa rfl fun σ w1 hC h=> ?_)
     have au:=Af (h 86 (by decide))
     exact Yk.lenRB El (RB.of (hr.keep (f.trans hC)) au) ⟨Ext.refl _,rfl⟩
    ·refine Aj (Aa rfl fun σ w1 hC h=> ?_)
     have av:=Af (h 82 (by decide))
     have aw:=Af (h 87 (by decide))
     exact Yk.eqI (a:=(j2:Nat)) (b:=(b.length:Nat)) av aw (k_eql _ _ _ _) ⟨Ext.refl _,(congrArg Value.bool (decide_eq_true (hj)))⟩
    ·refine Aj (Aa rfl fun σ w1 hC h=> ?_)
     have ax:=Af (h 88 (by decide))
     exact Yk.move ax ⟨Ext.refl _,rfl⟩
    ·refine Aj (AD 10 true 89 rfl rfl (fun _ _ h=>h) fun σ w1 hC h=> ?_)
     have e2:=(Af (h 2 (by decide))).trans s
     exact Yk.loadAll e2 (eb hC j) (Nr).choose_spec rfl (Au (msg_len ((⟨c1,((c2:Nat):Int),[],[],[],0,0,zid,[],[],zid,zid,false,0⟩,⟨(Value.slice none 0 0),(Value.slice none 0 0),(Value.slice none 0 0),(Value.slice none 0 0)⟩):Ah)) Mr) ⟨Ext.refl _,rfl⟩
    ·refine Aj (AD 10 true 89 rfl rfl (fun _ _ h=>h) fun σ w1 hC h=> ?_)
     have a5:=Af (h 90 (by decide))
     refine Yk.callA1 Nz a5 ((CP _ ((⟨c1,((c2:Nat):Int),[],[],[],0,0,zid,[],[],zid,zid,false,0⟩,⟨(Value.slice none 0 0),(Value.slice none 0 0),(Value.slice none 0 0),(Value.slice none 0 0)⟩):Ah) (MsgAt.mk (RG.nil _ _ _) (RG.nil _ _ _) (RG.nil _ _ _) (RB.nil _)) hMl).mono ?_)
     rintro e w2 ⟨rfl,hx⟩
     exact⟨_,rfl,hx,rfl⟩
    ·refine Aj (Aa rfl fun σ w1 hC h=> ?_)
     have ay:=Af (h 89 (by decide))
     have a6:=Af (h 91 (by decide))
     exact Yk.pickT ay a6 ⟨Ext.refl _,rfl⟩
    ·exact trivial
   intro g8 pb b9 he hf
   obtain⟨-,-,-,-,-,-,-,-,-,-,-,-,-,k92,-⟩:=hf
   obtain⟨T0,q,s,o,T4,ad,ae,af,ag,ah,ai,aj,az,-⟩:=he.hold [(0,_),(1,_),(2,_),(3,_),(4,_),(22, .bool (false)),(27, .bool (false)),(35, .bool (false)),(40, .bool (false)),(45, .bool (false)),(50, .bool (false)),(56, .bool (false)),(75, .bool (false))] ⟨T0,q,s,o,a4,rfl,rfl,rfl,rfl,rfl,rfl,rfl,rfl,trivial⟩ rfl
   clear he
   have f:=f.trans b9
   have l:=eb b9 l
   have n:=eb b9 n
   have hb:=eb b9 hb
   have j:=eb b9 j
   have a0:g8 92 = .bool (rightB (((⟨c1,((c2:Nat):Int),[],[],[],0,0,zid,[],[],zid,zid,false,0⟩,⟨(Value.slice none 0 0),(Value.slice none 0 0),(Value.slice none 0 0),(Value.slice none 0 0)⟩):Ah):Ah).1):=k92
   clear k92
   refine Yp.callA1 CQ a0 ?_
   refine Ar (AZ _ (rightB (((⟨c1,((c2:Nat):Int),[],[],[],0,0,zid,[],[],zid,zid,false,0⟩,⟨(Value.slice none 0 0),(Value.slice none 0 0),(Value.slice none 0 0),(Value.slice none 0 0)⟩):Ah):Ah).1)) ?_ ?_
   rotate_left
   ·
    rintro ch pc ⟨rfl,hb,hx⟩
    refine Aq (postP_panic ?_)
    exact .inr ⟨_,rfl,by rw[hD];simp only[Option.bind_some];refine if_neg ?_;rintro⟨h1,h2⟩;exact Bool.noConfusion (h2.symm.trans hb),rfl,f.trans hx⟩
   rintro v_ pd ⟨rfl,g9,ca⟩
   have f:=f.trans ca
   have l:=eb ca l
   have n:=eb ca n
   have hb:=eb ca hb
   have j:=eb ca j
   intro bb bc
   have T0:bb 0=(PQ r 0:Value):=(bc 0 (by decide)).trans T0
   have q:bb 1=(PQ n2 0:Value):=(bc 1 (by decide)).trans q
   have s:bb 2=(PQ y 0:Value):=(bc 2 (by decide)).trans s
   have o:bb 3=(PQ t 0:Value):=(bc 3 (by decide)).trans o
   have T4:bb 4=(.bool (true):Value):=(bc 4 (by decide)).trans T4
   have ad:bb 22=(.bool (false):Value):=(bc 22 (by decide)).trans ad
   have ae:bb 27=(.bool (false):Value):=(bc 27 (by decide)).trans ae
   have af:bb 35=(.bool (false):Value):=(bc 35 (by decide)).trans af
   have ag:bb 40=(.bool (false):Value):=(bc 40 (by decide)).trans ag
   have ah:bb 45=(.bool (false):Value):=(bc 45 (by decide)).trans ah
   have ai:bb 50=(.bool (false):Value):=(bc 50 (by decide)).trans ai
   have aj:bb 56=(.bool (false):Value):=(bc 56 (by decide)).trans aj
   have az:bb 75=(.bool (false):Value):=(bc 75 (by decide)).trans az
   refine tN (g6 _ _ (sk fun pe ha=>(wt (oS rfl (Yk.loadAll s j (Nr).choose_spec rfl (Au (msg_len ((⟨c1,((c2:Nat):Int),[],[],[],0,0,zid,[],[],zid,zid,false,0⟩,⟨(Value.slice none 0 0),(Value.slice none 0 0),(Value.slice none 0 0),(Value.slice none 0 0)⟩):Ah)) Mr) (oS rfl (Yk.storeAll s (vr (.agg (msgC ((⟨c1,((c2:Nat):Int),[],[],[],0,0,zid,[],[],zid,zid,false,0⟩,⟨(Value.slice none 0 0),(Value.slice none 0 0),(Value.slice none 0 0),(Value.slice none 0 0)⟩):Ah)).toArray) rfl) j (by simp only[List.size_toArray,msg_len]) (Au (msg_len _) Mr) (BK (x:=((⟨c1,((c2:Nat):Int),[],[],[],0,0,zid,[],[],zid,zid,false,0⟩,⟨(Value.slice none 0 0),(Value.slice none 0 0),(Value.slice none 0 0),(Value.slice none 0 0)⟩):Ah)) rfl rfl rfl rfl) fun hc eu cz pf=> ?_)))))))
   have f:=Ae f cz (Nat.le_trans du (by omega))
   have l:=kb cz l (by omega)
   have n:=kb cz n (by omega)
   have hb:=kb cz hb (by omega)
   clear j
   have j:hc.heap[y]? =some (.cells (msgC ((⟨c1,((c2:Nat):Int),[],[],[],0,0,zid,[],[],zid,zid,false,0⟩,⟨(Value.slice none 0 0),(Value.slice none 0 0),(Value.slice none 0 0),(Value.slice none 0 0)⟩):Ah)).toArray 29 (0,0)):=eu;clear eu
   have pg:=bl j
   refine oZ (tN (ha _ _ (Ao (BJ (fn:=Tryd.f67) _ rfl [.agg (msgC ((⟨c1,((c2:Nat):Int),[],[],[],0,0,zid,[],[],zid,zid,false,0⟩,⟨(Value.slice none 0 0),(Value.slice none 0 0),(Value.slice none 0 0),(Value.slice none 0 0)⟩):Ah)).toArray] (.agg (msgC ((⟨c1,((c2:Nat):Int),[],[],[],0,0,zid,[],[],zid,zid,false,0⟩,⟨(Value.slice none 0 0),(Value.slice none 0 0),(Value.slice none 0 0),(Value.slice none 0 0)⟩):Ah)).toArray) rfl ⟨ResF.row s j (Nr).choose_spec rfl (Au (msg_len _) Mr),trivial⟩ ?_))))
   exact .inl ⟨_,rfl,((⟨c1,((c2:Nat):Int),[],[],[],0,0,zid,[],[],zid,zid,false,0⟩,⟨(Value.slice none 0 0),(Value.slice none 0 0),(Value.slice none 0 0),(Value.slice none 0 0)⟩):Ah),by rw[hD];simp only[Option.bind_some];refine if_pos ?_;exact⟨hj,g9⟩,rfl,(MsgAt.mk (RG.nil _ _ _) (RG.nil _ _ _) (RG.nil _ _ _) (RB.nil _)),⟨(fun k h=>by cases h),(fun k h=>by cases h),(fun k h=>by cases h),(fun k h=>by cases h)⟩,f⟩
  refine tN (et _ _ (Am (vr (.bool (false)) rfl) (Ak (tN (es _ _ (sk fun ph pi=> ?_))))))
  refine Bh 14 _ [Is (PQ r 0),Is (PQ r 0),Is (PQ r 1),Is (NI j2),Is (PQ r 0),Is (PQ r 0),Is (PQ r 0),Is (v),Is (NI b.length),Is (.bool (false)),Is (.bool (false)),Is undef,Is undef,Is (.bool (false))] (by kernel_rfl) [79,80,81,82,83,84,85,86,87,88,89,90,91,92,93] (by kernel_rfl) (by kernel_rfl) (by kernel_rfl) rfl rfl rfl (fun _ _=>trivial) (Db (B6 trivial)) ?hd ?hQ4027
  case hd=>
   refine⟨?_,?_,?_,?_,?_,?_,?_,?_,?_,?_,?_,?_,?_,?_,?_,trivial⟩
   ·refine Aj (Aa rfl fun σ w1 hC h=> ?_)
    have e1:=(Af (h 1 (by decide))).trans q
    exact Yk.cell1 EE rfl e1 (Ab (eb hC l) (show _=some (PQ r 0:Value)from rfl)) ⟨Ext.refl _,rfl⟩
   ·refine Aj (Aa rfl fun σ w1 hC h=> ?_)
    have am:=Af (h 79 (by decide))
    exact Yk.nilCheck am ⟨Ext.refl _,rfl⟩
   ·refine Aj (Aa rfl fun σ w1 hC h=> ?_)
    have an:=Af (h 80 (by decide))
    exact Yk.fieldAt Bi an ⟨Ext.refl _,rfl⟩
   ·refine Aj (Aa rfl fun σ w1 hC h=> ?_)
    have ao:=Af (h 81 (by decide))
    exact Yk.cell1 FI rfl ao (Ab (eb hC hb) (show(A4 (AL v b (j2)))[1]? =some (NI j2:Value)from BV (AL v b (j2)))) ⟨Ext.refl _,rfl⟩
   ·refine Aj (Aa rfl fun σ w1 hC h=> ?_)
    have e1:=(Af (h 1 (by decide))).trans q
    exact Yk.cell1 EE rfl e1 (Ab (eb hC l) (show _=some (PQ r 0:Value)from rfl)) ⟨Ext.refl _,rfl⟩
   ·refine Aj (Aa rfl fun σ w1 hC h=> ?_)
    have ap:=Af (h 83 (by decide))
    exact Yk.nilCheck ap ⟨Ext.refl _,rfl⟩
   ·refine Aj (Aa rfl fun σ w1 hC h=> ?_)
    have aq:=Af (h 84 (by decide))
    exact Yk.fieldAt Cb aq ⟨Ext.refl _,rfl⟩
   ·refine Aj (Aa rfl fun σ w1 hC h=> ?_)
    have ar:=Af (h 85 (by decide))
    exact Yk.cell1 El rfl ar (Ab (eb hC hb) (show(A4 (AL v b (j2)))[0]? =some (v:Value)from B2 (AL v b (j2)))) ⟨Ext.refl _,rfl⟩
   ·refine Aj (Aa rfl fun σ w1 hC h=> ?_)
    have au:=Af (h 86 (by decide))
    exact Yk.lenRB El (RB.of (hr.keep (f.trans hC)) au) ⟨Ext.refl _,rfl⟩
   ·refine Aj (Aa rfl fun σ w1 hC h=> ?_)
    have av:=Af (h 82 (by decide))
    have aw:=Af (h 87 (by decide))
    exact Yk.eqI (a:=(j2:Nat)) (b:=(b.length:Nat)) av aw (k_eql _ _ _ _) ⟨Ext.refl _,(congrArg Value.bool (decide_eq_false (hj)))⟩
   ·refine Aj (Aa rfl fun σ w1 hC h=> ?_)
    have ax:=Af (h 88 (by decide))
    exact Yk.move ax ⟨Ext.refl _,rfl⟩
   ·refine Aj (A9 10 true 89 rfl rfl (fun x _ (h:x = .bool false)=>by rw[h];intro h;cases h) fun _=>rfl)
   ·refine Aj (A9 10 true 89 rfl rfl (fun x _ (h:x = .bool false)=>by rw[h];intro h;cases h) fun _=>rfl)
   ·refine Aj (Aa rfl fun σ w1 hC h=> ?_)
    have ay:=Af (h 89 (by decide))
    exact Yk.pickF ay (vr (.bool (false)) rfl) ⟨Ext.refl _,rfl⟩
   ·exact trivial
  intro hg pj cb he hf
  obtain⟨-,-,-,-,-,-,-,-,-,-,-,-,-,k92,-⟩:=hf
  obtain⟨T0,q,s,o,T4,ad,ae,af,ag,ah,ai,aj,az,-⟩:=he.hold [(0,_),(1,_),(2,_),(3,_),(4,_),(22, .bool (false)),(27, .bool (false)),(35, .bool (false)),(40, .bool (false)),(45, .bool (false)),(50, .bool (false)),(56, .bool (false)),(75, .bool (false))] ⟨T0,q,s,o,a4,rfl,rfl,rfl,rfl,rfl,rfl,rfl,rfl,trivial⟩ rfl
  clear he
  have f:=f.trans cb
  have l:=eb cb l
  have n:=eb cb n
  have hb:=eb cb hb
  have j:=eb cb j
  have a0:hg 92 = .bool (false):=k92
  clear k92
  refine Yp.callA1 CQ a0 ?_
  refine Ar (AZ _ (false)) ?_ ?_
  rotate_left
  ·
   rintro ch pk ⟨rfl,hb,hx⟩
   refine Aq (postP_panic ?_)
   exact .inr ⟨_,rfl,by rw[hD];simp only[Option.bind_some];refine if_neg ?_;rintro⟨h1,h2⟩;exact hj h1,rfl,f.trans hx⟩
  rintro v_ pl ⟨rfl,hh,pm⟩
  cases hh
 ·have hD:=DU hP1 hK hP2
  rw[Mv (m:=(⟨c1,((c2:Nat):Int),[],[],[],0,0,zid,[],[],zid,zid,false,0⟩:Msg)) hk]at hD
  refine tN (bt _ _ (sk fun pn hi=>(sk fun po hm=>(wt (oS rfl (Yk.fieldAt LD o (oS rfl (Yk.cell1 De rfl (vr (PQ t 0) rfl) (Ab n (show(partsC (⟨true,false,false,false,false,false,false,false⟩:Ai))[0]? =some (.bool (true):Value)from BW (⟨true,false,false,false,false,false,false,false⟩:Ai))) (oZ (tN (hm _ _ (At (vr (.bool (true)) rfl) (wt (oS rfl (Yk.cell1 EE rfl q (Ab l (show _=some (PQ r 0:Value)from rfl)) (oS rfl (Yk.mkFunc (vs:= #[PQ n2 0,PQ y 0]) (by simp only[List.map_toArray,List.map_cons,List.map_nil];exact congrArg List.toArray (B1 q s)) ?_)))))))))))))))))
  have hC1:RC w0 r y n2 t v b:=⟨hr,lr,by omega,by omega,by omega,by omega,by omega,by omega,by omega,by omega,by omega,hl⟩
  refine oP rfl (Yp.callA3 F1 (vr (PQ r 0) rfl) (vr (NI 128) rfl) (vr (.func (.func 112) #[] #[PQ n2 0,PQ y 0]) rfl) ?_)
  refine Ar (LN hC1 (⟨hb,j,l,n,f,hle_j2⟩:RS w0 r y n2 t v b (⟨true,false,false,false,false,false,false,false⟩:Ai) _ j2 ((⟨c1,((c2:Nat):Int),[],[],[],0,0,zid,[],[],zid,zid,false,0⟩,⟨(Value.slice none 0 0),(Value.slice none 0 0),(Value.slice none 0 0),(Value.slice none 0 0)⟩):Ah)) rfl (OG.nil _ _ _ _ _) ⟨(fun h=>by cases h),(fun h=>by cases h),(fun h=>by cases h),(fun h=>by cases h)⟩) ?_ ?_
  rotate_left
  ·
   rintro ch pp ⟨hPx,rfl,hgx⟩
   refine Aq (postP_panic ?_)
   exact .inr ⟨_,rfl,by rw[hD];simp only[hPx,Option.bind_some,Option.bind_none],rfl,hgx⟩
  rintro v_ pq ⟨rfl,l1,i1,u1,hPb1,d9,a8,ap_u1⟩
  obtain⟨hb,hbm,hbg,hbn,f,hle_i1⟩:=d9
  have pr:=bl hb
  have ps:=bl hbm
  have pt:=bl hbg
  have pu:=bl hbn
  refine oZ (tN (hi _ _ (sk fun pv hn=>(sk fun pw ho=>(wt (oS rfl (Yk.fieldAt LE o (oS rfl (Yk.cell1 De rfl (vr (PQ t 1) rfl) (Ab hbn (show(partsC (⟨true,false,false,false,false,false,false,false⟩:Ai))[1]? =some (.bool (false):Value)from BX (⟨true,false,false,false,false,false,false,false⟩:Ai))) (oZ (tN (ho _ _ (Am (vr (.bool (false)) rfl) (Ak (tN (hn _ _ (sk fun px hp=>(sk fun py hq=>(wt (oS rfl (Yk.fieldAt LF o ?_)))))))))))))))))))))
  refine oS rfl (Yk.cell1 De rfl (vr (PQ t 2) rfl) (Ab hbn (show(partsC (⟨true,false,false,false,false,false,false,false⟩:Ai))[2]? =some (.bool (false):Value)from BY (⟨true,false,false,false,false,false,false,false⟩:Ai))) (oZ (tN (hq _ _ (Am (vr (.bool (false)) rfl) (Ak (tN (hp _ _ (sk fun pz hs=>(sk fun p0 ht=>(wt (oS rfl (Yk.fieldAt LG o (oS rfl (Yk.cell1 De rfl (vr (PQ t 3) rfl) (Ab hbn (show(partsC (⟨true,false,false,false,false,false,false,false⟩:Ai))[3]? =some (.bool (false):Value)from BZ (⟨true,false,false,false,false,false,false,false⟩:Ai))) (oZ (tN (ht _ _ (Am (vr (.bool (false)) rfl) (Ak (tN (hs _ _ ?_))))))))))))))))))))))
  refine sk fun p1 hv=>(sk fun p2 hw=>(wt (oS rfl (Yk.fieldAt LH o (oS rfl (Yk.cell1 De rfl (vr (PQ t 4) rfl) (Ab hbn (show(partsC (⟨true,false,false,false,false,false,false,false⟩:Ai))[4]? =some (.bool (false):Value)from B0 (⟨true,false,false,false,false,false,false,false⟩:Ai))) (oZ (tN (hw _ _ (Am (vr (.bool (false)) rfl) (Ak (tN (hv _ _ (sk fun p3 hy=>(sk fun p4 hz=>(wt (oS rfl (Yk.fieldAt H5 o (oS rfl (Yk.cell1 De rfl (vr (PQ t 5) rfl) (Ab hbn (show(partsC (⟨true,false,false,false,false,false,false,false⟩:Ai))[5]? =some (.bool (false):Value)from BP (⟨true,false,false,false,false,false,false,false⟩:Ai))) (oZ ?_)))))))))))))))))))))
  refine tN (hz _ _ (Am (vr (.bool (false)) rfl) (Ak (tN (hy _ _ (sk fun p5 h0=>(sk fun p6 h5=>(wt (oS rfl (Yk.fieldAt H6 o (oS rfl (Yk.cell1 De rfl (vr (PQ t 6) rfl) (Ab hbn (show(partsC (⟨true,false,false,false,false,false,false,false⟩:Ai))[6]? =some (.bool (false):Value)from BQ (⟨true,false,false,false,false,false,false,false⟩:Ai))) (oZ (tN (h5 _ _ (Am (vr (.bool (false)) rfl) (Ak (tN (h0 _ _ (sk fun p7 ew=>(sk fun p8 ex=> ?_)))))))))))))))))))))
  refine wt (oS rfl (Yk.fieldAt LJ o (oS rfl (Yk.cell1 De rfl (vr (PQ t 7) rfl) (Ab hbn (show(partsC (⟨true,false,false,false,false,false,false,false⟩:Ai))[7]? =some (.bool (false):Value)from BR (⟨true,false,false,false,false,false,false,false⟩:Ai))) (oZ ?_)))))
  have hMl:B9 (((⟨c1,((c2:Nat):Int),l1,[],[],0,0,zid,[],[],zid,zid,false,0⟩,⟨u1,(Value.slice none 0 0),(Value.slice none 0 0),(Value.slice none 0 0)⟩):Ah):Ah).1:=⟨by have:=(J8 hPb1).1;simp only at this ⊢;omega,fun u hu=>by have:=(J8 hPb1).2 u hu;omega,by simp,by simp,by simp⟩
  by_cases hj:i1=b.length
  ·refine tN (ex _ _ (Am (vr (.bool (false)) rfl) (Ak (tN (ew _ _ (sk fun p9 h6=> ?_))))))
   refine Bh 14 _ [Is (PQ r 0),Is (PQ r 0),Is (PQ r 1),Is (NI i1),Is (PQ r 0),Is (PQ r 0),Is (PQ r 0),Is (v),Is (NI b.length),Is (.bool (true)),Is (.bool (true)),Is (.agg (msgC ((⟨c1,((c2:Nat):Int),l1,[],[],0,0,zid,[],[],zid,zid,false,0⟩,⟨u1,(Value.slice none 0 0),(Value.slice none 0 0),(Value.slice none 0 0)⟩):Ah)).toArray),Is (.bool (rightB (((⟨c1,((c2:Nat):Int),l1,[],[],0,0,zid,[],[],zid,zid,false,0⟩,⟨u1,(Value.slice none 0 0),(Value.slice none 0 0),(Value.slice none 0 0)⟩):Ah):Ah).1)),Is (.bool (rightB (((⟨c1,((c2:Nat):Int),l1,[],[],0,0,zid,[],[],zid,zid,false,0⟩,⟨u1,(Value.slice none 0 0),(Value.slice none 0 0),(Value.slice none 0 0)⟩):Ah):Ah).1))] (by kernel_rfl) [79,80,81,82,83,84,85,86,87,88,89,90,91,92,93] (by kernel_rfl) (by kernel_rfl) (by kernel_rfl) rfl rfl rfl (fun _ _=>trivial) (Db (B6 trivial)) ?h7 ?hQ5027
   case h7=>
    refine⟨?_,?_,?_,?_,?_,?_,?_,?_,?_,?_,?_,?_,?_,?_,?_,trivial⟩
    ·refine Aj (Aa rfl fun σ w1 hC h=> ?_)
     have e1:=(Af (h 1 (by decide))).trans q
     exact Yk.cell1 EE rfl e1 (Ab (eb hC hbg) (show _=some (PQ r 0:Value)from rfl)) ⟨Ext.refl _,rfl⟩
    ·refine Aj (Aa rfl fun σ w1 hC h=> ?_)
     have am:=Af (h 79 (by decide))
     exact Yk.nilCheck am ⟨Ext.refl _,rfl⟩
    ·refine Aj (Aa rfl fun σ w1 hC h=> ?_)
     have an:=Af (h 80 (by decide))
     exact Yk.fieldAt Bi an ⟨Ext.refl _,rfl⟩
    ·refine Aj (Aa rfl fun σ w1 hC h=> ?_)
     have ao:=Af (h 81 (by decide))
     exact Yk.cell1 FI rfl ao (Ab (eb hC hb) (show(A4 (AL v b (i1)))[1]? =some (NI i1:Value)from BV (AL v b (i1)))) ⟨Ext.refl _,rfl⟩
    ·refine Aj (Aa rfl fun σ w1 hC h=> ?_)
     have e1:=(Af (h 1 (by decide))).trans q
     exact Yk.cell1 EE rfl e1 (Ab (eb hC hbg) (show _=some (PQ r 0:Value)from rfl)) ⟨Ext.refl _,rfl⟩
    ·refine Aj (Aa rfl fun σ w1 hC h=> ?_)
     have ap:=Af (h 83 (by decide))
     exact Yk.nilCheck ap ⟨Ext.refl _,rfl⟩
    ·refine Aj (Aa rfl fun σ w1 hC h=> ?_)
     have aq:=Af (h 84 (by decide))
     exact Yk.fieldAt Cb aq ⟨Ext.refl _,rfl⟩
    ·refine Aj (Aa rfl fun σ w1 hC h=> ?_)
     have ar:=Af (h 85 (by decide))
     exact Yk.cell1 El rfl ar (Ab (eb hC hb) (show(A4 (AL v b (i1)))[0]? =some (v:Value)from B2 (AL v b (i1)))) ⟨Ext.refl _,rfl⟩
    ·refine Aj (Aa rfl fun σ w1 hC h=> ?_)
     have au:=Af (h 86 (by decide))
     exact Yk.lenRB El (RB.of (hr.keep (f.trans hC)) au) ⟨Ext.refl _,rfl⟩
    ·refine Aj (Aa rfl fun σ w1 hC h=> ?_)
     have av:=Af (h 82 (by decide))
     have aw:=Af (h 87 (by decide))
     exact Yk.eqI (a:=(i1:Nat)) (b:=(b.length:Nat)) av aw (k_eql _ _ _ _) ⟨Ext.refl _,(congrArg Value.bool (decide_eq_true (hj)))⟩
    ·refine Aj (Aa rfl fun σ w1 hC h=> ?_)
     have ax:=Af (h 88 (by decide))
     exact Yk.move ax ⟨Ext.refl _,rfl⟩
    ·refine Aj (AD 10 true 89 rfl rfl (fun _ _ h=>h) fun σ w1 hC h=> ?_)
     have e2:=(Af (h 2 (by decide))).trans s
     exact Yk.loadAll e2 (eb hC hbm) (Nr).choose_spec rfl (Au (msg_len ((⟨c1,((c2:Nat):Int),l1,[],[],0,0,zid,[],[],zid,zid,false,0⟩,⟨u1,(Value.slice none 0 0),(Value.slice none 0 0),(Value.slice none 0 0)⟩):Ah)) Mr) ⟨Ext.refl _,rfl⟩
    ·refine Aj (AD 10 true 89 rfl rfl (fun _ _ h=>h) fun σ w1 hC h=> ?_)
     have a5:=Af (h 90 (by decide))
     refine Yk.callA1 Nz a5 ((CP _ ((⟨c1,((c2:Nat):Int),l1,[],[],0,0,zid,[],[],zid,zid,false,0⟩,⟨u1,(Value.slice none 0 0),(Value.slice none 0 0),(Value.slice none 0 0)⟩):Ah) (MsgAt.mk (RG.ofOwn (a8.keep hC)) (RG.nil _ _ _) (RG.nil _ _ _) (RB.nil _)) hMl).mono ?_)
     rintro e w2 ⟨rfl,hx⟩
     exact⟨_,rfl,hx,rfl⟩
    ·refine Aj (Aa rfl fun σ w1 hC h=> ?_)
     have ay:=Af (h 89 (by decide))
     have a6:=Af (h 91 (by decide))
     exact Yk.pickT ay a6 ⟨Ext.refl _,rfl⟩
    ·exact trivial
   intro h8 qa bx he hf
   obtain⟨-,-,-,-,-,-,-,-,-,-,-,-,-,k92,-⟩:=hf
   obtain⟨T0,q,s,o,T4,ad,ae,af,ag,ah,ai,aj,az,-⟩:=he.hold [(0,_),(1,_),(2,_),(3,_),(4,_),(22, .bool (true)),(27, .bool (false)),(35, .bool (false)),(40, .bool (false)),(45, .bool (false)),(50, .bool (false)),(56, .bool (false)),(75, .bool (false))] ⟨T0,q,s,o,a4,rfl,rfl,rfl,rfl,rfl,rfl,rfl,rfl,trivial⟩ rfl
   clear he
   have f:=f.trans bx
   have hb:=eb bx hb
   have hbm:=eb bx hbm
   have hbg:=eb bx hbg
   have hbn:=eb bx hbn
   have a8:=a8.keep bx
   have a0:h8 92 = .bool (rightB (((⟨c1,((c2:Nat):Int),l1,[],[],0,0,zid,[],[],zid,zid,false,0⟩,⟨u1,(Value.slice none 0 0),(Value.slice none 0 0),(Value.slice none 0 0)⟩):Ah):Ah).1):=k92
   clear k92
   refine Yp.callA1 CQ a0 ?_
   refine Ar (AZ _ (rightB (((⟨c1,((c2:Nat):Int),l1,[],[],0,0,zid,[],[],zid,zid,false,0⟩,⟨u1,(Value.slice none 0 0),(Value.slice none 0 0),(Value.slice none 0 0)⟩):Ah):Ah).1)) ?_ ?_
   rotate_left
   ·
    rintro ch qb ⟨rfl,hb,hx⟩
    refine Aq (postP_panic ?_)
    exact .inr ⟨_,rfl,by rw[hD];simp only[hPb1,Option.bind_some];refine if_neg ?_;rintro⟨h1,h2⟩;exact Bool.noConfusion (h2.symm.trans hb),rfl,f.trans hx⟩
   rintro v_ qc ⟨rfl,h9,bz⟩
   have f:=f.trans bz
   have hb:=eb bz hb
   have hbm:=eb bz hbm
   have hbg:=eb bz hbg
   have hbn:=eb bz hbn
   have a8:=a8.keep bz
   intro bd be
   have T0:bd 0=(PQ r 0:Value):=(be 0 (by decide)).trans T0
   have q:bd 1=(PQ n2 0:Value):=(be 1 (by decide)).trans q
   have s:bd 2=(PQ y 0:Value):=(be 2 (by decide)).trans s
   have o:bd 3=(PQ t 0:Value):=(be 3 (by decide)).trans o
   have T4:bd 4=(.bool (true):Value):=(be 4 (by decide)).trans T4
   have ad:bd 22=(.bool (true):Value):=(be 22 (by decide)).trans ad
   have ae:bd 27=(.bool (false):Value):=(be 27 (by decide)).trans ae
   have af:bd 35=(.bool (false):Value):=(be 35 (by decide)).trans af
   have ag:bd 40=(.bool (false):Value):=(be 40 (by decide)).trans ag
   have ah:bd 45=(.bool (false):Value):=(be 45 (by decide)).trans ah
   have ai:bd 50=(.bool (false):Value):=(be 50 (by decide)).trans ai
   have aj:bd 56=(.bool (false):Value):=(be 56 (by decide)).trans aj
   have az:bd 75=(.bool (false):Value):=(be 75 (by decide)).trans az
   refine tN (h6 _ _ (sk fun qd ia=>(wt (oS rfl (Yk.loadAll s hbm (Nr).choose_spec rfl (Au (msg_len ((⟨c1,((c2:Nat):Int),l1,[],[],0,0,zid,[],[],zid,zid,false,0⟩,⟨u1,(Value.slice none 0 0),(Value.slice none 0 0),(Value.slice none 0 0)⟩):Ah)) Mr) (oS rfl (Yk.storeAll s (vr (.agg (msgC ((⟨c1,((c2:Nat):Int),l1,[],[],0,0,zid,[],[],zid,zid,false,0⟩,⟨u1,(Value.slice none 0 0),(Value.slice none 0 0),(Value.slice none 0 0)⟩):Ah)).toArray) rfl) hbm (by simp only[List.size_toArray,msg_len]) (Au (msg_len _) Mr) (BK (x:=((⟨c1,((c2:Nat):Int),l1,[],[],0,0,zid,[],[],zid,zid,false,0⟩,⟨u1,(Value.slice none 0 0),(Value.slice none 0 0),(Value.slice none 0 0)⟩):Ah)) (RG.one (RG.ofOwn a8)).2 rfl rfl rfl) fun ib ey cc qe=> ?_)))))))
   have f:=Ae f cc (Nat.le_trans (Nat.le_refl _) (by omega))
   have hb:=kb cc hb (by omega)
   clear hbm
   have hbg:=kb cc hbg (by omega)
   have hbn:=kb cc hbn (by omega)
   have a8:=OG.kept a8 cc ap_u1.m
   have hbm:ib.heap[y]? =some (.cells (msgC ((⟨c1,((c2:Nat):Int),l1,[],[],0,0,zid,[],[],zid,zid,false,0⟩,⟨u1,(Value.slice none 0 0),(Value.slice none 0 0),(Value.slice none 0 0)⟩):Ah)).toArray 29 (0,0)):=ey;clear ey
   have qf:=bl hbm
   refine oZ (tN (ia _ _ (Ao (BJ (fn:=Tryd.f67) _ rfl [.agg (msgC ((⟨c1,((c2:Nat):Int),l1,[],[],0,0,zid,[],[],zid,zid,false,0⟩,⟨u1,(Value.slice none 0 0),(Value.slice none 0 0),(Value.slice none 0 0)⟩):Ah)).toArray] (.agg (msgC ((⟨c1,((c2:Nat):Int),l1,[],[],0,0,zid,[],[],zid,zid,false,0⟩,⟨u1,(Value.slice none 0 0),(Value.slice none 0 0),(Value.slice none 0 0)⟩):Ah)).toArray) rfl ⟨ResF.row s hbm (Nr).choose_spec rfl (Au (msg_len _) Mr),trivial⟩ ?_))))
   exact .inl ⟨_,rfl,((⟨c1,((c2:Nat):Int),l1,[],[],0,0,zid,[],[],zid,zid,false,0⟩,⟨u1,(Value.slice none 0 0),(Value.slice none 0 0),(Value.slice none 0 0)⟩):Ah),by rw[hD];simp only[hPb1,Option.bind_some];refine if_pos ?_;exact⟨hj,h9⟩,rfl,(MsgAt.mk (RG.ofOwn a8) (RG.nil _ _ _) (RG.nil _ _ _) (RB.nil _)),⟨(fun k h=>(a8.2.lt k h).1),(fun k h=>by cases h),(fun k h=>by cases h),(fun k h=>by cases h)⟩,f⟩
  refine tN (ex _ _ (Am (vr (.bool (false)) rfl) (Ak (tN (ew _ _ (sk fun qg qh=> ?_))))))
  refine Bh 14 _ [Is (PQ r 0),Is (PQ r 0),Is (PQ r 1),Is (NI i1),Is (PQ r 0),Is (PQ r 0),Is (PQ r 0),Is (v),Is (NI b.length),Is (.bool (false)),Is (.bool (false)),Is undef,Is undef,Is (.bool (false))] (by kernel_rfl) [79,80,81,82,83,84,85,86,87,88,89,90,91,92,93] (by kernel_rfl) (by kernel_rfl) (by kernel_rfl) rfl rfl rfl (fun _ _=>trivial) (Db (B6 trivial)) ?ic ?hQ6027
  case ic=>
   refine⟨?_,?_,?_,?_,?_,?_,?_,?_,?_,?_,?_,?_,?_,?_,?_,trivial⟩
   ·refine Aj (Aa rfl fun σ w1 hC h=> ?_)
    have e1:=(Af (h 1 (by decide))).trans q
    exact Yk.cell1 EE rfl e1 (Ab (eb hC hbg) (show _=some (PQ r 0:Value)from rfl)) ⟨Ext.refl _,rfl⟩
   ·refine Aj (Aa rfl fun σ w1 hC h=> ?_)
    have am:=Af (h 79 (by decide))
    exact Yk.nilCheck am ⟨Ext.refl _,rfl⟩
   ·refine Aj (Aa rfl fun σ w1 hC h=> ?_)
    have an:=Af (h 80 (by decide))
    exact Yk.fieldAt Bi an ⟨Ext.refl _,rfl⟩
   ·refine Aj (Aa rfl fun σ w1 hC h=> ?_)
    have ao:=Af (h 81 (by decide))
    exact Yk.cell1 FI rfl ao (Ab (eb hC hb) (show(A4 (AL v b (i1)))[1]? =some (NI i1:Value)from BV (AL v b (i1)))) ⟨Ext.refl _,rfl⟩
   ·refine Aj (Aa rfl fun σ w1 hC h=> ?_)
    have e1:=(Af (h 1 (by decide))).trans q
    exact Yk.cell1 EE rfl e1 (Ab (eb hC hbg) (show _=some (PQ r 0:Value)from rfl)) ⟨Ext.refl _,rfl⟩
   ·refine Aj (Aa rfl fun σ w1 hC h=> ?_)
    have ap:=Af (h 83 (by decide))
    exact Yk.nilCheck ap ⟨Ext.refl _,rfl⟩
   ·refine Aj (Aa rfl fun σ w1 hC h=> ?_)
    have aq:=Af (h 84 (by decide))
    exact Yk.fieldAt Cb aq ⟨Ext.refl _,rfl⟩
   ·refine Aj (Aa rfl fun σ w1 hC h=> ?_)
    have ar:=Af (h 85 (by decide))
    exact Yk.cell1 El rfl ar (Ab (eb hC hb) (show(A4 (AL v b (i1)))[0]? =some (v:Value)from B2 (AL v b (i1)))) ⟨Ext.refl _,rfl⟩
   ·refine Aj (Aa rfl fun σ w1 hC h=> ?_)
    have au:=Af (h 86 (by decide))
    exact Yk.lenRB El (RB.of (hr.keep (f.trans hC)) au) ⟨Ext.refl _,rfl⟩
   ·refine Aj (Aa rfl fun σ w1 hC h=> ?_)
    have av:=Af (h 82 (by decide))
    have aw:=Af (h 87 (by decide))
    exact Yk.eqI (a:=(i1:Nat)) (b:=(b.length:Nat)) av aw (k_eql _ _ _ _) ⟨Ext.refl _,(congrArg Value.bool (decide_eq_false (hj)))⟩
   ·refine Aj (Aa rfl fun σ w1 hC h=> ?_)
    have ax:=Af (h 88 (by decide))
    exact Yk.move ax ⟨Ext.refl _,rfl⟩
   ·refine Aj (A9 10 true 89 rfl rfl (fun x _ (h:x = .bool false)=>by rw[h];intro h;cases h) fun _=>rfl)
   ·refine Aj (A9 10 true 89 rfl rfl (fun x _ (h:x = .bool false)=>by rw[h];intro h;cases h) fun _=>rfl)
   ·refine Aj (Aa rfl fun σ w1 hC h=> ?_)
    have ay:=Af (h 89 (by decide))
    exact Yk.pickF ay (vr (.bool (false)) rfl) ⟨Ext.refl _,rfl⟩
   ·exact trivial
  intro id qi b2 he hf
  obtain⟨-,-,-,-,-,-,-,-,-,-,-,-,-,k92,-⟩:=hf
  obtain⟨T0,q,s,o,T4,ad,ae,af,ag,ah,ai,aj,az,-⟩:=he.hold [(0,_),(1,_),(2,_),(3,_),(4,_),(22, .bool (true)),(27, .bool (false)),(35, .bool (false)),(40, .bool (false)),(45, .bool (false)),(50, .bool (false)),(56, .bool (false)),(75, .bool (false))] ⟨T0,q,s,o,a4,rfl,rfl,rfl,rfl,rfl,rfl,rfl,rfl,trivial⟩ rfl
  clear he
  have f:=f.trans b2
  have hb:=eb b2 hb
  have hbm:=eb b2 hbm
  have hbg:=eb b2 hbg
  have hbn:=eb b2 hbn
  have a8:=a8.keep b2
  have a0:id 92 = .bool (false):=k92
  clear k92
  refine Yp.callA1 CQ a0 ?_
  refine Ar (AZ _ (false)) ?_ ?_
  rotate_left
  ·
   rintro ch qj ⟨rfl,hb,hx⟩
   refine Aq (postP_panic ?_)
   exact .inr ⟨_,rfl,by rw[hD];simp only[hPb1,Option.bind_some];refine if_neg ?_;rintro⟨h1,h2⟩;exact hj h1,rfl,f.trans hx⟩
  rintro v_ qk ⟨rfl,ie,ql⟩
  cases ie
 ·have hD:=DU hP1 hK hP2
  rw[Mw (m:=(⟨c1,((c2:Nat):Int),[],[],[],0,0,zid,[],[],zid,zid,false,0⟩:Msg)) hk]at hD
  refine tN (bt _ _ (sk fun qm ig=>(sk fun qn ih=>(wt (oS rfl (Yk.fieldAt LD o (oS rfl (Yk.cell1 De rfl (vr (PQ t 0) rfl) (Ab n (show(partsC (⟨false,true,false,false,false,false,false,false⟩:Ai))[0]? =some (.bool (false):Value)from BW (⟨false,true,false,false,false,false,false,false⟩:Ai))) (oZ (tN (ih _ _ (Am (vr (.bool (false)) rfl) (Ak (tN (ig _ _ (sk fun qo ii=>(sk fun qp ij=>(wt (oS rfl (Yk.fieldAt LE o (oS rfl (Yk.cell1 De rfl (vr (PQ t 1) rfl) (Ab n (show(partsC (⟨false,true,false,false,false,false,false,false⟩:Ai))[1]? =some (.bool (true):Value)from BX (⟨false,true,false,false,false,false,false,false⟩:Ai))) ?_))))))))))))))))))))))
  refine oZ (tN (ij _ _ (At (vr (.bool (true)) rfl) (sk fun qq ik=>(wt (oS rfl (Yk.cell1 EE rfl q (Ab l (show _=some (PQ r 0:Value)from rfl)) (oS rfl (Yk.mkFunc (vs:= #[PQ y 0,PQ n2 0]) (by simp only[List.map_toArray,List.map_cons,List.map_nil];exact congrArg List.toArray (B1 s q)) ?_)))))))))
  have hC1:RC w0 r y n2 t v b:=⟨hr,lr,by omega,by omega,by omega,by omega,by omega,by omega,by omega,by omega,by omega,hl⟩
  refine oP rfl (Yp.callA3 F1 (vr (PQ r 0) rfl) (vr (NI 65536) rfl) (vr (.func (.func 115) #[] #[PQ y 0,PQ n2 0]) rfl) ?_)
  refine Ar (LO hC1 (⟨hb,j,l,n,f,hle_j2⟩:RS w0 r y n2 t v b (⟨false,true,false,false,false,false,false,false⟩:Ai) _ j2 ((⟨c1,((c2:Nat):Int),[],[],[],0,0,zid,[],[],zid,zid,false,0⟩,⟨(Value.slice none 0 0),(Value.slice none 0 0),(Value.slice none 0 0),(Value.slice none 0 0)⟩):Ah)) rfl (OG.nil _ _ _ _ _) ⟨(fun h=>by cases h),(fun h=>by cases h),(fun h=>by cases h),(fun h=>by cases h)⟩) ?_ ?_
  rotate_left
  ·
   rintro ch qr ⟨hPx,rfl,hgx⟩
   refine Aq (Aq (postP_panic ?_))
   exact .inr ⟨_,rfl,by rw[hD];simp only[hPx,Option.bind_some,Option.bind_none],rfl,hgx⟩
  rintro v_ qs ⟨rfl,l1,i1,u1,hPb1,d9,a8,ap_u1⟩
  obtain⟨hb,hbm,hbg,hbn,f,hle_i1⟩:=d9
  have qt:=bl hb
  have qu:=bl hbm
  have qv:=bl hbg
  have qw:=bl hbn
  refine oZ (tN (ik _ _ (wt (oS rfl (Yk.cell1 EE rfl q (Ab hbg (show _=some (PQ r 0:Value)from rfl)) (oS rfl (Yk.mkFunc (vs:= #[PQ y 0,PQ n2 0]) (by simp only[List.map_toArray,List.map_cons,List.map_nil];exact congrArg List.toArray (B1 s q)) ?_)))))))
  have hC2:RC w0 r y n2 t v b:=⟨hr,lr,by omega,by omega,by omega,by omega,by omega,by omega,by omega,by omega,by omega,hl⟩
  refine oP rfl (Yp.callA3 F1 (vr (PQ r 0) rfl) (vr (NI 65536) rfl) (vr (.func (.func 116) #[] #[PQ y 0,PQ n2 0]) rfl) ?_)
  refine Ar (LP hC2 (⟨hb,hbm,hbg,hbn,f,hle_i1⟩:RS w0 r y n2 t v b (⟨false,true,false,false,false,false,false,false⟩:Ai) _ i1 ((⟨c1,((c2:Nat):Int),[],l1,[],0,0,zid,[],[],zid,zid,false,0⟩,⟨(Value.slice none 0 0),u1,(Value.slice none 0 0),(Value.slice none 0 0)⟩):Ah)) rfl (OG.nil _ _ _ _ _) ⟨(fun h=>by cases h),(fun h=>by cases h),(fun h=>by cases h),(fun h=>by cases h)⟩ a8 ap_u1 (LQ _) (KK _)) ?_ ?_
  rotate_left
  ·
   rintro ch qx ⟨hPx,rfl,hgx⟩
   refine Aq (postP_panic ?_)
   exact .inr ⟨_,rfl,by rw[hD];simp only[hPb1,hPx,Option.bind_some,Option.bind_none],rfl,hgx⟩
  rintro v_ qy ⟨rfl,l2,i2,u2,hPb2,il,bs,ap_u2,hoq,aq_,qa_⟩
  obtain⟨hb,hbm,hbg,hbn,f,hle_i2⟩:=il
  have qz:=bl hb
  have q0:=bl hbm
  have q1:=bl hbg
  have q2:=bl hbn
  refine oZ (tN (ii _ _ (sk fun q3 im=>(sk fun q4 io=>(wt (oS rfl (Yk.fieldAt LF o (oS rfl (Yk.cell1 De rfl (vr (PQ t 2) rfl) (Ab hbn (show(partsC (⟨false,true,false,false,false,false,false,false⟩:Ai))[2]? =some (.bool (false):Value)from BY (⟨false,true,false,false,false,false,false,false⟩:Ai))) (oZ (tN (io _ _ (Am (vr (.bool (false)) rfl) (Ak (tN (im _ _ (sk fun q5 ip=>(sk fun q6 iq=>(wt (oS rfl (Yk.fieldAt LG o ?_)))))))))))))))))))))
  refine oS rfl (Yk.cell1 De rfl (vr (PQ t 3) rfl) (Ab hbn (show(partsC (⟨false,true,false,false,false,false,false,false⟩:Ai))[3]? =some (.bool (false):Value)from BZ (⟨false,true,false,false,false,false,false,false⟩:Ai))) (oZ (tN (iq _ _ (Am (vr (.bool (false)) rfl) (Ak (tN (ip _ _ (sk fun q7 ir=>(sk fun q8 iu=>(wt (oS rfl (Yk.fieldAt LH o (oS rfl (Yk.cell1 De rfl (vr (PQ t 4) rfl) (Ab hbn (show(partsC (⟨false,true,false,false,false,false,false,false⟩:Ai))[4]? =some (.bool (false):Value)from B0 (⟨false,true,false,false,false,false,false,false⟩:Ai))) (oZ (tN (iu _ _ (Am (vr (.bool (false)) rfl) (Ak (tN (ir _ _ ?_))))))))))))))))))))))
  refine sk fun q9 iv=>(sk fun ra iw=>(wt (oS rfl (Yk.fieldAt H5 o (oS rfl (Yk.cell1 De rfl (vr (PQ t 5) rfl) (Ab hbn (show(partsC (⟨false,true,false,false,false,false,false,false⟩:Ai))[5]? =some (.bool (false):Value)from BP (⟨false,true,false,false,false,false,false,false⟩:Ai))) (oZ (tN (iw _ _ (Am (vr (.bool (false)) rfl) (Ak (tN (iv _ _ (sk fun rb ix=>(sk fun rc iy=>(wt (oS rfl (Yk.fieldAt H6 o (oS rfl (Yk.cell1 De rfl (vr (PQ t 6) rfl) (Ab hbn (show(partsC (⟨false,true,false,false,false,false,false,false⟩:Ai))[6]? =some (.bool (false):Value)from BQ (⟨false,true,false,false,false,false,false,false⟩:Ai))) (oZ ?_)))))))))))))))))))))
  refine tN (iy _ _ (Am (vr (.bool (false)) rfl) (Ak (tN (ix _ _ (sk fun rd ez=>(sk fun re e0=>(wt (oS rfl (Yk.fieldAt LJ o (oS rfl (Yk.cell1 De rfl (vr (PQ t 7) rfl) (Ab hbn (show(partsC (⟨false,true,false,false,false,false,false,false⟩:Ai))[7]? =some (.bool (false):Value)from BR (⟨false,true,false,false,false,false,false,false⟩:Ai))) (oZ ?_)))))))))))))
  have hMl:B9 (((⟨c1,((c2:Nat):Int),[],l1,l2,0,0,zid,[],[],zid,zid,false,0⟩,⟨(Value.slice none 0 0),u1,u2,(Value.slice none 0 0)⟩):Ah):Ah).1:=⟨by simp,fun u hu=>(by cases hu),by have:=Ld hPb1;simp only at this ⊢;omega,by have:=Ld hPb2;simp only at this ⊢;omega,by simp⟩
  by_cases hj:i2=b.length
  ·refine tN (e0 _ _ (Am (vr (.bool (false)) rfl) (Ak (tN (ez _ _ (sk fun rf iz=> ?_))))))
   refine Bh 14 _ [Is (PQ r 0),Is (PQ r 0),Is (PQ r 1),Is (NI i2),Is (PQ r 0),Is (PQ r 0),Is (PQ r 0),Is (v),Is (NI b.length),Is (.bool (true)),Is (.bool (true)),Is (.agg (msgC ((⟨c1,((c2:Nat):Int),[],l1,l2,0,0,zid,[],[],zid,zid,false,0⟩,⟨(Value.slice none 0 0),u1,u2,(Value.slice none 0 0)⟩):Ah)).toArray),Is (.bool (rightB (((⟨c1,((c2:Nat):Int),[],l1,l2,0,0,zid,[],[],zid,zid,false,0⟩,⟨(Value.slice none 0 0),u1,u2,(Value.slice none 0 0)⟩):Ah):Ah).1)),Is (.bool (rightB (((⟨c1,((c2:Nat):Int),[],l1,l2,0,0,zid,[],[],zid,zid,false,0⟩,⟨(Value.slice none 0 0),u1,u2,(Value.slice none 0 0)⟩):Ah):Ah).1))] (by kernel_rfl) [79,80,81,82,83,84,85,86,87,88,89,90,91,92,93] (by kernel_rfl) (by kernel_rfl) (by kernel_rfl) rfl rfl rfl (fun _ _=>trivial) (Db (B6 trivial)) ?i0 ?hQ7027
   case i0=>
    refine⟨?_,?_,?_,?_,?_,?_,?_,?_,?_,?_,?_,?_,?_,?_,?_,trivial⟩
    ·refine Aj (Aa rfl fun σ w1 hC h=> ?_)
     have e1:=(Af (h 1 (by decide))).trans q
     exact Yk.cell1 EE rfl e1 (Ab (eb hC hbg) (show _=some (PQ r 0:Value)from rfl)) ⟨Ext.refl _,rfl⟩
    ·refine Aj (Aa rfl fun σ w1 hC h=> ?_)
     have am:=Af (h 79 (by decide))
     exact Yk.nilCheck am ⟨Ext.refl _,rfl⟩
    ·refine Aj (Aa rfl fun σ w1 hC h=> ?_)
     have an:=Af (h 80 (by decide))
     exact Yk.fieldAt Bi an ⟨Ext.refl _,rfl⟩
    ·refine Aj (Aa rfl fun σ w1 hC h=> ?_)
     have ao:=Af (h 81 (by decide))
     exact Yk.cell1 FI rfl ao (Ab (eb hC hb) (show(A4 (AL v b (i2)))[1]? =some (NI i2:Value)from BV (AL v b (i2)))) ⟨Ext.refl _,rfl⟩
    ·refine Aj (Aa rfl fun σ w1 hC h=> ?_)
     have e1:=(Af (h 1 (by decide))).trans q
     exact Yk.cell1 EE rfl e1 (Ab (eb hC hbg) (show _=some (PQ r 0:Value)from rfl)) ⟨Ext.refl _,rfl⟩
    ·refine Aj (Aa rfl fun σ w1 hC h=> ?_)
     have ap:=Af (h 83 (by decide))
     exact Yk.nilCheck ap ⟨Ext.refl _,rfl⟩
    ·refine Aj (Aa rfl fun σ w1 hC h=> ?_)
     have aq:=Af (h 84 (by decide))
     exact Yk.fieldAt Cb aq ⟨Ext.refl _,rfl⟩
    ·refine Aj (Aa rfl fun σ w1 hC h=> ?_)
     have ar:=Af (h 85 (by decide))
     exact Yk.cell1 El rfl ar (Ab (eb hC hb) (show(A4 (AL v b (i2)))[0]? =some (v:Value)from B2 (AL v b (i2)))) ⟨Ext.refl _,rfl⟩
    ·refine Aj (Aa rfl fun σ w1 hC h=> ?_)
     have au:=Af (h 86 (by decide))
     exact Yk.lenRB El (RB.of (hr.keep (f.trans hC)) au) ⟨Ext.refl _,rfl⟩
    ·refine Aj (Aa rfl fun σ w1 hC h=> ?_)
     have av:=Af (h 82 (by decide))
     have aw:=Af (h 87 (by decide))
     exact Yk.eqI (a:=(i2:Nat)) (b:=(b.length:Nat)) av aw (k_eql _ _ _ _) ⟨Ext.refl _,(congrArg Value.bool (decide_eq_true (hj)))⟩
    ·refine Aj (Aa rfl fun σ w1 hC h=> ?_)
     have ax:=Af (h 88 (by decide))
     exact Yk.move ax ⟨Ext.refl _,rfl⟩
    ·refine Aj (AD 10 true 89 rfl rfl (fun _ _ h=>h) fun σ w1 hC h=> ?_)
     have e2:=(Af (h 2 (by decide))).trans s
     exact Yk.loadAll e2 (eb hC hbm) (Nr).choose_spec rfl (Au (msg_len ((⟨c1,((c2:Nat):Int),[],l1,l2,0,0,zid,[],[],zid,zid,false,0⟩,⟨(Value.slice none 0 0),u1,u2,(Value.slice none 0 0)⟩):Ah)) Mr) ⟨Ext.refl _,rfl⟩
    ·refine Aj (AD 10 true 89 rfl rfl (fun _ _ h=>h) fun σ w1 hC h=> ?_)
     have a5:=Af (h 90 (by decide))
     refine Yk.callA1 Nz a5 ((CP _ ((⟨c1,((c2:Nat):Int),[],l1,l2,0,0,zid,[],[],zid,zid,false,0⟩,⟨(Value.slice none 0 0),u1,u2,(Value.slice none 0 0)⟩):Ah) (MsgAt.mk (RG.nil _ _ _) (RG.ofOwn (hoq.keep hC)) (RG.ofOwn (bs.keep hC)) (RB.nil _)) hMl).mono ?_)
     rintro e w2 ⟨rfl,hx⟩
     exact⟨_,rfl,hx,rfl⟩
    ·refine Aj (Aa rfl fun σ w1 hC h=> ?_)
     have ay:=Af (h 89 (by decide))
     have a6:=Af (h 91 (by decide))
     exact Yk.pickT ay a6 ⟨Ext.refl _,rfl⟩
    ·exact trivial
   intro i7 rg bv he hf
   obtain⟨-,-,-,-,-,-,-,-,-,-,-,-,-,k92,-⟩:=hf
   obtain⟨T0,q,s,o,T4,ad,ae,af,ag,ah,ai,aj,az,-⟩:=he.hold [(0,_),(1,_),(2,_),(3,_),(4,_),(22, .bool (false)),(27, .bool (true)),(35, .bool (false)),(40, .bool (false)),(45, .bool (false)),(50, .bool (false)),(56, .bool (false)),(75, .bool (false))] ⟨T0,q,s,o,a4,rfl,rfl,rfl,rfl,rfl,rfl,rfl,rfl,trivial⟩ rfl
   clear he
   have f:=f.trans bv
   have hb:=eb bv hb
   have hbm:=eb bv hbm
   have hbg:=eb bv hbg
   have hbn:=eb bv hbn
   have bs:=bs.keep bv
   have hoq:=hoq.keep bv
   have a0:i7 92 = .bool (rightB (((⟨c1,((c2:Nat):Int),[],l1,l2,0,0,zid,[],[],zid,zid,false,0⟩,⟨(Value.slice none 0 0),u1,u2,(Value.slice none 0 0)⟩):Ah):Ah).1):=k92
   clear k92
   refine Yp.callA1 CQ a0 ?_
   refine Ar (AZ _ (rightB (((⟨c1,((c2:Nat):Int),[],l1,l2,0,0,zid,[],[],zid,zid,false,0⟩,⟨(Value.slice none 0 0),u1,u2,(Value.slice none 0 0)⟩):Ah):Ah).1)) ?_ ?_
   rotate_left
   ·
    rintro ch rh ⟨rfl,hb,hx⟩
    refine Aq (postP_panic ?_)
    exact .inr ⟨_,rfl,by rw[hD];simp only[hPb1,hPb2,Option.bind_some];refine if_neg ?_;rintro⟨h1,h2⟩;exact Bool.noConfusion (h2.symm.trans hb),rfl,f.trans hx⟩
   rintro v_ ri ⟨rfl,i8,bw⟩
   have f:=f.trans bw
   have hb:=eb bw hb
   have hbm:=eb bw hbm
   have hbg:=eb bw hbg
   have hbn:=eb bw hbn
   have bs:=bs.keep bw
   have hoq:=hoq.keep bw
   intro bf bg
   have T0:bf 0=(PQ r 0:Value):=(bg 0 (by decide)).trans T0
   have q:bf 1=(PQ n2 0:Value):=(bg 1 (by decide)).trans q
   have s:bf 2=(PQ y 0:Value):=(bg 2 (by decide)).trans s
   have o:bf 3=(PQ t 0:Value):=(bg 3 (by decide)).trans o
   have T4:bf 4=(.bool (true):Value):=(bg 4 (by decide)).trans T4
   have ad:bf 22=(.bool (false):Value):=(bg 22 (by decide)).trans ad
   have ae:bf 27=(.bool (true):Value):=(bg 27 (by decide)).trans ae
   have af:bf 35=(.bool (false):Value):=(bg 35 (by decide)).trans af
   have ag:bf 40=(.bool (false):Value):=(bg 40 (by decide)).trans ag
   have ah:bf 45=(.bool (false):Value):=(bg 45 (by decide)).trans ah
   have ai:bf 50=(.bool (false):Value):=(bg 50 (by decide)).trans ai
   have aj:bf 56=(.bool (false):Value):=(bg 56 (by decide)).trans aj
   have az:bf 75=(.bool (false):Value):=(bg 75 (by decide)).trans az
   refine tN (iz _ _ (sk fun rj i9=>(wt (oS rfl (Yk.loadAll s hbm (Nr).choose_spec rfl (Au (msg_len ((⟨c1,((c2:Nat):Int),[],l1,l2,0,0,zid,[],[],zid,zid,false,0⟩,⟨(Value.slice none 0 0),u1,u2,(Value.slice none 0 0)⟩):Ah)) Mr) (oS rfl (Yk.storeAll s (vr (.agg (msgC ((⟨c1,((c2:Nat):Int),[],l1,l2,0,0,zid,[],[],zid,zid,false,0⟩,⟨(Value.slice none 0 0),u1,u2,(Value.slice none 0 0)⟩):Ah)).toArray) rfl) hbm (by simp only[List.size_toArray,msg_len]) (Au (msg_len _) Mr) (BK (x:=((⟨c1,((c2:Nat):Int),[],l1,l2,0,0,zid,[],[],zid,zid,false,0⟩,⟨(Value.slice none 0 0),u1,u2,(Value.slice none 0 0)⟩):Ah)) rfl (RG.one (RG.ofOwn hoq)).2 (RG.one (RG.ofOwn bs)).2 rfl) fun ja e4 b3 rk=> ?_)))))))
   have f:=Ae f b3 (Nat.le_trans (Nat.le_refl _) (by omega))
   have hb:=kb b3 hb (by omega)
   clear hbm
   have hbg:=kb b3 hbg (by omega)
   have hbn:=kb b3 hbn (by omega)
   have bs:=OG.kept bs b3 ap_u2.m
   have hoq:=OG.kept hoq b3 ap_u1.m
   have hbm:ja.heap[y]? =some (.cells (msgC ((⟨c1,((c2:Nat):Int),[],l1,l2,0,0,zid,[],[],zid,zid,false,0⟩,⟨(Value.slice none 0 0),u1,u2,(Value.slice none 0 0)⟩):Ah)).toArray 29 (0,0)):=e4;clear e4
   have rl:=bl hbm
   refine oZ (tN (i9 _ _ (Ao (BJ (fn:=Tryd.f67) _ rfl [.agg (msgC ((⟨c1,((c2:Nat):Int),[],l1,l2,0,0,zid,[],[],zid,zid,false,0⟩,⟨(Value.slice none 0 0),u1,u2,(Value.slice none 0 0)⟩):Ah)).toArray] (.agg (msgC ((⟨c1,((c2:Nat):Int),[],l1,l2,0,0,zid,[],[],zid,zid,false,0⟩,⟨(Value.slice none 0 0),u1,u2,(Value.slice none 0 0)⟩):Ah)).toArray) rfl ⟨ResF.row s hbm (Nr).choose_spec rfl (Au (msg_len _) Mr),trivial⟩ ?_))))
   exact .inl ⟨_,rfl,((⟨c1,((c2:Nat):Int),[],l1,l2,0,0,zid,[],[],zid,zid,false,0⟩,⟨(Value.slice none 0 0),u1,u2,(Value.slice none 0 0)⟩):Ah),by rw[hD];simp only[hPb1,hPb2,Option.bind_some];refine if_pos ?_;exact⟨hj,i8⟩,rfl,(MsgAt.mk (RG.nil _ _ _) (RG.ofOwn hoq) (RG.ofOwn bs) (RB.nil _)),⟨(fun k h=>by cases h),(fun k h=>(hoq.2.lt k h).1),(fun k h=>(bs.2.lt k h).1),(fun k h=>by cases h)⟩,f⟩
  refine tN (e0 _ _ (Am (vr (.bool (false)) rfl) (Ak (tN (ez _ _ (sk fun rm rn=> ?_))))))
  refine Bh 14 _ [Is (PQ r 0),Is (PQ r 0),Is (PQ r 1),Is (NI i2),Is (PQ r 0),Is (PQ r 0),Is (PQ r 0),Is (v),Is (NI b.length),Is (.bool (false)),Is (.bool (false)),Is undef,Is undef,Is (.bool (false))] (by kernel_rfl) [79,80,81,82,83,84,85,86,87,88,89,90,91,92,93] (by kernel_rfl) (by kernel_rfl) (by kernel_rfl) rfl rfl rfl (fun _ _=>trivial) (Db (B6 trivial)) ?jb ?hQ8027
  case jb=>
   refine⟨?_,?_,?_,?_,?_,?_,?_,?_,?_,?_,?_,?_,?_,?_,?_,trivial⟩
   ·refine Aj (Aa rfl fun σ w1 hC h=> ?_)
    have e1:=(Af (h 1 (by decide))).trans q
    exact Yk.cell1 EE rfl e1 (Ab (eb hC hbg) (show _=some (PQ r 0:Value)from rfl)) ⟨Ext.refl _,rfl⟩
   ·refine Aj (Aa rfl fun σ w1 hC h=> ?_)
    have am:=Af (h 79 (by decide))
    exact Yk.nilCheck am ⟨Ext.refl _,rfl⟩
   ·refine Aj (Aa rfl fun σ w1 hC h=> ?_)
    have an:=Af (h 80 (by decide))
    exact Yk.fieldAt Bi an ⟨Ext.refl _,rfl⟩
   ·refine Aj (Aa rfl fun σ w1 hC h=> ?_)
    have ao:=Af (h 81 (by decide))
    exact Yk.cell1 FI rfl ao (Ab (eb hC hb) (show(A4 (AL v b (i2)))[1]? =some (NI i2:Value)from BV (AL v b (i2)))) ⟨Ext.refl _,rfl⟩
   ·refine Aj (Aa rfl fun σ w1 hC h=> ?_)
    have e1:=(Af (h 1 (by decide))).trans q
    exact Yk.cell1 EE rfl e1 (Ab (eb hC hbg) (show _=some (PQ r 0:Value)from rfl)) ⟨Ext.refl _,rfl⟩
   ·refine Aj (Aa rfl fun σ w1 hC h=> ?_)
    have ap:=Af (h 83 (by decide))
    exact Yk.nilCheck ap ⟨Ext.refl _,rfl⟩
   ·refine Aj (Aa rfl fun σ w1 hC h=> ?_)
    have aq:=Af (h 84 (by decide))
    exact Yk.fieldAt Cb aq ⟨Ext.refl _,rfl⟩
   ·refine Aj (Aa rfl fun σ w1 hC h=> ?_)
    have ar:=Af (h 85 (by decide))
    exact Yk.cell1 El rfl ar (Ab (eb hC hb) (show(A4 (AL v b (i2)))[0]? =some (v:Value)from B2 (AL v b (i2)))) ⟨Ext.refl _,rfl⟩
   ·refine Aj (Aa rfl fun σ w1 hC h=> ?_)
    have au:=Af (h 86 (by decide))
    exact Yk.lenRB El (RB.of (hr.keep (f.trans hC)) au) ⟨Ext.refl _,rfl⟩
   ·refine Aj (Aa rfl fun σ w1 hC h=> ?_)
    have av:=Af (h 82 (by decide))
    have aw:=Af (h 87 (by decide))
    exact Yk.eqI (a:=(i2:Nat)) (b:=(b.length:Nat)) av aw (k_eql _ _ _ _) ⟨Ext.refl _,(congrArg Value.bool (decide_eq_false (hj)))⟩
   ·refine Aj (Aa rfl fun σ w1 hC h=> ?_)
    have ax:=Af (h 88 (by decide))
    exact Yk.move ax ⟨Ext.refl _,rfl⟩
   ·refine Aj (A9 10 true 89 rfl rfl (fun x _ (h:x = .bool false)=>by rw[h];intro h;cases h) fun _=>rfl)
   ·refine Aj (A9 10 true 89 rfl rfl (fun x _ (h:x = .bool false)=>by rw[h];intro h;cases h) fun _=>rfl)
   ·refine Aj (Aa rfl fun σ w1 hC h=> ?_)
    have ay:=Af (h 89 (by decide))
    exact Yk.pickF ay (vr (.bool (false)) rfl) ⟨Ext.refl _,rfl⟩
   ·exact trivial
  intro jc ro b4 he hf
  obtain⟨-,-,-,-,-,-,-,-,-,-,-,-,-,k92,-⟩:=hf
  obtain⟨T0,q,s,o,T4,ad,ae,af,ag,ah,ai,aj,az,-⟩:=he.hold [(0,_),(1,_),(2,_),(3,_),(4,_),(22, .bool (false)),(27, .bool (true)),(35, .bool (false)),(40, .bool (false)),(45, .bool (false)),(50, .bool (false)),(56, .bool (false)),(75, .bool (false))] ⟨T0,q,s,o,a4,rfl,rfl,rfl,rfl,rfl,rfl,rfl,rfl,trivial⟩ rfl
  clear he
  have f:=f.trans b4
  have hb:=eb b4 hb
  have hbm:=eb b4 hbm
  have hbg:=eb b4 hbg
  have hbn:=eb b4 hbn
  have hoq:=hoq.keep b4
  have a0:jc 92 = .bool (false):=k92
  clear k92
  refine Yp.callA1 CQ a0 ?_
  refine Ar (AZ _ (false)) ?_ ?_
  rotate_left
  ·
   rintro ch rp ⟨rfl,hb,hx⟩
   refine Aq (postP_panic ?_)
   exact .inr ⟨_,rfl,by rw[hD];simp only[hPb1,hPb2,Option.bind_some];refine if_neg ?_;rintro⟨h1,h2⟩;exact hj h1,rfl,f.trans hx⟩
  rintro v_ rq ⟨rfl,jd,rr⟩
  cases jd
 ·have hD:=DU hP1 hK hP2
  rw[Mx (m:=(⟨c1,((c2:Nat):Int),[],[],[],0,0,zid,[],[],zid,zid,false,0⟩:Msg)) hk]at hD
  refine tN (bt _ _ (sk fun rs je=>(sk fun rt jf=>(wt (oS rfl (Yk.fieldAt LD o (oS rfl (Yk.cell1 De rfl (vr (PQ t 0) rfl) (Ab n (show(partsC (⟨false,false,true,false,true,false,false,false⟩:Ai))[0]? =some (.bool (false):Value)from BW (⟨false,false,true,false,true,false,false,false⟩:Ai))) (oZ (tN (jf _ _ (Am (vr (.bool (false)) rfl) (Ak (tN (je _ _ (sk fun ru jg=>(sk fun rv jh=>(wt (oS rfl (Yk.fieldAt LE o (oS rfl (Yk.cell1 De rfl (vr (PQ t 1) rfl) (Ab n (show(partsC (⟨false,false,true,false,true,false,false,false⟩:Ai))[1]? =some (.bool (false):Value)from BX (⟨false,false,true,false,true,false,false,false⟩:Ai))) ?_))))))))))))))))))))))
  refine oZ (tN (jh _ _ (Am (vr (.bool (false)) rfl) (Ak (tN (jg _ _ (sk fun rx ji=>(sk fun ry jj=>(wt (oS rfl (Yk.fieldAt LF o (oS rfl (Yk.cell1 De rfl (vr (PQ t 2) rfl) (Ab n (show(partsC (⟨false,false,true,false,true,false,false,false⟩:Ai))[2]? =some (.bool (true):Value)from BY (⟨false,false,true,false,true,false,false,false⟩:Ai))) (oZ (tN (jj _ _ (At (vr (.bool (true)) rfl) (wt (oS rfl (Yk.cell1 EE rfl q (Ab l (show _=some (PQ r 0:Value)from rfl)) (oP rfl (Yp.callA1 Gy (vr (PQ r 0) rfl) ?_))))))))))))))))))))))
  refine Ar (Cy _ r v b j2 hb (hr.keep f) hapr hle_j2 hl) ?_ ?_
  rotate_left
  ·
   rintro ch rz ⟨hPx,rfl,hgx⟩
   refine Aq (postP_panic ?_)
   exact .inr ⟨_,rfl,by rw[hD];simp only[hPx,Option.bind_some,Option.bind_none],rfl,(Ae f hgx lr)⟩
  rintro v_ r0 ⟨d1,i1,hPb1,rfl,e5,c0⟩
  have f:=Ae f c0 (Nat.le_trans (Nat.le_refl _) lr)
  have l:=kb c0 l (by omega)
  have n:=kb c0 n (by omega)
  clear hb
  have j:=kb c0 j (by omega)
  have hb:=e5;clear e5
  have hle_i1:=DA hle_j2 hPb1
  have r1:=bl hb
  refine oS rfl (Yk.fieldAt H3 s (oS rfl (Yk.storeC (i:=5) (v:=NI d1) (vr (PQ y 5) rfl) (vr (NI d1) rfl) j (by rw[msg_len];decide) Dm rfl rfl fun jk e6 c3 r2=> ?_)))
  have f:=Ae f c3 (Nat.le_trans (Nat.le_refl _) (by omega))
  have l:=kb c3 l (by omega)
  have n:=kb c3 n (by omega)
  clear j
  have hb:=kb c3 hb (by omega)
  have j:jk.heap[y]? =some (.cells (msgC ((⟨c1,((c2:Nat):Int),[],[],[],((d1:Nat):Int),0,zid,[],[],zid,zid,false,0⟩,⟨(Value.slice none 0 0),(Value.slice none 0 0),(Value.slice none 0 0),(Value.slice none 0 0)⟩):Ah)).toArray 29 (0,0)):=Az e6 (FD ((⟨c1,((c2:Nat):Int),[],[],[],0,0,zid,[],[],zid,zid,false,0⟩,⟨(Value.slice none 0 0),(Value.slice none 0 0),(Value.slice none 0 0),(Value.slice none 0 0)⟩):Ah) ((d1:Nat):Int));clear e6
  have r3:=bl j
  refine oZ (tN (ji _ _ (sk fun r4 jl=>(sk fun r5 jm=>(wt (oS rfl (Yk.fieldAt LG o (oS rfl (Yk.cell1 De rfl (vr (PQ t 3) rfl) (Ab n (show(partsC (⟨false,false,true,false,true,false,false,false⟩:Ai))[3]? =some (.bool (false):Value)from BZ (⟨false,false,true,false,true,false,false,false⟩:Ai))) (oZ (tN (jm _ _ (Am (vr (.bool (false)) rfl) (Ak (tN (jl _ _ (sk fun r6 jn=>(sk fun r7 jo=>(wt (oS rfl (Yk.fieldAt LH o ?_)))))))))))))))))))))
  refine oS rfl (Yk.cell1 De rfl (vr (PQ t 4) rfl) (Ab n (show(partsC (⟨false,false,true,false,true,false,false,false⟩:Ai))[4]? =some (.bool (true):Value)from B0 (⟨false,false,true,false,true,false,false,false⟩:Ai))) (oZ (tN (jo _ _ (At (vr (.bool (true)) rfl) (wt (oS rfl (Yk.cell1 EE rfl q (Ab l (show _=some (PQ r 0:Value)from rfl)) (oP rfl (Yp.callA1 Gz (vr (PQ r 0) rfl) ?_))))))))))
  refine Ar (Et _ r v b i1 hb (hr.keep f) hapr hle_i1 hl) ?_ ?_
  rotate_left
  ·
   rintro ch r8 ⟨hPx,rfl,hgx⟩
   refine Aq (postP_panic ?_)
   exact .inr ⟨_,rfl,by rw[hD];simp only[hPb1,hPx,Option.bind_some,Option.bind_none],rfl,(Ae f hgx lr)⟩
  rintro v_ r9 ⟨d2,i2,hPb2,rfl,e7,c4⟩
  have f:=Ae f c4 (Nat.le_trans (Nat.le_refl _) lr)
  have l:=kb c4 l (by omega)
  have n:=kb c4 n (by omega)
  clear hb
  have j:=kb c4 j (by omega)
  have hb:=e7;clear e7
  have hle_i2:=E5 hPb2
  have sa:=bl hb
  refine oS rfl (Yk.fieldAt LI s (oS rfl (Yk.storeMid (a:=DG ((⟨c1,((c2:Nat):Int),[],[],[],((d1:Nat):Int),0,zid,[],[],zid,zid,false,0⟩,⟨(Value.slice none 0 0),(Value.slice none 0 0),(Value.slice none 0 0),(Value.slice none 0 0)⟩):Ah)) (m:=Lib.byteCells zid.1) (z:=Ed ((⟨c1,((c2:Nat):Int),[],[],[],((d1:Nat):Int),0,zid,[],[],zid,zid,false,0⟩,⟨(Value.slice none 0 0),(Value.slice none 0 0),(Value.slice none 0 0),(Value.slice none 0 0)⟩):Ah)) (cells:=Lib.byteCells d2.1) (vr (PQ y 7) rfl) (vr (AB d2.1) rfl) (CM ((⟨c1,((c2:Nat):Int),[],[],[],((d1:Nat):Int),0,zid,[],[],zid,zid,false,0⟩,⟨(Value.slice none 0 0),(Value.slice none 0 0),(Value.slice none 0 0),(Value.slice none 0 0)⟩):Ah)▸j) (CV ((⟨c1,((c2:Nat):Int),[],[],[],((d1:Nat):Int),0,zid,[],[],zid,zid,false,0⟩,⟨(Value.slice none 0 0),(Value.slice none 0 0),(Value.slice none 0 0),(Value.slice none 0 0)⟩):Ah)) (by rw[Lib.byteCells_length,Lib.byteCells_length,zid.2,d2.2]) (by rw[Lib.byteCells_length,d2.2];exact Mh) (Av _) fun jp e8 c5 sb=> ?_)))
  have f:=Ae f c5 (Nat.le_trans (Nat.le_refl _) (by omega))
  have l:=kb c5 l (by omega)
  have n:=kb c5 n (by omega)
  clear j
  have hb:=kb c5 hb (by omega)
  have j:jp.heap[y]? =some (.cells (msgC ((⟨c1,((c2:Nat):Int),[],[],[],((d1:Nat):Int),0,d2,[],[],zid,zid,false,0⟩,⟨(Value.slice none 0 0),(Value.slice none 0 0),(Value.slice none 0 0),(Value.slice none 0 0)⟩):Ah)).toArray 29 (0,0)):=Az e8 (FF ((⟨c1,((c2:Nat):Int),[],[],[],((d1:Nat):Int),0,zid,[],[],zid,zid,false,0⟩,⟨(Value.slice none 0 0),(Value.slice none 0 0),(Value.slice none 0 0),(Value.slice none 0 0)⟩):Ah) d2);clear e8
  have sc:=bl j
  refine oZ (tN (jn _ _ (sk fun sd jq=>(sk fun se jr=>(wt (oS rfl (Yk.fieldAt H5 o (oS rfl (Yk.cell1 De rfl (vr (PQ t 5) rfl) (Ab n (show(partsC (⟨false,false,true,false,true,false,false,false⟩:Ai))[5]? =some (.bool (false):Value)from BP (⟨false,false,true,false,true,false,false,false⟩:Ai))) (oZ (tN (jr _ _ (Am (vr (.bool (false)) rfl) (Ak (tN (jq _ _ (sk fun sf js=>(sk fun sg jt=>(wt (oS rfl (Yk.fieldAt H6 o ?_)))))))))))))))))))))
  refine oS rfl (Yk.cell1 De rfl (vr (PQ t 6) rfl) (Ab n (show(partsC (⟨false,false,true,false,true,false,false,false⟩:Ai))[6]? =some (.bool (false):Value)from BQ (⟨false,false,true,false,true,false,false,false⟩:Ai))) (oZ (tN (jt _ _ (Am (vr (.bool (false)) rfl) (Ak (tN (js _ _ (sk fun sh fa=>(sk fun si fb=>(wt (oS rfl (Yk.fieldAt LJ o (oS rfl (Yk.cell1 De rfl (vr (PQ t 7) rfl) (Ab n (show(partsC (⟨false,false,true,false,true,false,false,false⟩:Ai))[7]? =some (.bool (false):Value)from BR (⟨false,false,true,false,true,false,false,false⟩:Ai))) (oZ ?_))))))))))))))))
  have hMl:B9 (((⟨c1,((c2:Nat):Int),[],[],[],((d1:Nat):Int),0,d2,[],[],zid,zid,false,0⟩,⟨(Value.slice none 0 0),(Value.slice none 0 0),(Value.slice none 0 0),(Value.slice none 0 0)⟩):Ah):Ah).1:=⟨by simp,fun u hu=>(by cases hu),by simp,by simp,by simp⟩
  by_cases hj:i2=b.length
  ·refine tN (fb _ _ (Am (vr (.bool (false)) rfl) (Ak (tN (fa _ _ (sk fun sj ju=> ?_))))))
   refine Bh 14 _ [Is (PQ r 0),Is (PQ r 0),Is (PQ r 1),Is (NI i2),Is (PQ r 0),Is (PQ r 0),Is (PQ r 0),Is (v),Is (NI b.length),Is (.bool (true)),Is (.bool (true)),Is (.agg (msgC ((⟨c1,((c2:Nat):Int),[],[],[],((d1:Nat):Int),0,d2,[],[],zid,zid,false,0⟩,⟨(Value.slice none 0 0),(Value.slice none 0 0),(Value.slice none 0 0),(Value.slice none 0 0)⟩):Ah)).toArray),Is (.bool (rightB (((⟨c1,((c2:Nat):Int),[],[],[],((d1:Nat):Int),0,d2,[],[],zid,zid,false,0⟩,⟨(Value.slice none 0 0),(Value.slice none 0 0),(Value.slice none 0 0),(Value.slice none 0 0)⟩):Ah):Ah).1)),Is (.bool (rightB (((⟨c1,((c2:Nat):Int),[],[],[],((d1:Nat):Int),0,d2,[],[],zid,zid,false,0⟩,⟨(Value.slice none 0 0),(Value.slice none 0 0),(Value.slice none 0 0),(Value.slice none 0 0)⟩):Ah):Ah).1))] (by kernel_rfl) [79,80,81,82,83,84,85,86,87,88,89,90,91,92,93] (by kernel_rfl) (by kernel_rfl) (by kernel_rfl) rfl rfl rfl (fun _ _=>trivial) (Db (B6 trivial)) ?jv ?hQ9027
   case jv=>
    refine⟨?_,?_,?_,?_,?_,?_,?_,?_,?_,?_,?_,?_,?_,?_,?_,trivial⟩
    ·refine Aj (Aa rfl fun σ w1 hC h=> ?_)
     have e1:=(Af (h 1 (by decide))).trans q
     exact Yk.cell1 EE rfl e1 (Ab (eb hC l) (show _=some (PQ r 0:Value)from rfl)) ⟨Ext.refl _,rfl⟩
    ·refine Aj (Aa rfl fun σ w1 hC h=> ?_)
     have am:=Af (h 79 (by decide))
     exact Yk.nilCheck am ⟨Ext.refl _,rfl⟩
    ·refine Aj (Aa rfl fun σ w1 hC h=> ?_)
     have an:=Af (h 80 (by decide))
     exact Yk.fieldAt Bi an ⟨Ext.refl _,rfl⟩
    ·refine Aj (Aa rfl fun σ w1 hC h=> ?_)
     have ao:=Af (h 81 (by decide))
     exact Yk.cell1 FI rfl ao (Ab (eb hC hb) (show(A4 (AL v b (i2)))[1]? =some (NI i2:Value)from BV (AL v b (i2)))) ⟨Ext.refl _,rfl⟩
    ·refine Aj (Aa rfl fun σ w1 hC h=> ?_)
     have e1:=(Af (h 1 (by decide))).trans q
     exact Yk.cell1 EE rfl e1 (Ab (eb hC l) (show _=some (PQ r 0:Value)from rfl)) ⟨Ext.refl _,rfl⟩
    ·refine Aj (Aa rfl fun σ w1 hC h=> ?_)
     have ap:=Af (h 83 (by decide))
     exact Yk.nilCheck ap ⟨Ext.refl _,rfl⟩
    ·refine Aj (Aa rfl fun σ w1 hC h=> ?_)
     have aq:=Af (h 84 (by decide))
     exact Yk.fieldAt Cb aq ⟨Ext.refl _,rfl⟩
    ·refine Aj (Aa rfl fun σ w1 hC h=> ?_)
     have ar:=Af (h 85 (by decide))
     exact Yk.cell1 El rfl ar (Ab (eb hC hb) (show(A4 (AL v b (i2)))[0]? =some (v:Value)from B2 (AL v b (i2)))) ⟨Ext.refl _,rfl⟩
    ·refine Aj (Aa rfl fun σ w1 hC h=> ?_)
     have au:=Af (h 86 (by decide))
     exact Yk.lenRB El (RB.of (hr.keep (f.trans hC)) au) ⟨Ext.refl _,rfl⟩
    ·refine Aj (Aa rfl fun σ w1 hC h=> ?_)
     have av:=Af (h 82 (by decide))
     have aw:=Af (h 87 (by decide))
     exact Yk.eqI (a:=(i2:Nat)) (b:=(b.length:Nat)) av aw (k_eql _ _ _ _) ⟨Ext.refl _,(congrArg Value.bool (decide_eq_true (hj)))⟩
    ·refine Aj (Aa rfl fun σ w1 hC h=> ?_)
     have ax:=Af (h 88 (by decide))
     exact Yk.move ax ⟨Ext.refl _,rfl⟩
    ·refine Aj (AD 10 true 89 rfl rfl (fun _ _ h=>h) fun σ w1 hC h=> ?_)
     have e2:=(Af (h 2 (by decide))).trans s
     exact Yk.loadAll e2 (eb hC j) (Nr).choose_spec rfl (Au (msg_len ((⟨c1,((c2:Nat):Int),[],[],[],((d1:Nat):Int),0,d2,[],[],zid,zid,false,0⟩,⟨(Value.slice none 0 0),(Value.slice none 0 0),(Value.slice none 0 0),(Value.slice none 0 0)⟩):Ah)) Mr) ⟨Ext.refl _,rfl⟩
    ·refine Aj (AD 10 true 89 rfl rfl (fun _ _ h=>h) fun σ w1 hC h=> ?_)
     have a5:=Af (h 90 (by decide))
     refine Yk.callA1 Nz a5 ((CP _ ((⟨c1,((c2:Nat):Int),[],[],[],((d1:Nat):Int),0,d2,[],[],zid,zid,false,0⟩,⟨(Value.slice none 0 0),(Value.slice none 0 0),(Value.slice none 0 0),(Value.slice none 0 0)⟩):Ah) (MsgAt.mk (RG.nil _ _ _) (RG.nil _ _ _) (RG.nil _ _ _) (RB.nil _)) hMl).mono ?_)
     rintro e w2 ⟨rfl,hx⟩
     exact⟨_,rfl,hx,rfl⟩
    ·refine Aj (Aa rfl fun σ w1 hC h=> ?_)
     have ay:=Af (h 89 (by decide))
     have a6:=Af (h 91 (by decide))
     exact Yk.pickT ay a6 ⟨Ext.refl _,rfl⟩
    ·exact trivial
   intro jw sl cd he hf
   obtain⟨-,-,-,-,-,-,-,-,-,-,-,-,-,k92,-⟩:=hf
   obtain⟨T0,q,s,o,T4,ad,ae,af,ag,ah,ai,aj,az,-⟩:=he.hold [(0,_),(1,_),(2,_),(3,_),(4,_),(22, .bool (false)),(27, .bool (false)),(35, .bool (true)),(40, .bool (false)),(45, .bool (true)),(50, .bool (false)),(56, .bool (false)),(75, .bool (false))] ⟨T0,q,s,o,a4,rfl,rfl,rfl,rfl,rfl,rfl,rfl,rfl,trivial⟩ rfl
   clear he
   have f:=f.trans cd
   have l:=eb cd l
   have n:=eb cd n
   have hb:=eb cd hb
   have j:=eb cd j
   have a0:jw 92 = .bool (rightB (((⟨c1,((c2:Nat):Int),[],[],[],((d1:Nat):Int),0,d2,[],[],zid,zid,false,0⟩,⟨(Value.slice none 0 0),(Value.slice none 0 0),(Value.slice none 0 0),(Value.slice none 0 0)⟩):Ah):Ah).1):=k92
   clear k92
   refine Yp.callA1 CQ a0 ?_
   refine Ar (AZ _ (rightB (((⟨c1,((c2:Nat):Int),[],[],[],((d1:Nat):Int),0,d2,[],[],zid,zid,false,0⟩,⟨(Value.slice none 0 0),(Value.slice none 0 0),(Value.slice none 0 0),(Value.slice none 0 0)⟩):Ah):Ah).1)) ?_ ?_
   rotate_left
   ·
    rintro ch sm ⟨rfl,hb,hx⟩
    refine Aq (postP_panic ?_)
    exact .inr ⟨_,rfl,by rw[hD];simp only[hPb1,hPb2,Option.bind_some];refine if_neg ?_;rintro⟨h1,h2⟩;exact Bool.noConfusion (h2.symm.trans hb),rfl,f.trans hx⟩
   rintro v_ sn ⟨rfl,jx,ce⟩
   have f:=f.trans ce
   have l:=eb ce l
   have n:=eb ce n
   have hb:=eb ce hb
   have j:=eb ce j
   intro bh bi
   have T0:bh 0=(PQ r 0:Value):=(bi 0 (by decide)).trans T0
   have q:bh 1=(PQ n2 0:Value):=(bi 1 (by decide)).trans q
   have s:bh 2=(PQ y 0:Value):=(bi 2 (by decide)).trans s
   have o:bh 3=(PQ t 0:Value):=(bi 3 (by decide)).trans o
   have T4:bh 4=(.bool (true):Value):=(bi 4 (by decide)).trans T4
   have ad:bh 22=(.bool (false):Value):=(bi 22 (by decide)).trans ad
   have ae:bh 27=(.bool (false):Value):=(bi 27 (by decide)).trans ae
   have af:bh 35=(.bool (true):Value):=(bi 35 (by decide)).trans af
   have ag:bh 40=(.bool (false):Value):=(bi 40 (by decide)).trans ag
   have ah:bh 45=(.bool (true):Value):=(bi 45 (by decide)).trans ah
   have ai:bh 50=(.bool (false):Value):=(bi 50 (by decide)).trans ai
   have aj:bh 56=(.bool (false):Value):=(bi 56 (by decide)).trans aj
   have az:bh 75=(.bool (false):Value):=(bi 75 (by decide)).trans az
   refine tN (ju _ _ (sk fun so jy=>(wt (oS rfl (Yk.loadAll s j (Nr).choose_spec rfl (Au (msg_len ((⟨c1,((c2:Nat):Int),[],[],[],((d1:Nat):Int),0,d2,[],[],zid,zid,false,0⟩,⟨(Value.slice none 0 0),(Value.slice none 0 0),(Value.slice none 0 0),(Value.slice none 0 0)⟩):Ah)) Mr) (oS rfl (Yk.storeAll s (vr (.agg (msgC ((⟨c1,((c2:Nat):Int),[],[],[],((d1:Nat):Int),0,d2,[],[],zid,zid,false,0⟩,⟨(Value.slice none 0 0),(Value.slice none 0 0),(Value.slice none 0 0),(Value.slice none 0 0)⟩):Ah)).toArray) rfl) j (by simp only[List.size_toArray,msg_len]) (Au (msg_len _) Mr) (BK (x:=((⟨c1,((c2:Nat):Int),[],[],[],((d1:Nat):Int),0,d2,[],[],zid,zid,false,0⟩,⟨(Value.slice none 0 0),(Value.slice none 0 0),(Value.slice none 0 0),(Value.slice none 0 0)⟩):Ah)) rfl rfl rfl rfl) fun jz fc c6 sp=> ?_)))))))
   have f:=Ae f c6 (Nat.le_trans (Nat.le_refl _) (by omega))
   have l:=kb c6 l (by omega)
   have n:=kb c6 n (by omega)
   have hb:=kb c6 hb (by omega)
   clear j
   have j:jz.heap[y]? =some (.cells (msgC ((⟨c1,((c2:Nat):Int),[],[],[],((d1:Nat):Int),0,d2,[],[],zid,zid,false,0⟩,⟨(Value.slice none 0 0),(Value.slice none 0 0),(Value.slice none 0 0),(Value.slice none 0 0)⟩):Ah)).toArray 29 (0,0)):=fc;clear fc
   have sq:=bl j
   refine oZ (tN (jy _ _ (Ao (BJ (fn:=Tryd.f67) _ rfl [.agg (msgC ((⟨c1,((c2:Nat):Int),[],[],[],((d1:Nat):Int),0,d2,[],[],zid,zid,false,0⟩,⟨(Value.slice none 0 0),(Value.slice none 0 0),(Value.slice none 0 0),(Value.slice none 0 0)⟩):Ah)).toArray] (.agg (msgC ((⟨c1,((c2:Nat):Int),[],[],[],((d1:Nat):Int),0,d2,[],[],zid,zid,false,0⟩,⟨(Value.slice none 0 0),(Value.slice none 0 0),(Value.slice none 0 0),(Value.slice none 0 0)⟩):Ah)).toArray) rfl ⟨ResF.row s j (Nr).choose_spec rfl (Au (msg_len _) Mr),trivial⟩ ?_))))
   exact .inl ⟨_,rfl,((⟨c1,((c2:Nat):Int),[],[],[],((d1:Nat):Int),0,d2,[],[],zid,zid,false,0⟩,⟨(Value.slice none 0 0),(Value.slice none 0 0),(Value.slice none 0 0),(Value.slice none 0 0)⟩):Ah),by rw[hD];simp only[hPb1,hPb2,Option.bind_some];refine if_pos ?_;exact⟨hj,jx⟩,rfl,(MsgAt.mk (RG.nil _ _ _) (RG.nil _ _ _) (RG.nil _ _ _) (RB.nil _)),⟨(fun k h=>by cases h),(fun k h=>by cases h),(fun k h=>by cases h),(fun k h=>by cases h)⟩,f⟩
  refine tN (fb _ _ (Am (vr (.bool (false)) rfl) (Ak (tN (fa _ _ (sk fun sr ss=> ?_))))))
  refine Bh 14 _ [Is (PQ r 0),Is (PQ r 0),Is (PQ r 1),Is (NI i2),Is (PQ r 0),Is (PQ r 0),Is (PQ r 0),Is (v),Is (NI b.length),Is (.bool (false)),Is (.bool (false)),Is undef,Is undef,Is (.bool (false))] (by kernel_rfl) [79,80,81,82,83,84,85,86,87,88,89,90,91,92,93] (by kernel_rfl) (by kernel_rfl) (by kernel_rfl) rfl rfl rfl (fun _ _=>trivial) (Db (B6 trivial)) ?j0 ?hQ10027
  case j0=>
   refine⟨?_,?_,?_,?_,?_,?_,?_,?_,?_,?_,?_,?_,?_,?_,?_,trivial⟩
   ·refine Aj (Aa rfl fun σ w1 hC h=> ?_)
    have e1:=(Af (h 1 (by decide))).trans q
    exact Yk.cell1 EE rfl e1 (Ab (eb hC l) (show _=some (PQ r 0:Value)from rfl)) ⟨Ext.refl _,rfl⟩
   ·refine Aj (Aa rfl fun σ w1 hC h=> ?_)
    have am:=Af (h 79 (by decide))
    exact Yk.nilCheck am ⟨Ext.refl _,rfl⟩
   ·refine Aj (Aa rfl fun σ w1 hC h=> ?_)
    have an:=Af (h 80 (by decide))
    exact Yk.fieldAt Bi an ⟨Ext.refl _,rfl⟩
   ·refine Aj (Aa rfl fun σ w1 hC h=> ?_)
    have ao:=Af (h 81 (by decide))
    exact Yk.cell1 FI rfl ao (Ab (eb hC hb) (show(A4 (AL v b (i2)))[1]? =some (NI i2:Value)from BV (AL v b (i2)))) ⟨Ext.refl _,rfl⟩
   ·refine Aj (Aa rfl fun σ w1 hC h=> ?_)
    have e1:=(Af (h 1 (by decide))).trans q
    exact Yk.cell1 EE rfl e1 (Ab (eb hC l) (show _=some (PQ r 0:Value)from rfl)) ⟨Ext.refl _,rfl⟩
   ·refine Aj (Aa rfl fun σ w1 hC h=> ?_)
    have ap:=Af (h 83 (by decide))
    exact Yk.nilCheck ap ⟨Ext.refl _,rfl⟩
   ·refine Aj (Aa rfl fun σ w1 hC h=> ?_)
    have aq:=Af (h 84 (by decide))
    exact Yk.fieldAt Cb aq ⟨Ext.refl _,rfl⟩
   ·refine Aj (Aa rfl fun σ w1 hC h=> ?_)
    have ar:=Af (h 85 (by decide))
    exact Yk.cell1 El rfl ar (Ab (eb hC hb) (show(A4 (AL v b (i2)))[0]? =some (v:Value)from B2 (AL v b (i2)))) ⟨Ext.refl _,rfl⟩
   ·refine Aj (Aa rfl fun σ w1 hC h=> ?_)
    have au:=Af (h 86 (by decide))
    exact Yk.lenRB El (RB.of (hr.keep (f.trans hC)) au) ⟨Ext.refl _,rfl⟩
   ·refine Aj (Aa rfl fun σ w1 hC h=> ?_)
    have av:=Af (h 82 (by decide))
    have aw:=Af (h 87 (by decide))
    exact Yk.eqI (a:=(i2:Nat)) (b:=(b.length:Nat)) av aw (k_eql _ _ _ _) ⟨Ext.refl _,(congrArg Value.bool (decide_eq_false (hj)))⟩
   ·refine Aj (Aa rfl fun σ w1 hC h=> ?_)
    have ax:=Af (h 88 (by decide))
    exact Yk.move ax ⟨Ext.refl _,rfl⟩
   ·refine Aj (A9 10 true 89 rfl rfl (fun x _ (h:x = .bool false)=>by rw[h];intro h;cases h) fun _=>rfl)
   ·refine Aj (A9 10 true 89 rfl rfl (fun x _ (h:x = .bool false)=>by rw[h];intro h;cases h) fun _=>rfl)
   ·refine Aj (Aa rfl fun σ w1 hC h=> ?_)
    have ay:=Af (h 89 (by decide))
    exact Yk.pickF ay (vr (.bool (false)) rfl) ⟨Ext.refl _,rfl⟩
   ·exact trivial
  intro j3 st cf he hf
  obtain⟨-,-,-,-,-,-,-,-,-,-,-,-,-,k92,-⟩:=hf
  obtain⟨T0,q,s,o,T4,ad,ae,af,ag,ah,ai,aj,az,-⟩:=he.hold [(0,_),(1,_),(2,_),(3,_),(4,_),(22, .bool (false)),(27, .bool (false)),(35, .bool (true)),(40, .bool (false)),(45, .bool (true)),(50, .bool (false)),(56, .bool (false)),(75, .bool (false))] ⟨T0,q,s,o,a4,rfl,rfl,rfl,rfl,rfl,rfl,rfl,rfl,trivial⟩ rfl
  clear he
  have f:=f.trans cf
  have l:=eb cf l
  have n:=eb cf n
  have hb:=eb cf hb
  have j:=eb cf j
  have a0:j3 92 = .bool (false):=k92
  clear k92
  refine Yp.callA1 CQ a0 ?_
  refine Ar (AZ _ (false)) ?_ ?_
  rotate_left
  ·
   rintro ch su ⟨rfl,hb,hx⟩
   refine Aq (postP_panic ?_)
   exact .inr ⟨_,rfl,by rw[hD];simp only[hPb1,hPb2,Option.bind_some];refine if_neg ?_;rintro⟨h1,h2⟩;exact hj h1,rfl,f.trans hx⟩
  rintro v_ sv ⟨rfl,j4,sw⟩
  cases j4
 ·have hD:=DU hP1 hK hP2
  rw[My (m:=(⟨c1,((c2:Nat):Int),[],[],[],0,0,zid,[],[],zid,zid,false,0⟩:Msg)) hk]at hD
  refine tN (bt _ _ (sk fun sx j5=>(sk fun sy j6=>(wt (oS rfl (Yk.fieldAt LD o (oS rfl (Yk.cell1 De rfl (vr (PQ t 0) rfl) (Ab n (show(partsC (⟨false,false,false,true,false,false,false,false⟩:Ai))[0]? =some (.bool (false):Value)from BW (⟨false,false,false,true,false,false,false,false⟩:Ai))) (oZ (tN (j6 _ _ (Am (vr (.bool (false)) rfl) (Ak (tN (j5 _ _ (sk fun sz j7=>(sk fun s0 j8=>(wt (oS rfl (Yk.fieldAt LE o (oS rfl (Yk.cell1 De rfl (vr (PQ t 1) rfl) (Ab n (show(partsC (⟨false,false,false,true,false,false,false,false⟩:Ai))[1]? =some (.bool (false):Value)from BX (⟨false,false,false,true,false,false,false,false⟩:Ai))) ?_))))))))))))))))))))))
  refine oZ (tN (j8 _ _ (Am (vr (.bool (false)) rfl) (Ak (tN (j7 _ _ (sk fun s1 j9=>(sk fun s2 ka=>(wt (oS rfl (Yk.fieldAt LF o (oS rfl (Yk.cell1 De rfl (vr (PQ t 2) rfl) (Ab n (show(partsC (⟨false,false,false,true,false,false,false,false⟩:Ai))[2]? =some (.bool (false):Value)from BY (⟨false,false,false,true,false,false,false,false⟩:Ai))) (oZ (tN (ka _ _ (Am (vr (.bool (false)) rfl) (Ak (tN (j9 _ _ (sk fun s3 kc=> ?_)))))))))))))))))))))
  refine sk fun s4 kd=>(wt (oS rfl (Yk.fieldAt LG o (oS rfl (Yk.cell1 De rfl (vr (PQ t 3) rfl) (Ab n (show(partsC (⟨false,false,false,true,false,false,false,false⟩:Ai))[3]? =some (.bool (true):Value)from BZ (⟨false,false,false,true,false,false,false,false⟩:Ai))) (oZ (tN (kd _ _ (At (vr (.bool (true)) rfl) (wt (oS rfl (Yk.cell1 EE rfl q (Ab l (show _=some (PQ r 0:Value)from rfl)) (oP rfl (Yp.callA1 Gy (vr (PQ r 0) rfl) ?_))))))))))))))
  refine Ar (Cy _ r v b j2 hb (hr.keep f) hapr hle_j2 hl) ?_ ?_
  rotate_left
  ·
   rintro ch s5 ⟨hPx,rfl,hgx⟩
   refine Aq (postP_panic ?_)
   exact .inr ⟨_,rfl,by rw[hD];simp only[hPx,Option.bind_some,Option.bind_none],rfl,(Ae f hgx lr)⟩
  rintro v_ s6 ⟨d1,i1,hPb1,rfl,fd,c7⟩
  have f:=Ae f c7 (Nat.le_trans (Nat.le_refl _) lr)
  have l:=kb c7 l (by omega)
  have n:=kb c7 n (by omega)
  clear hb
  have j:=kb c7 j (by omega)
  have hb:=fd;clear fd
  have hle_i1:=DA hle_j2 hPb1
  have s7:=bl hb
  refine oS rfl (Yk.fieldAt H4 s (oS rfl (Yk.storeC (i:=6) (v:=NI d1) (vr (PQ y 6) rfl) (vr (NI d1) rfl) j (by rw[msg_len];decide) Dm rfl rfl fun ke fe c8 s8=> ?_)))
  have f:=Ae f c8 (Nat.le_trans (Nat.le_refl _) (by omega))
  have l:=kb c8 l (by omega)
  have n:=kb c8 n (by omega)
  clear j
  have hb:=kb c8 hb (by omega)
  have j:ke.heap[y]? =some (.cells (msgC ((⟨c1,((c2:Nat):Int),[],[],[],0,((d1:Nat):Int),zid,[],[],zid,zid,false,0⟩,⟨(Value.slice none 0 0),(Value.slice none 0 0),(Value.slice none 0 0),(Value.slice none 0 0)⟩):Ah)).toArray 29 (0,0)):=Az fe (FE ((⟨c1,((c2:Nat):Int),[],[],[],0,0,zid,[],[],zid,zid,false,0⟩,⟨(Value.slice none 0 0),(Value.slice none 0 0),(Value.slice none 0 0),(Value.slice none 0 0)⟩):Ah) ((d1:Nat):Int));clear fe
  have s9:=bl j
  refine oZ (tN (kc _ _ (sk fun ta kf=>(sk fun tb kg=>(wt (oS rfl (Yk.fieldAt LH o (oS rfl (Yk.cell1 De rfl (vr (PQ t 4) rfl) (Ab n (show(partsC (⟨false,false,false,true,false,false,false,false⟩:Ai))[4]? =some (.bool (false):Value)from B0 (⟨false,false,false,true,false,false,false,false⟩:Ai))) (oZ (tN (kg _ _ (Am (vr (.bool (false)) rfl) (Ak (tN (kf _ _ (sk fun tc kh=>(sk fun td ki=>(wt (oS rfl (Yk.fieldAt H5 o ?_)))))))))))))))))))))
  refine oS rfl (Yk.cell1 De rfl (vr (PQ t 5) rfl) (Ab n (show(partsC (⟨false,false,false,true,false,false,false,false⟩:Ai))[5]? =some (.bool (false):Value)from BP (⟨false,false,false,true,false,false,false,false⟩:Ai))) (oZ (tN (ki _ _ (Am (vr (.bool (false)) rfl) (Ak (tN (kh _ _ (sk fun te kj=>(sk fun tf kk=>(wt (oS rfl (Yk.fieldAt H6 o (oS rfl (Yk.cell1 De rfl (vr (PQ t 6) rfl) (Ab n (show(partsC (⟨false,false,false,true,false,false,false,false⟩:Ai))[6]? =some (.bool (false):Value)from BQ (⟨false,false,false,true,false,false,false,false⟩:Ai))) (oZ (tN (kk _ _ (Am (vr (.bool (false)) rfl) (Ak (tN (kj _ _ ?_))))))))))))))))))))))
  refine sk fun tg ff=>(sk fun th fg=>(wt (oS rfl (Yk.fieldAt LJ o (oS rfl (Yk.cell1 De rfl (vr (PQ t 7) rfl) (Ab n (show(partsC (⟨false,false,false,true,false,false,false,false⟩:Ai))[7]? =some (.bool (false):Value)from BR (⟨false,false,false,true,false,false,false,false⟩:Ai))) (oZ ?_)))))))
  have hMl:B9 (((⟨c1,((c2:Nat):Int),[],[],[],0,((d1:Nat):Int),zid,[],[],zid,zid,false,0⟩,⟨(Value.slice none 0 0),(Value.slice none 0 0),(Value.slice none 0 0),(Value.slice none 0 0)⟩):Ah):Ah).1:=⟨by simp,fun u hu=>(by cases hu),by simp,by simp,by simp⟩
  by_cases hj:i1=b.length
  ·refine tN (fg _ _ (Am (vr (.bool (false)) rfl) (Ak (tN (ff _ _ (sk fun ti kl=> ?_))))))
   refine Bh 14 _ [Is (PQ r 0),Is (PQ r 0),Is (PQ r 1),Is (NI i1),Is (PQ r 0),Is (PQ r 0),Is (PQ r 0),Is (v),Is (NI b.length),Is (.bool (true)),Is (.bool (true)),Is (.agg (msgC ((⟨c1,((c2:Nat):Int),[],[],[],0,((d1:Nat):Int),zid,[],[],zid,zid,false,0⟩,⟨(Value.slice none 0 0),(Value.slice none 0 0),(Value.slice none 0 0),(Value.slice none 0 0)⟩):Ah)).toArray),Is (.bool (rightB (((⟨c1,((c2:Nat):Int),[],[],[],0,((d1:Nat):Int),zid,[],[],zid,zid,false,0⟩,⟨(Value.slice none 0 0),(Value.slice none 0 0),(Value.slice none 0 0),(Value.slice none 0 0)⟩):Ah):Ah).1)),Is (.bool (rightB (((⟨c1,((c2:Nat):Int),[],[],[],0,((d1:Nat):Int),zid,[],[],zid,zid,false,0⟩,⟨(Value.slice none 0 0),(Value.slice none 0 0),(Value.slice none 0 0),(Value.slice none 0 0)⟩):Ah):Ah).1))] (by kernel_rfl) [79,80,81,82,83,84,85,86,87,88,89,90,91,92,93] (by kernel_rfl) (by kernel_rfl) (by kernel_rfl) rfl rfl rfl (fun _ _=>trivial) (Db (B6 trivial)) ?km ?hQ11027
   case km=>
    refine⟨?_,?_,?_,?_,?_,?_,?_,?_,?_,?_,?_,?_,?_,?_,?_,trivial⟩
    ·refine Aj (Aa rfl fun σ w1 hC h=> ?_)
     have e1:=(Af (h 1 (by decide))).trans q
     exact Yk.cell1 EE rfl e1 (Ab (eb hC l) (show _=some (PQ r 0:Value)from rfl)) ⟨Ext.refl _,rfl⟩
    ·refine Aj (Aa rfl fun σ w1 hC h=> ?_)
     have am:=Af (h 79 (by decide))
     exact Yk.nilCheck am ⟨Ext.refl _,rfl⟩
    ·refine Aj (Aa rfl fun σ w1 hC h=> ?_)
     have an:=Af (h 80 (by decide))
     exact Yk.fieldAt Bi an ⟨Ext.refl _,rfl⟩
    ·refine Aj (Aa rfl fun σ w1 hC h=> ?_)
     have ao:=Af (h 81 (by decide))
     exact Yk.cell1 FI rfl ao (Ab (eb hC hb) (show(A4 (AL v b (i1)))[1]? =some (NI i1:Value)from BV (AL v b (i1)))) ⟨Ext.refl _,rfl⟩
    ·refine Aj (Aa rfl fun σ w1 hC h=> ?_)
     have e1:=(Af (h 1 (by decide))).trans q
     exact Yk.cell1 EE rfl e1 (Ab (eb hC l) (show _=some (PQ r 0:Value)from rfl)) ⟨Ext.refl _,rfl⟩
    ·refine Aj (Aa rfl fun σ w1 hC h=> ?_)
     have ap:=Af (h 83 (by decide))
     exact Yk.nilCheck ap ⟨Ext.refl _,rfl⟩
    ·refine Aj (Aa rfl fun σ w1 hC h=> ?_)
     have aq:=Af (h 84 (by decide))
     exact Yk.fieldAt Cb aq ⟨Ext.refl _,rfl⟩
    ·refine Aj (Aa rfl fun σ w1 hC h=> ?_)
     have ar:=Af (h 85 (by decide))
     exact Yk.cell1 El rfl ar (Ab (eb hC hb) (show(A4 (AL v b (i1)))[0]? =some (v:Value)from B2 (AL v b (i1)))) ⟨Ext.refl _,rfl⟩
    ·refine Aj (Aa rfl fun σ w1 hC h=> ?_)
     have au:=Af (h 86 (by decide))
     exact Yk.lenRB El (RB.of (hr.keep (f.trans hC)) au) ⟨Ext.refl _,rfl⟩
    ·refine Aj (Aa rfl fun σ w1 hC h=> ?_)
     have av:=Af (h 82 (by decide))
     have aw:=Af (h 87 (by decide))
     exact Yk.eqI (a:=(i1:Nat)) (b:=(b.length:Nat)) av aw (k_eql _ _ _ _) ⟨Ext.refl _,(congrArg Value.bool (decide_eq_true (hj)))⟩
    ·refine Aj (Aa rfl fun σ w1 hC h=> ?_)
     have ax:=Af (h 88 (by decide))
     exact Yk.move ax ⟨Ext.refl _,rfl⟩
    ·refine Aj (AD 10 true 89 rfl rfl (fun _ _ h=>h) fun σ w1 hC h=> ?_)
     have e2:=(Af (h 2 (by decide))).trans s
     exact Yk.loadAll e2 (eb hC j) (Nr).choose_spec rfl (Au (msg_len ((⟨c1,((c2:Nat):Int),[],[],[],0,((d1:Nat):Int),zid,[],[],zid,zid,false,0⟩,⟨(Value.slice none 0 0),(Value.slice none 0 0),(Value.slice none 0 0),(Value.slice none 0 0)⟩):Ah)) Mr) ⟨Ext.refl _,rfl⟩
    ·refine Aj (AD 10 true 89 rfl rfl (fun _ _ h=>h) fun σ w1 hC h=> ?_)
     have a5:=Af (h 90 (by decide))
     refine Yk.callA1 Nz a5 ((CP _ ((⟨c1,((c2:Nat):Int),[],[],[],0,((d1:Nat):Int),zid,[],[],zid,zid,false,0⟩,⟨(Value.slice none 0 0),(Value.slice none 0 0),(Value.slice none 0 0),(Value.slice none 0 0)⟩):Ah) (MsgAt.mk (RG.nil _ _ _) (RG.nil _ _ _) (RG.nil _ _ _) (RB.nil _)) hMl).mono ?_)
     rintro e w2 ⟨rfl,hx⟩
     exact⟨_,rfl,hx,rfl⟩
    ·refine Aj (Aa rfl fun σ w1 hC h=> ?_)
     have ay:=Af (h 89 (by decide))
     have a6:=Af (h 91 (by decide))
     exact Yk.pickT ay a6 ⟨Ext.refl _,rfl⟩
    ·exact trivial
   intro kn tj cg he hf
   obtain⟨-,-,-,-,-,-,-,-,-,-,-,-,-,k92,-⟩:=hf
   obtain⟨T0,q,s,o,T4,ad,ae,af,ag,ah,ai,aj,az,-⟩:=he.hold [(0,_),(1,_),(2,_),(3,_),(4,_),(22, .bool (false)),(27, .bool (false)),(35, .bool (false)),(40, .bool (true)),(45, .bool (false)),(50, .bool (false)),(56, .bool (false)),(75, .bool (false))] ⟨T0,q,s,o,a4,rfl,rfl,rfl,rfl,rfl,rfl,rfl,rfl,trivial⟩ rfl
   clear he
   have f:=f.trans cg
   have l:=eb cg l
   have n:=eb cg n
   have hb:=eb cg hb
   have j:=eb cg j
   have a0:kn 92 = .bool (rightB (((⟨c1,((c2:Nat):Int),[],[],[],0,((d1:Nat):Int),zid,[],[],zid,zid,false,0⟩,⟨(Value.slice none 0 0),(Value.slice none 0 0),(Value.slice none 0 0),(Value.slice none 0 0)⟩):Ah):Ah).1):=k92
   clear k92
   refine Yp.callA1 CQ a0 ?_
   refine Ar (AZ _ (rightB (((⟨c1,((c2:Nat):Int),[],[],[],0,((d1:Nat):Int),zid,[],[],zid,zid,false,0⟩,⟨(Value.slice none 0 0),(Value.slice none 0 0),(Value.slice none 0 0),(Value.slice none 0 0)⟩):Ah):Ah).1)) ?_ ?_
   rotate_left
   ·
    rintro ch tk ⟨rfl,hb,hx⟩
    refine Aq (postP_panic ?_)
    exact .inr ⟨_,rfl,by rw[hD];simp only[hPb1,Option.bind_some];refine if_neg ?_;rintro⟨h1,h2⟩;exact Bool.noConfusion (h2.symm.trans hb),rfl,f.trans hx⟩
   rintro v_ tl ⟨rfl,ko,ci⟩
   have f:=f.trans ci
   have l:=eb ci l
   have n:=eb ci n
   have hb:=eb ci hb
   have j:=eb ci j
   intro bj bk
   have T0:bj 0=(PQ r 0:Value):=(bk 0 (by decide)).trans T0
   have q:bj 1=(PQ n2 0:Value):=(bk 1 (by decide)).trans q
   have s:bj 2=(PQ y 0:Value):=(bk 2 (by decide)).trans s
   have o:bj 3=(PQ t 0:Value):=(bk 3 (by decide)).trans o
   have T4:bj 4=(.bool (true):Value):=(bk 4 (by decide)).trans T4
   have ad:bj 22=(.bool (false):Value):=(bk 22 (by decide)).trans ad
   have ae:bj 27=(.bool (false):Value):=(bk 27 (by decide)).trans ae
   have af:bj 35=(.bool (false):Value):=(bk 35 (by decide)).trans af
   have ag:bj 40=(.bool (true):Value):=(bk 40 (by decide)).trans ag
   have ah:bj 45=(.bool (false):Value):=(bk 45 (by decide)).trans ah
   have ai:bj 50=(.bool (false):Value):=(bk 50 (by decide)).trans ai
   have aj:bj 56=(.bool (false):Value):=(bk 56 (by decide)).trans aj
   have az:bj 75=(.bool (false):Value):=(bk 75 (by decide)).trans az
   refine tN (kl _ _ (sk fun tm kp=>(wt (oS rfl (Yk.loadAll s j (Nr).choose_spec rfl (Au (msg_len ((⟨c1,((c2:Nat):Int),[],[],[],0,((d1:Nat):Int),zid,[],[],zid,zid,false,0⟩,⟨(Value.slice none 0 0),(Value.slice none 0 0),(Value.slice none 0 0),(Value.slice none 0 0)⟩):Ah)) Mr) (oS rfl (Yk.storeAll s (vr (.agg (msgC ((⟨c1,((c2:Nat):Int),[],[],[],0,((d1:Nat):Int),zid,[],[],zid,zid,false,0⟩,⟨(Value.slice none 0 0),(Value.slice none 0 0),(Value.slice none 0 0),(Value.slice none 0 0)⟩):Ah)).toArray) rfl) j (by simp only[List.size_toArray,msg_len]) (Au (msg_len _) Mr) (BK (x:=((⟨c1,((c2:Nat):Int),[],[],[],0,((d1:Nat):Int),zid,[],[],zid,zid,false,0⟩,⟨(Value.slice none 0 0),(Value.slice none 0 0),(Value.slice none 0 0),(Value.slice none 0 0)⟩):Ah)) rfl rfl rfl rfl) fun kq fh c9 tn=> ?_)))))))
   have f:=Ae f c9 (Nat.le_trans (Nat.le_refl _) (by omega))
   have l:=kb c9 l (by omega)
   have n:=kb c9 n (by omega)
   have hb:=kb c9 hb (by omega)
   clear j
   have j:kq.heap[y]? =some (.cells (msgC ((⟨c1,((c2:Nat):Int),[],[],[],0,((d1:Nat):Int),zid,[],[],zid,zid,false,0⟩,⟨(Value.slice none 0 0),(Value.slice none 0 0),(Value.slice none 0 0),(Value.slice none 0 0)⟩):Ah)).toArray 29 (0,0)):=fh;clear fh
   have tp:=bl j
   refine oZ (tN (kp _ _ (Ao (BJ (fn:=Tryd.f67) _ rfl [.agg (msgC ((⟨c1,((c2:Nat):Int),[],[],[],0,((d1:Nat):Int),zid,[],[],zid,zid,false,0⟩,⟨(Value.slice none 0 0),(Value.slice none 0 0),(Value.slice none 0 0),(Value.slice none 0 0)⟩):Ah)).toArray] (.agg (msgC ((⟨c1,((c2:Nat):Int),[],[],[],0,((d1:Nat):Int),zid,[],[],zid,zid,false,0⟩,⟨(Value.slice none 0 0),(Value.slice none 0 0),(Value.slice none 0 0),(Value.slice none 0 0)⟩):Ah)).toArray) rfl ⟨ResF.row s j (Nr).choose_spec rfl (Au (msg_len _) Mr),trivial⟩ ?_))))
   exact .inl ⟨_,rfl,((⟨c1,((c2:Nat):Int),[],[],[],0,((d1:Nat):Int),zid,[],[],zid,zid,false,0⟩,⟨(Value.slice none 0 0),(Value.slice none 0 0),(Value.slice none 0 0),(Value.slice none 0 0)⟩):Ah),by rw[hD];simp only[hPb1,Option.bind_some];refine if_pos ?_;exact⟨hj,ko⟩,rfl,(MsgAt.mk (RG.nil _ _ _) (RG.nil _ _ _) (RG.nil _ _ _) (RB.nil _)),⟨(fun k h=>by cases h),(fun k h=>by cases h),(fun k h=>by cases h),(fun k h=>by cases h)⟩,f⟩
  refine tN (fg _ _ (Am (vr (.bool (false)) rfl) (Ak (tN (ff _ _ (sk fun tq tr=> ?_))))))
  refine Bh 14 _ [Is (PQ r 0),Is (PQ r 0),Is (PQ r 1),Is (NI i1),Is (PQ r 0),Is (PQ r 0),Is (PQ r 0),Is (v),Is (NI b.length),Is (.bool (false)),Is (.bool (false)),Is undef,Is undef,Is (.bool (false))] (by kernel_rfl) [79,80,81,82,83,84,85,86,87,88,89,90,91,92,93] (by kernel_rfl) (by kernel_rfl) (by kernel_rfl) rfl rfl rfl (fun _ _=>trivial) (Db (B6 trivial)) ?kr ?hQ12027
  case kr=>
   refine⟨?_,?_,?_,?_,?_,?_,?_,?_,?_,?_,?_,?_,?_,?_,?_,trivial⟩
   ·refine Aj (Aa rfl fun σ w1 hC h=> ?_)
    have e1:=(Af (h 1 (by decide))).trans q
    exact Yk.cell1 EE rfl e1 (Ab (eb hC l) (show _=some (PQ r 0:Value)from rfl)) ⟨Ext.refl _,rfl⟩
   ·refine Aj (Aa rfl fun σ w1 hC h=> ?_)
    have am:=Af (h 79 (by decide))
    exact Yk.nilCheck am ⟨Ext.refl _,rfl⟩
   ·refine Aj (Aa rfl fun σ w1 hC h=> ?_)
    have an:=Af (h 80 (by decide))
    exact Yk.fieldAt Bi an ⟨Ext.refl _,rfl⟩
   ·refine Aj (Aa rfl fun σ w1 hC h=> ?_)
    have ao:=Af (h 81 (by decide))
    exact Yk.cell1 FI rfl ao (Ab (eb hC hb) (show(A4 (AL v b (i1)))[1]? =some (NI i1:Value)from BV (AL v b (i1)))) ⟨Ext.refl _,rfl⟩
   ·refine Aj (Aa rfl fun σ w1 hC h=> ?_)
    have e1:=(Af (h 1 (by decide))).trans q
    exact Yk.cell1 EE rfl e1 (Ab (eb hC l) (show _=some (PQ r 0:Value)from rfl)) ⟨Ext.refl _,rfl⟩
   ·refine Aj (Aa rfl fun σ w1 hC h=> ?_)
    have ap:=Af (h 83 (by decide))
    exact Yk.nilCheck ap ⟨Ext.refl _,rfl⟩
   ·refine Aj (Aa rfl fun σ w1 hC h=> ?_)
    have aq:=Af (h 84 (by decide))
    exact Yk.fieldAt Cb aq ⟨Ext.refl _,rfl⟩
   ·refine Aj (Aa rfl fun σ w1 hC h=> ?_)
    have ar:=Af (h 85 (by decide))
    exact Yk.cell1 El rfl ar (Ab (eb hC hb) (show(A4 (AL v b (i1)))[0]? =some (v:Value)from B2 (AL v b (i1)))) ⟨Ext.refl _,rfl⟩
   ·refine Aj (Aa rfl fun σ w1 hC h=> ?_)
    have au:=Af (h 86 (by decide))
    exact Yk.lenRB El (RB.of (hr.keep (f.trans hC)) au) ⟨Ext.refl _,rfl⟩
   ·refine Aj (Aa rfl fun σ w1 hC h=> ?_)
    have av:=Af (h 82 (by decide))
    have aw:=Af (h 87 (by decide))
    exact Yk.eqI (a:=(i1:Nat)) (b:=(b.length:Nat)) av aw (k_eql _ _ _ _) ⟨Ext.refl _,(congrArg Value.bool (decide_eq_false (hj)))⟩
   ·refine Aj (Aa rfl fun σ w1 hC h=> ?_)
    have ax:=Af (h 88 (by decide))
    exact Yk.move ax ⟨Ext.refl _,rfl⟩
   ·refine Aj (A9 10 true 89 rfl rfl (fun x _ (h:x = .bool false)=>by rw[h];intro h;cases h) fun _=>rfl)
   ·refine Aj (A9 10 true 89 rfl rfl (fun x _ (h:x = .bool false)=>by rw[h];intro h;cases h) fun _=>rfl)
   ·refine Aj (Aa rfl fun σ w1 hC h=> ?_)
    have ay:=Af (h 89 (by decide))
    exact Yk.pickF ay (vr (.bool (false)) rfl) ⟨Ext.refl _,rfl⟩
   ·exact trivial
  intro ks ts cj he hf
  obtain⟨-,-,-,-,-,-,-,-,-,-,-,-,-,k92,-⟩:=hf
  obtain⟨T0,q,s,o,T4,ad,ae,af,ag,ah,ai,aj,az,-⟩:=he.hold [(0,_),(1,_),(2,_),(3,_),(4,_),(22, .bool (false)),(27, .bool (false)),(35, .bool (false)),(40, .bool (true)),(45, .bool (false)),(50, .bool (false)),(56, .bool (false)),(75, .bool (false))] ⟨T0,q,s,o,a4,rfl,rfl,rfl,rfl,rfl,rfl,rfl,rfl,trivial⟩ rfl
  clear he
  have f:=f.trans cj
  have l:=eb cj l
  have n:=eb cj n
  have hb:=eb cj hb
  have j:=eb cj j
  have a0:ks 92 = .bool (false):=k92
  clear k92
  refine Yp.callA1 CQ a0 ?_
  refine Ar (AZ _ (false)) ?_ ?_
  rotate_left
  ·
   rintro ch tt ⟨rfl,hb,hx⟩
   refine Aq (postP_panic ?_)
   exact .inr ⟨_,rfl,by rw[hD];simp only[hPb1,Option.bind_some];refine if_neg ?_;rintro⟨h1,h2⟩;exact hj h1,rfl,f.trans hx⟩
  rintro v_ tu ⟨rfl,kt,tv⟩
  cases kt
 ·have hD:=DU hP1 hK hP2
  rw[Mz (m:=(⟨c1,((c2:Nat):Int),[],[],[],0,0,zid,[],[],zid,zid,false,0⟩:Msg)) hk]at hD
  refine tN (bt _ _ (sk fun tw ku=>(sk fun tx kv=>(wt (oS rfl (Yk.fieldAt LD o (oS rfl (Yk.cell1 De rfl (vr (PQ t 0) rfl) (Ab n (show(partsC (⟨false,false,false,true,false,true,false,false⟩:Ai))[0]? =some (.bool (false):Value)from BW (⟨false,false,false,true,false,true,false,false⟩:Ai))) (oZ (tN (kv _ _ (Am (vr (.bool (false)) rfl) (Ak (tN (ku _ _ (sk fun ty kw=>(sk fun tz kx=>(wt (oS rfl (Yk.fieldAt LE o (oS rfl (Yk.cell1 De rfl (vr (PQ t 1) rfl) (Ab n (show(partsC (⟨false,false,false,true,false,true,false,false⟩:Ai))[1]? =some (.bool (false):Value)from BX (⟨false,false,false,true,false,true,false,false⟩:Ai))) ?_))))))))))))))))))))))
  refine oZ (tN (kx _ _ (Am (vr (.bool (false)) rfl) (Ak (tN (kw _ _ (sk fun t0 ky=>(sk fun t1 kz=>(wt (oS rfl (Yk.fieldAt LF o (oS rfl (Yk.cell1 De rfl (vr (PQ t 2) rfl) (Ab n (show(partsC (⟨false,false,false,true,false,true,false,false⟩:Ai))[2]? =some (.bool (false):Value)from BY (⟨false,false,false,true,false,true,false,false⟩:Ai))) (oZ (tN (kz _ _ (Am (vr (.bool (false)) rfl) (Ak (tN (ky _ _ (sk fun t2 k0=> ?_)))))))))))))))))))))
  refine sk fun t3 k1=>(wt (oS rfl (Yk.fieldAt LG o (oS rfl (Yk.cell1 De rfl (vr (PQ t 3) rfl) (Ab n (show(partsC (⟨false,false,false,true,false,true,false,false⟩:Ai))[3]? =some (.bool (true):Value)from BZ (⟨false,false,false,true,false,true,false,false⟩:Ai))) (oZ (tN (k1 _ _ (At (vr (.bool (true)) rfl) (wt (oS rfl (Yk.cell1 EE rfl q (Ab l (show _=some (PQ r 0:Value)from rfl)) (oP rfl (Yp.callA1 Gy (vr (PQ r 0) rfl) ?_))))))))))))))
  refine Ar (Cy _ r v b j2 hb (hr.keep f) hapr hle_j2 hl) ?_ ?_
  rotate_left
  ·
   rintro ch t4 ⟨hPx,rfl,hgx⟩
   refine Aq (postP_panic ?_)
   exact .inr ⟨_,rfl,by rw[hD];simp only[hPx,Option.bind_some,Option.bind_none],rfl,(Ae f hgx lr)⟩
  rintro v_ t5 ⟨d1,i1,hPb1,rfl,fi,da⟩
  have f:=Ae f da (Nat.le_trans (Nat.le_refl _) lr)
  have l:=kb da l (by omega)
  have n:=kb da n (by omega)
  clear hb
  have j:=kb da j (by omega)
  have hb:=fi;clear fi
  have hle_i1:=DA hle_j2 hPb1
  have t6:=bl hb
  refine oS rfl (Yk.fieldAt H4 s (oS rfl (Yk.storeC (i:=6) (v:=NI d1) (vr (PQ y 6) rfl) (vr (NI d1) rfl) j (by rw[msg_len];decide) Dm rfl rfl fun k2 fj db t7=> ?_)))
  have f:=Ae f db (Nat.le_trans (Nat.le_refl _) (by omega))
  have l:=kb db l (by omega)
  have n:=kb db n (by omega)
  clear j
  have hb:=kb db hb (by omega)
  have j:k2.heap[y]? =some (.cells (msgC ((⟨c1,((c2:Nat):Int),[],[],[],0,((d1:Nat):Int),zid,[],[],zid,zid,false,0⟩,⟨(Value.slice none 0 0),(Value.slice none 0 0),(Value.slice none 0 0),(Value.slice none 0 0)⟩):Ah)).toArray 29 (0,0)):=Az fj (FE ((⟨c1,((c2:Nat):Int),[],[],[],0,0,zid,[],[],zid,zid,false,0⟩,⟨(Value.slice none 0 0),(Value.slice none 0 0),(Value.slice none 0 0),(Value.slice none 0 0)⟩):Ah) ((d1:Nat):Int));clear fj
  have t8:=bl j
  refine oZ (tN (k0 _ _ (sk fun t9 k4=>(sk fun ua k5=>(wt (oS rfl (Yk.fieldAt LH o (oS rfl (Yk.cell1 De rfl (vr (PQ t 4) rfl) (Ab n (show(partsC (⟨false,false,false,true,false,true,false,false⟩:Ai))[4]? =some (.bool (false):Value)from B0 (⟨false,false,false,true,false,true,false,false⟩:Ai))) (oZ (tN (k5 _ _ (Am (vr (.bool (false)) rfl) (Ak (tN (k4 _ _ (sk fun ub k7=>(sk fun uc k8=>(wt (oS rfl (Yk.fieldAt H5 o ?_)))))))))))))))))))))
  refine oS rfl (Yk.cell1 De rfl (vr (PQ t 5) rfl) (Ab n (show(partsC (⟨false,false,false,true,false,true,false,false⟩:Ai))[5]? =some (.bool (true):Value)from BP (⟨false,false,false,true,false,true,false,false⟩:Ai))) (oZ (tN (k8 _ _ (At (vr (.bool (true)) rfl) (wt (oS rfl (Yk.cell1 EE rfl q (Ab l (show _=some (PQ r 0:Value)from rfl)) (oP rfl (Yp.callA2 MK (vr (PQ r 0) rfl) (vr (NI 256) rfl) ?_))))))))))
  refine Ar (Gx _ r v b i1 hb (hr.keep f) hapr hle_i1 hl 256) ?_ ?_
  rotate_left
  ·
   rintro ch ud ⟨hPx,rfl,hgx⟩
   refine Aq (postP_panic ?_)
   exact .inr ⟨_,rfl,by rw[hD];simp only[hPb1,hPx,Option.bind_some,Option.bind_none],rfl,(Ae f hgx lr)⟩
  rintro v_ ue ⟨d2,i2,hPb2,rfl,fk,dc⟩
  have f:=Ae f dc (Nat.le_trans (Nat.le_refl _) lr)
  have l:=kb dc l (by omega)
  have n:=kb dc n (by omega)
  clear hb
  have j:=kb dc j (by omega)
  have hb:=fk;clear fk
  have hle_i2:=(Er hPb2).1
  have uf:=bl hb
  refine oS rfl (Yk.convStr CD El u5 (vr (St (d2)) rfl) (by have:=(Er hPb2).2;omega) fun a2 ug bm ck hq391=> ?_)
  have fl:OB a2 y:=fun e=>by have:=(hq391 _ e).1;have:=(bl j);omega
  have hzq:=f.size
  have f:=f.trans ck
  have l:=eb ck l
  have n:=eb ck n
  have j:=eb ck j
  have hb:=eb ck hb
  refine oS rfl (Yk.fieldAt FT s (oS rfl (Yk.storeC (i:=39) (v:=a2) (vr (PQ y 39) rfl) (vr a2 rfl) j (by rw[msg_len];decide) IX (RB.one bm).1 (RB.one bm).2 fun k9 fm cl uh=> ?_)))
  have f:=Ae f cl (Nat.le_trans (Nat.le_refl _) (by omega))
  have l:=kb cl l (by omega)
  have n:=kb cl n (by omega)
  clear j
  have hb:=kb cl hb (by omega)
  have bm:=RB.kept bm cl (.inr fl)
  have j:k9.heap[y]? =some (.cells (msgC ((⟨c1,((c2:Nat):Int),[],[],[],0,((d1:Nat):Int),zid,d2,[],zid,zid,false,0⟩,⟨(Value.slice none 0 0),(Value.slice none 0 0),(Value.slice none 0 0),a2⟩):Ah)).toArray 29 (0,0)):=Az fm (HM ((⟨c1,((c2:Nat):Int),[],[],[],0,((d1:Nat):Int),zid,[],[],zid,zid,false,0⟩,⟨(Value.slice none 0 0),(Value.slice none 0 0),(Value.slice none 0 0),(Value.slice none 0 0)⟩):Ah) a2 (d2));clear fm
  have ui:=bl j
  refine oZ (tN (k7 _ _ (sk fun uj la=>(sk fun uk lb=>(wt (oS rfl (Yk.fieldAt H6 o (oS rfl (Yk.cell1 De rfl (vr (PQ t 6) rfl) (Ab n (show(partsC (⟨false,false,false,true,false,true,false,false⟩:Ai))[6]? =some (.bool (false):Value)from BQ (⟨false,false,false,true,false,true,false,false⟩:Ai))) (oZ (tN (lb _ _ (Am (vr (.bool (false)) rfl) (Ak (tN (la _ _ (sk fun ul fo=>(sk fun um fp=>(wt (oS rfl (Yk.fieldAt LJ o ?_)))))))))))))))))))))
  refine oS rfl (Yk.cell1 De rfl (vr (PQ t 7) rfl) (Ab n (show(partsC (⟨false,false,false,true,false,true,false,false⟩:Ai))[7]? =some (.bool (false):Value)from BR (⟨false,false,false,true,false,true,false,false⟩:Ai))) (oZ ?_))
  have hMl:B9 (((⟨c1,((c2:Nat):Int),[],[],[],0,((d1:Nat):Int),zid,d2,[],zid,zid,false,0⟩,⟨(Value.slice none 0 0),(Value.slice none 0 0),(Value.slice none 0 0),a2⟩):Ah):Ah).1:=⟨by simp,fun u hu=>(by cases hu),by simp,by simp,by simp⟩
  by_cases hj:i2=b.length
  ·refine tN (fp _ _ (Am (vr (.bool (false)) rfl) (Ak (tN (fo _ _ (sk fun un lc=> ?_))))))
   refine Bh 14 _ [Is (PQ r 0),Is (PQ r 0),Is (PQ r 1),Is (NI i2),Is (PQ r 0),Is (PQ r 0),Is (PQ r 0),Is (v),Is (NI b.length),Is (.bool (true)),Is (.bool (true)),Is (.agg (msgC ((⟨c1,((c2:Nat):Int),[],[],[],0,((d1:Nat):Int),zid,d2,[],zid,zid,false,0⟩,⟨(Value.slice none 0 0),(Value.slice none 0 0),(Value.slice none 0 0),a2⟩):Ah)).toArray),Is (.bool (rightB (((⟨c1,((c2:Nat):Int),[],[],[],0,((d1:Nat):Int),zid,d2,[],zid,zid,false,0⟩,⟨(Value.slice none 0 0),(Value.slice none 0 0),(Value.slice none 0 0),a2⟩):Ah):Ah).1)),Is (.bool (rightB (((⟨c1,((c2:Nat):Int),[],[],[],0,((d1:Nat):Int),zid,d2,[],zid,zid,false,0⟩,⟨(Value.slice none 0 0),(Value.slice none 0 0),(Value.slice none 0 0),a2⟩):Ah):Ah).1))] (by kernel_rfl) [79,80,81,82,83,84,85,86,87,88,89,90,91,92,93] (by kernel_rfl) (by kernel_rfl) (by kernel_rfl) rfl rfl rfl (fun _ _=>trivial) (Db (B6 trivial)) ?ld ?hQ13027
   case ld=>
    refine⟨?_,?_,?_,?_,?_,?_,?_,?_,?_,?_,?_,?_,?_,?_,?_,trivial⟩
    ·refine Aj (Aa rfl fun σ w1 hC h=> ?_)
     have e1:=(Af (h 1 (by decide))).trans q
     exact Yk.cell1 EE rfl e1 (Ab (eb hC l) (show _=some (PQ r 0:Value)from rfl)) ⟨Ext.refl _,rfl⟩
    ·refine Aj (Aa rfl fun σ w1 hC h=> ?_)
     have am:=Af (h 79 (by decide))
     exact Yk.nilCheck am ⟨Ext.refl _,rfl⟩
    ·refine Aj (Aa rfl fun σ w1 hC h=> ?_)
     have an:=Af (h 80 (by decide))
     exact Yk.fieldAt Bi an ⟨Ext.refl _,rfl⟩
    ·refine Aj (Aa rfl fun σ w1 hC h=> ?_)
     have ao:=Af (h 81 (by decide))
     exact Yk.cell1 FI rfl ao (Ab (eb hC hb) (show(A4 (AL v b (i2)))[1]? =some (NI i2:Value)from BV (AL v b (i2)))) ⟨Ext.refl _,rfl⟩
    ·refine Aj (Aa rfl fun σ w1 hC h=> ?_)
     have e1:=(Af (h 1 (by decide))).trans q
     exact Yk.cell1 EE rfl e1 (Ab (eb hC l) (show _=some (PQ r 0:Value)from rfl)) ⟨Ext.refl _,rfl⟩
    ·refine Aj (Aa rfl fun σ w1 hC h=> ?_)
     have ap:=Af (h 83 (by decide))
     exact Yk.nilCheck ap ⟨Ext.refl _,rfl⟩
    ·refine Aj (Aa rfl fun σ w1 hC h=> ?_)
     have aq:=Af (h 84 (by decide))
     exact Yk.fieldAt Cb aq ⟨Ext.refl _,rfl⟩
    ·refine Aj (Aa rfl fun σ w1 hC h=> ?_)
     have ar:=Af (h 85 (by decide))
     exact Yk.cell1 El rfl ar (Ab (eb hC hb) (show(A4 (AL v b (i2)))[0]? =some (v:Value)from B2 (AL v b (i2)))) ⟨Ext.refl _,rfl⟩
    ·refine Aj (Aa rfl fun σ w1 hC h=> ?_)
     have au:=Af (h 86 (by decide))
     exact Yk.lenRB El (RB.of (hr.keep (f.trans hC)) au) ⟨Ext.refl _,rfl⟩
    ·refine Aj (Aa rfl fun σ w1 hC h=> ?_)
     have av:=Af (h 82 (by decide))
     have aw:=Af (h 87 (by decide))
     exact Yk.eqI (a:=(i2:Nat)) (b:=(b.length:Nat)) av aw (k_eql _ _ _ _) ⟨Ext.refl _,(congrArg Value.bool (decide_eq_true (hj)))⟩
    ·refine Aj (Aa rfl fun σ w1 hC h=> ?_)
     have ax:=Af (h 88 (by decide))
     exact Yk.move ax ⟨Ext.refl _,rfl⟩
    ·refine Aj (AD 10 true 89 rfl rfl (fun _ _ h=>h) fun σ w1 hC h=> ?_)
     have e2:=(Af (h 2 (by decide))).trans s
     exact Yk.loadAll e2 (eb hC j) (Nr).choose_spec rfl (Au (msg_len ((⟨c1,((c2:Nat):Int),[],[],[],0,((d1:Nat):Int),zid,d2,[],zid,zid,false,0⟩,⟨(Value.slice none 0 0),(Value.slice none 0 0),(Value.slice none 0 0),a2⟩):Ah)) Mr) ⟨Ext.refl _,rfl⟩
    ·refine Aj (AD 10 true 89 rfl rfl (fun _ _ h=>h) fun σ w1 hC h=> ?_)
     have a5:=Af (h 90 (by decide))
     refine Yk.callA1 Nz a5 ((CP _ ((⟨c1,((c2:Nat):Int),[],[],[],0,((d1:Nat):Int),zid,d2,[],zid,zid,false,0⟩,⟨(Value.slice none 0 0),(Value.slice none 0 0),(Value.slice none 0 0),a2⟩):Ah) (MsgAt.mk (RG.nil _ _ _) (RG.nil _ _ _) (RG.nil _ _ _) (bm.keep hC)) hMl).mono ?_)
     rintro e w2 ⟨rfl,hx⟩
     exact⟨_,rfl,hx,rfl⟩
    ·refine Aj (Aa rfl fun σ w1 hC h=> ?_)
     have ay:=Af (h 89 (by decide))
     have a6:=Af (h 91 (by decide))
     exact Yk.pickT ay a6 ⟨Ext.refl _,rfl⟩
    ·exact trivial
   intro le uo b5 he hf
   obtain⟨-,-,-,-,-,-,-,-,-,-,-,-,-,k92,-⟩:=hf
   obtain⟨T0,q,s,o,T4,ad,ae,af,ag,ah,ai,aj,az,-⟩:=he.hold [(0,_),(1,_),(2,_),(3,_),(4,_),(22, .bool (false)),(27, .bool (false)),(35, .bool (false)),(40, .bool (true)),(45, .bool (false)),(50, .bool (true)),(56, .bool (false)),(75, .bool (false))] ⟨T0,q,s,o,a4,rfl,rfl,rfl,rfl,rfl,rfl,rfl,rfl,trivial⟩ rfl
   clear he
   have f:=f.trans b5
   have l:=eb b5 l
   have n:=eb b5 n
   have hb:=eb b5 hb
   have bm:=bm.keep b5
   have j:=eb b5 j
   have a0:le 92 = .bool (rightB (((⟨c1,((c2:Nat):Int),[],[],[],0,((d1:Nat):Int),zid,d2,[],zid,zid,false,0⟩,⟨(Value.slice none 0 0),(Value.slice none 0 0),(Value.slice none 0 0),a2⟩):Ah):Ah).1):=k92
   clear k92
   refine Yp.callA1 CQ a0 ?_
   refine Ar (AZ _ (rightB (((⟨c1,((c2:Nat):Int),[],[],[],0,((d1:Nat):Int),zid,d2,[],zid,zid,false,0⟩,⟨(Value.slice none 0 0),(Value.slice none 0 0),(Value.slice none 0 0),a2⟩):Ah):Ah).1)) ?_ ?_
   rotate_left
   ·
    rintro ch up ⟨rfl,hb,hx⟩
    refine Aq (postP_panic ?_)
    exact .inr ⟨_,rfl,by rw[hD];simp only[hPb1,hPb2,Option.bind_some];refine if_neg ?_;rintro⟨h1,h2⟩;exact Bool.noConfusion (h2.symm.trans hb),rfl,f.trans hx⟩
   rintro v_ uq ⟨rfl,lf,b7⟩
   have f:=f.trans b7
   have l:=eb b7 l
   have n:=eb b7 n
   have hb:=eb b7 hb
   have bm:=bm.keep b7
   have j:=eb b7 j
   intro bn bo
   have T0:bn 0=(PQ r 0:Value):=(bo 0 (by decide)).trans T0
   have q:bn 1=(PQ n2 0:Value):=(bo 1 (by decide)).trans q
   have s:bn 2=(PQ y 0:Value):=(bo 2 (by decide)).trans s
   have o:bn 3=(PQ t 0:Value):=(bo 3 (by decide)).trans o
   have T4:bn 4=(.bool (true):Value):=(bo 4 (by decide)).trans T4
   have ad:bn 22=(.bool (false):Value):=(bo 22 (by decide)).trans ad
   have ae:bn 27=(.bool (false):Value):=(bo 27 (by decide)).trans ae
   have af:bn 35=(.bool (false):Value):=(bo 35 (by decide)).trans af
   have ag:bn 40=(.bool (true):Value):=(bo 40 (by decide)).trans ag
   have ah:bn 45=(.bool (false):Value):=(bo 45 (by decide)).trans ah
   have ai:bn 50=(.bool (true):Value):=(bo 50 (by decide)).trans ai
   have aj:bn 56=(.bool (false):Value):=(bo 56 (by decide)).trans aj
   have az:bn 75=(.bool (false):Value):=(bo 75 (by decide)).trans az
   refine tN (lc _ _ (sk fun ur lg=>(wt (oS rfl (Yk.loadAll s j (Nr).choose_spec rfl (Au (msg_len ((⟨c1,((c2:Nat):Int),[],[],[],0,((d1:Nat):Int),zid,d2,[],zid,zid,false,0⟩,⟨(Value.slice none 0 0),(Value.slice none 0 0),(Value.slice none 0 0),a2⟩):Ah)) Mr) (oS rfl (Yk.storeAll s (vr (.agg (msgC ((⟨c1,((c2:Nat):Int),[],[],[],0,((d1:Nat):Int),zid,d2,[],zid,zid,false,0⟩,⟨(Value.slice none 0 0),(Value.slice none 0 0),(Value.slice none 0 0),a2⟩):Ah)).toArray) rfl) j (by simp only[List.size_toArray,msg_len]) (Au (msg_len _) Mr) (BK (x:=((⟨c1,((c2:Nat):Int),[],[],[],0,((d1:Nat):Int),zid,d2,[],zid,zid,false,0⟩,⟨(Value.slice none 0 0),(Value.slice none 0 0),(Value.slice none 0 0),a2⟩):Ah)) rfl rfl rfl (RB.one bm).2) fun lh fq cm ut=> ?_)))))))
   have f:=Ae f cm (Nat.le_trans (Nat.le_refl _) (by omega))
   have l:=kb cm l (by omega)
   have n:=kb cm n (by omega)
   have hb:=kb cm hb (by omega)
   have bm:=RB.kept bm cm (.inr fl)
   clear j
   have j:lh.heap[y]? =some (.cells (msgC ((⟨c1,((c2:Nat):Int),[],[],[],0,((d1:Nat):Int),zid,d2,[],zid,zid,false,0⟩,⟨(Value.slice none 0 0),(Value.slice none 0 0),(Value.slice none 0 0),a2⟩):Ah)).toArray 29 (0,0)):=fq;clear fq
   have uu:=bl j
   refine oZ (tN (lg _ _ (Ao (BJ (fn:=Tryd.f67) _ rfl [.agg (msgC ((⟨c1,((c2:Nat):Int),[],[],[],0,((d1:Nat):Int),zid,d2,[],zid,zid,false,0⟩,⟨(Value.slice none 0 0),(Value.slice none 0 0),(Value.slice none 0 0),a2⟩):Ah)).toArray] (.agg (msgC ((⟨c1,((c2:Nat):Int),[],[],[],0,((d1:Nat):Int),zid,d2,[],zid,zid,false,0⟩,⟨(Value.slice none 0 0),(Value.slice none 0 0),(Value.slice none 0 0),a2⟩):Ah)).toArray) rfl ⟨ResF.row s j (Nr).choose_spec rfl (Au (msg_len _) Mr),trivial⟩ ?_))))
   exact .inl ⟨_,rfl,((⟨c1,((c2:Nat):Int),[],[],[],0,((d1:Nat):Int),zid,d2,[],zid,zid,false,0⟩,⟨(Value.slice none 0 0),(Value.slice none 0 0),(Value.slice none 0 0),a2⟩):Ah),by rw[hD];simp only[hPb1,hPb2,Option.bind_some];refine if_pos ?_;exact⟨hj,lf⟩,rfl,(MsgAt.mk (RG.nil _ _ _) (RG.nil _ _ _) (RG.nil _ _ _) bm),⟨(fun k h=>by cases h),(fun k h=>by cases h),(fun k h=>by cases h),(fun k h=>by have:=(hq391 k h).1;omega)⟩,f⟩
  refine tN (fp _ _ (Am (vr (.bool (false)) rfl) (Ak (tN (fo _ _ (sk fun uv uw=> ?_))))))
  refine Bh 14 _ [Is (PQ r 0),Is (PQ r 0),Is (PQ r 1),Is (NI i2),Is (PQ r 0),Is (PQ r 0),Is (PQ r 0),Is (v),Is (NI b.length),Is (.bool (false)),Is (.bool (false)),Is undef,Is undef,Is (.bool (false))] (by kernel_rfl) [79,80,81,82,83,84,85,86,87,88,89,90,91,92,93] (by kernel_rfl) (by kernel_rfl) (by kernel_rfl) rfl rfl rfl (fun _ _=>trivial) (Db (B6 trivial)) ?li ?hQ14027
  case li=>
   refine⟨?_,?_,?_,?_,?_,?_,?_,?_,?_,?_,?_,?_,?_,?_,?_,trivial⟩
   ·refine Aj (Aa rfl fun σ w1 hC h=> ?_)
    have e1:=(Af (h 1 (by decide))).trans q
    exact Yk.cell1 EE rfl e1 (Ab (eb hC l) (show _=some (PQ r 0:Value)from rfl)) ⟨Ext.refl _,rfl⟩
   ·refine Aj (Aa rfl fun σ w1 hC h=> ?_)
    have am:=Af (h 79 (by decide))
    exact Yk.nilCheck am ⟨Ext.refl _,rfl⟩
   ·refine Aj (Aa rfl fun σ w1 hC h=> ?_)
    have an:=Af (h 80 (by decide))
    exact Yk.fieldAt Bi an ⟨Ext.refl _,rfl⟩
   ·refine Aj (Aa rfl fun σ w1 hC h=> ?_)
    have ao:=Af (h 81 (by decide))
    exact Yk.cell1 FI rfl ao (Ab (eb hC hb) (show(A4 (AL v b (i2)))[1]? =some (NI i2:Value)from BV (AL v b (i2)))) ⟨Ext.refl _,rfl⟩
   ·refine Aj (Aa rfl fun σ w1 hC h=> ?_)
    have e1:=(Af (h 1 (by decide))).trans q
    exact Yk.cell1 EE rfl e1 (Ab (eb hC l) (show _=some (PQ r 0:Value)from rfl)) ⟨Ext.refl _,rfl⟩
   ·refine Aj (Aa rfl fun σ w1 hC h=> ?_)
    have ap:=Af (h 83 (by decide))
    exact Yk.nilCheck ap ⟨Ext.refl _,rfl⟩
   ·refine Aj (Aa rfl fun σ w1 hC h=> ?_)
    have aq:=Af (h 84 (by decide))
    exact Yk.fieldAt Cb aq ⟨Ext.refl _,rfl⟩
   ·refine Aj (Aa rfl fun σ w1 hC h=> ?_)
    have ar:=Af (h 85 (by decide))
    exact Yk.cell1 El rfl ar (Ab (eb hC hb) (show(A4 (AL v b (i2)))[0]? =some (v:Value)from B2 (AL v b (i2)))) ⟨Ext.refl _,rfl⟩
   ·refine Aj (Aa rfl fun σ w1 hC h=> ?_)
    have au:=Af (h 86 (by decide))
    exact Yk.lenRB El (RB.of (hr.keep (f.trans hC)) au) ⟨Ext.refl _,rfl⟩
   ·refine Aj (Aa rfl fun σ w1 hC h=> ?_)
    have av:=Af (h 82 (by decide))
    have aw:=Af (h 87 (by decide))
    exact Yk.eqI (a:=(i2:Nat)) (b:=(b.length:Nat)) av aw (k_eql _ _ _ _) ⟨Ext.refl _,(congrArg Value.bool (decide_eq_false (hj)))⟩
   ·refine Aj (Aa rfl fun σ w1 hC h=> ?_)
    have ax:=Af (h 88 (by decide))
    exact Yk.move ax ⟨Ext.refl _,rfl⟩
   ·refine Aj (A9 10 true 89 rfl rfl (fun x _ (h:x = .bool false)=>by rw[h];intro h;cases h) fun _=>rfl)
   ·refine Aj (A9 10 true 89 rfl rfl (fun x _ (h:x = .bool false)=>by rw[h];intro h;cases h) fun _=>rfl)
   ·refine Aj (Aa rfl fun σ w1 hC h=> ?_)
    have ay:=Af (h 89 (by decide))
    exact Yk.pickF ay (vr (.bool (false)) rfl) ⟨Ext.refl _,rfl⟩
   ·exact trivial
  intro lj ux cn he hf
  obtain⟨-,-,-,-,-,-,-,-,-,-,-,-,-,k92,-⟩:=hf
  obtain⟨T0,q,s,o,T4,ad,ae,af,ag,ah,ai,aj,az,-⟩:=he.hold [(0,_),(1,_),(2,_),(3,_),(4,_),(22, .bool (false)),(27, .bool (false)),(35, .bool (false)),(40, .bool (true)),(45, .bool (false)),(50, .bool (true)),(56, .bool (false)),(75, .bool (false))] ⟨T0,q,s,o,a4,rfl,rfl,rfl,rfl,rfl,rfl,rfl,rfl,trivial⟩ rfl
  clear he
  have f:=f.trans cn
  have l:=eb cn l
  have n:=eb cn n
  have hb:=eb cn hb
  have j:=eb cn j
  have a0:lj 92 = .bool (false):=k92
  clear k92
  refine Yp.callA1 CQ a0 ?_
  refine Ar (AZ _ (false)) ?_ ?_
  rotate_left
  ·
   rintro ch uy ⟨rfl,hb,hx⟩
   refine Aq (postP_panic ?_)
   exact .inr ⟨_,rfl,by rw[hD];simp only[hPb1,hPb2,Option.bind_some];refine if_neg ?_;rintro⟨h1,h2⟩;exact hj h1,rfl,f.trans hx⟩
  rintro v_ uz ⟨rfl,lk,u0⟩
  cases lk
 ·have hD:=DU hP1 hK hP2
  rw[MA (m:=(⟨c1,((c2:Nat):Int),[],[],[],0,0,zid,[],[],zid,zid,false,0⟩:Msg)) hk]at hD
  refine tN (bt _ _ (sk fun u3 ll=>(sk fun u4 lm=>(wt (oS rfl (Yk.fieldAt LD o (oS rfl (Yk.cell1 De rfl (vr (PQ t 0) rfl) (Ab n (show(partsC (⟨false,false,true,false,true,false,true,false⟩:Ai))[0]? =some (.bool (false):Value)from BW (⟨false,false,true,false,true,false,true,false⟩:Ai))) (oZ (tN (lm _ _ (Am (vr (.bool (false)) rfl) (Ak (tN (ll _ _ (sk fun u6 ln=>(sk fun u7 lo=>(wt (oS rfl (Yk.fieldAt LE o (oS rfl (Yk.cell1 De rfl (vr (PQ t 1) rfl) (Ab n (show(partsC (⟨false,false,true,false,true,false,true,false⟩:Ai))[1]? =some (.bool (false):Value)from BX (⟨false,false,true,false,true,false,true,false⟩:Ai))) ?_))))))))))))))))))))))
  refine oZ (tN (lo _ _ (Am (vr (.bool (false)) rfl) (Ak (tN (ln _ _ (sk fun u8 lp=>(sk fun u9 lq=>(wt (oS rfl (Yk.fieldAt LF o (oS rfl (Yk.cell1 De rfl (vr (PQ t 2) rfl) (Ab n (show(partsC (⟨false,false,true,false,true,false,true,false⟩:Ai))[2]? =some (.bool (true):Value)from BY (⟨false,false,true,false,true,false,true,false⟩:Ai))) (oZ (tN (lq _ _ (At (vr (.bool (true)) rfl) (wt (oS rfl (Yk.cell1 EE rfl q (Ab l (show _=some (PQ r 0:Value)from rfl)) (oP rfl (Yp.callA1 Gy (vr (PQ r 0) rfl) ?_))))))))))))))))))))))
  refine Ar (Cy _ r v b j2 hb (hr.keep f) hapr hle_j2 hl) ?_ ?_
  rotate_left
  ·
   rintro ch va ⟨hPx,rfl,hgx⟩
   refine Aq (postP_panic ?_)
   exact .inr ⟨_,rfl,by rw[hD];simp only[hPx,Option.bind_some,Option.bind_none],rfl,(Ae f hgx lr)⟩
  rintro v_ vb ⟨d1,i1,hPb1,rfl,fr,dd⟩
  have f:=Ae f dd (Nat.le_trans (Nat.le_refl _) lr)
  have l:=kb dd l (by omega)
  have n:=kb dd n (by omega)
  clear hb
  have j:=kb dd j (by omega)
  have hb:=fr;clear fr
  have hle_i1:=DA hle_j2 hPb1
  have vc:=bl hb
  refine oS rfl (Yk.fieldAt H3 s (oS rfl (Yk.storeC (i:=5) (v:=NI d1) (vr (PQ y 5) rfl) (vr (NI d1) rfl) j (by rw[msg_len];decide) Dm rfl rfl fun ls fs de vd=> ?_)))
  have f:=Ae f de (Nat.le_trans (Nat.le_refl _) (by omega))
  have l:=kb de l (by omega)
  have n:=kb de n (by omega)
  clear j
  have hb:=kb de hb (by omega)
  have j:ls.heap[y]? =some (.cells (msgC ((⟨c1,((c2:Nat):Int),[],[],[],((d1:Nat):Int),0,zid,[],[],zid,zid,false,0⟩,⟨(Value.slice none 0 0),(Value.slice none 0 0),(Value.slice none 0 0),(Value.slice none 0 0)⟩):Ah)).toArray 29 (0,0)):=Az fs (FD ((⟨c1,((c2:Nat):Int),[],[],[],0,0,zid,[],[],zid,zid,false,0⟩,⟨(Value.slice none 0 0),(Value.slice none 0 0),(Value.slice none 0 0),(Value.slice none 0 0)⟩):Ah) ((d1:Nat):Int));clear fs
  have ve:=bl j
  refine oZ (tN (lp _ _ (sk fun vf lu=>(sk fun vg lv=>(wt (oS rfl (Yk.fieldAt LG o (oS rfl (Yk.cell1 De rfl (vr (PQ t 3) rfl) (Ab n (show(partsC (⟨false,false,true,false,true,false,true,false⟩:Ai))[3]? =some (.bool (false):Value)from BZ (⟨false,false,true,false,true,false,true,false⟩:Ai))) (oZ (tN (lv _ _ (Am (vr (.bool (false)) rfl) (Ak (tN (lu _ _ (sk fun vh lw=>(sk fun vi lx=>(wt (oS rfl (Yk.fieldAt LH o ?_)))))))))))))))))))))
  refine oS rfl (Yk.cell1 De rfl (vr (PQ t 4) rfl) (Ab n (show(partsC (⟨false,false,true,false,true,false,true,false⟩:Ai))[4]? =some (.bool (true):Value)from B0 (⟨false,false,true,false,true,false,true,false⟩:Ai))) (oZ (tN (lx _ _ (At (vr (.bool (true)) rfl) (wt (oS rfl (Yk.cell1 EE rfl q (Ab l (show _=some (PQ r 0:Value)from rfl)) (oP rfl (Yp.callA1 Gz (vr (PQ r 0) rfl) ?_))))))))))
  refine Ar (Et _ r v b i1 hb (hr.keep f) hapr hle_i1 hl) ?_ ?_
  rotate_left
  ·
   rintro ch vj ⟨hPx,rfl,hgx⟩
   refine Aq (postP_panic ?_)
   exact .inr ⟨_,rfl,by rw[hD];simp only[hPb1,hPx,Option.bind_some,Option.bind_none],rfl,(Ae f hgx lr)⟩
  rintro v_ vk ⟨d2,i2,hPb2,rfl,ft,df⟩
  have f:=Ae f df (Nat.le_trans (Nat.le_refl _) lr)
  have l:=kb df l (by omega)
  have n:=kb df n (by omega)
  clear hb
  have j:=kb df j (by omega)
  have hb:=ft;clear ft
  have hle_i2:=E5 hPb2
  have vl:=bl hb
  refine oS rfl (Yk.fieldAt LI s (oS rfl (Yk.storeMid (a:=DG ((⟨c1,((c2:Nat):Int),[],[],[],((d1:Nat):Int),0,zid,[],[],zid,zid,false,0⟩,⟨(Value.slice none 0 0),(Value.slice none 0 0),(Value.slice none 0 0),(Value.slice none 0 0)⟩):Ah)) (m:=Lib.byteCells zid.1) (z:=Ed ((⟨c1,((c2:Nat):Int),[],[],[],((d1:Nat):Int),0,zid,[],[],zid,zid,false,0⟩,⟨(Value.slice none 0 0),(Value.slice none 0 0),(Value.slice none 0 0),(Value.slice none 0 0)⟩):Ah)) (cells:=Lib.byteCells d2.1) (vr (PQ y 7) rfl) (vr (AB d2.1) rfl) (CM ((⟨c1,((c2:Nat):Int),[],[],[],((d1:Nat):Int),0,zid,[],[],zid,zid,false,0⟩,⟨(Value.slice none 0 0),(Value.slice none 0 0),(Value.slice none 0 0),(Value.slice none 0 0)⟩):Ah)▸j) (CV ((⟨c1,((c2:Nat):Int),[],[],[],((d1:Nat):Int),0,zid,[],[],zid,zid,false,0⟩,⟨(Value.slice none 0 0),(Value.slice none 0 0),(Value.slice none 0 0),(Value.slice none 0 0)⟩):Ah)) (by rw[Lib.byteCells_length,Lib.byteCells_length,zid.2,d2.2]) (by rw[Lib.byteCells_length,d2.2];exact Mh) (Av _) fun ly fu dg vm=> ?_)))
  have f:=Ae f dg (Nat.le_trans (Nat.le_refl _) (by omega))
  have l:=kb dg l (by omega)
  have n:=kb dg n (by omega)
  clear j
  have hb:=kb dg hb (by omega)
  have j:ly.heap[y]? =some (.cells (msgC ((⟨c1,((c2:Nat):Int),[],[],[],((d1:Nat):Int),0,d2,[],[],zid,zid,false,0⟩,⟨(Value.slice none 0 0),(Value.slice none 0 0),(Value.slice none 0 0),(Value.slice none 0 0)⟩):Ah)).toArray 29 (0,0)):=Az fu (FF ((⟨c1,((c2:Nat):Int),[],[],[],((d1:Nat):Int),0,zid,[],[],zid,zid,false,0⟩,⟨(Value.slice none 0 0),(Value.slice none 0 0),(Value.slice none 0 0),(Value.slice none 0 0)⟩):Ah) d2);clear fu
  have vn:=bl j
  refine oZ (tN (lw _ _ (sk fun vo lz=>(sk fun vp l0=>(wt (oS rfl (Yk.fieldAt H5 o (oS rfl (Yk.cell1 De rfl (vr (PQ t 5) rfl) (Ab n (show(partsC (⟨false,false,true,false,true,false,true,false⟩:Ai))[5]? =some (.bool (false):Value)from BP (⟨false,false,true,false,true,false,true,false⟩:Ai))) (oZ (tN (l0 _ _ (Am (vr (.bool (false)) rfl) (Ak (tN (lz _ _ (sk fun vq l3=>(sk fun vt l4=>(wt (oS rfl (Yk.fieldAt H6 o ?_)))))))))))))))))))))
  refine oS rfl (Yk.cell1 De rfl (vr (PQ t 6) rfl) (Ab n (show(partsC (⟨false,false,true,false,true,false,true,false⟩:Ai))[6]? =some (.bool (true):Value)from BQ (⟨false,false,true,false,true,false,true,false⟩:Ai))) (oZ (tN (l4 _ _ (At (vr (.bool (true)) rfl) (sk fun vu l5=>(wt (oS rfl (Yk.cell1 EE rfl q (Ab l (show _=some (PQ r 0:Value)from rfl)) (oP rfl (Yp.callA2 MK (vr (PQ r 0) rfl) (vr (NI 32) rfl) ?_)))))))))))
  refine Ar (Gx _ r v b i2 hb (hr.keep f) hapr hle_i2 hl 32) ?_ ?_
  rotate_left
  ·
   rintro ch vv ⟨hPx,rfl,hgx⟩
   refine Aq (Aq (postP_panic ?_))
   exact .inr ⟨_,rfl,by rw[hD];simp only[hPb1,hPb2,hPx,Option.bind_some,Option.bind_none],rfl,(Ae f hgx lr)⟩
  rintro v_ vw ⟨d3,i3,hPb3,rfl,fv,dh⟩
  have f:=Ae f dh (Nat.le_trans (Nat.le_refl _) lr)
  have l:=kb dh l (by omega)
  have n:=kb dh n (by omega)
  clear hb
  have j:=kb dh j (by omega)
  have hb:=fv;clear fv
  have hle_i3:=(Er hPb3).1
  have vx:=bl hb
  refine oS rfl (Yk.fieldAt H7 s (oS rfl (Yk.storeC (i:=40) (v:=St (d3)) (vr (PQ y 40) rfl) (vr (St (d3)) rfl) j (by rw[msg_len];decide) NA rfl rfl fun l6 fw di vy=> ?_)))
  have f:=Ae f di (Nat.le_trans (Nat.le_refl _) (by omega))
  have l:=kb di l (by omega)
  have n:=kb di n (by omega)
  clear j
  have hb:=kb di hb (by omega)
  have j:l6.heap[y]? =some (.cells (msgC ((⟨c1,((c2:Nat):Int),[],[],[],((d1:Nat):Int),0,d2,[],d3,zid,zid,false,0⟩,⟨(Value.slice none 0 0),(Value.slice none 0 0),(Value.slice none 0 0),(Value.slice none 0 0)⟩):Ah)).toArray 29 (0,0)):=Az fw (JK ((⟨c1,((c2:Nat):Int),[],[],[],((d1:Nat):Int),0,d2,[],[],zid,zid,false,0⟩,⟨(Value.slice none 0 0),(Value.slice none 0 0),(Value.slice none 0 0),(Value.slice none 0 0)⟩):Ah) d3);clear fw
  have vz:=bl j
  refine oZ (tN (l5 _ _ (sk fun v0 l7=>(wt (oS rfl (Yk.cell1 EE rfl q (Ab l (show _=some (PQ r 0:Value)from rfl)) (oP rfl (Yp.callA1 Gz (vr (PQ r 0) rfl) ?_))))))))
  refine Ar (Et _ r v b i3 hb (hr.keep f) hapr hle_i3 hl) ?_ ?_
  rotate_left
  ·
   rintro ch v1 ⟨hPx,rfl,hgx⟩
   refine Aq (Aq (postP_panic ?_))
   exact .inr ⟨_,rfl,by rw[hD];simp only[hPb1,hPb2,hPb3,hPx,Option.bind_some,Option.bind_none],rfl,(Ae f hgx lr)⟩
  rintro v_ v2 ⟨d4,i4,hPb4,rfl,fx,dj⟩
  have f:=Ae f dj (Nat.le_trans (Nat.le_refl _) lr)
  have l:=kb dj l (by omega)
  have n:=kb dj n (by omega)
  clear hb
  have j:=kb dj j (by omega)
  have hb:=fx;clear fx
  have hle_i4:=E5 hPb4
  have v3:=bl hb
  refine oS rfl (Yk.fieldAt KF s (oS rfl (Yk.storeMid (a:=D6 ((⟨c1,((c2:Nat):Int),[],[],[],((d1:Nat):Int),0,d2,[],d3,zid,zid,false,0⟩,⟨(Value.slice none 0 0),(Value.slice none 0 0),(Value.slice none 0 0),(Value.slice none 0 0)⟩):Ah)) (m:=Lib.byteCells zid.1) (z:=ER ((⟨c1,((c2:Nat):Int),[],[],[],((d1:Nat):Int),0,d2,[],d3,zid,zid,false,0⟩,⟨(Value.slice none 0 0),(Value.slice none 0 0),(Value.slice none 0 0),(Value.slice none 0 0)⟩):Ah)) (cells:=Lib.byteCells d4.1) (vr (PQ y 41) rfl) (vr (AB d4.1) rfl) (Dz ((⟨c1,((c2:Nat):Int),[],[],[],((d1:Nat):Int),0,d2,[],d3,zid,zid,false,0⟩,⟨(Value.slice none 0 0),(Value.slice none 0 0),(Value.slice none 0 0),(Value.slice none 0 0)⟩):Ah)▸j) (DP ((⟨c1,((c2:Nat):Int),[],[],[],((d1:Nat):Int),0,d2,[],d3,zid,zid,false,0⟩,⟨(Value.slice none 0 0),(Value.slice none 0 0),(Value.slice none 0 0),(Value.slice none 0 0)⟩):Ah)) (by rw[Lib.byteCells_length,Lib.byteCells_length,zid.2,d4.2]) (by rw[Lib.byteCells_length,d4.2];exact Mh) (Av _) fun l8 fy dk v4=> ?_)))
  have f:=Ae f dk (Nat.le_trans (Nat.le_refl _) (by omega))
  have l:=kb dk l (by omega)
  have n:=kb dk n (by omega)
  clear j
  have hb:=kb dk hb (by omega)
  have j:l8.heap[y]? =some (.cells (msgC ((⟨c1,((c2:Nat):Int),[],[],[],((d1:Nat):Int),0,d2,[],d3,d4,zid,false,0⟩,⟨(Value.slice none 0 0),(Value.slice none 0 0),(Value.slice none 0 0),(Value.slice none 0 0)⟩):Ah)).toArray 29 (0,0)):=Az fy (Io ((⟨c1,((c2:Nat):Int),[],[],[],((d1:Nat):Int),0,d2,[],d3,zid,zid,false,0⟩,⟨(Value.slice none 0 0),(Value.slice none 0 0),(Value.slice none 0 0),(Value.slice none 0 0)⟩):Ah) d4);clear fy
  have v5:=bl j
  refine Bp [(0,PQ r 0),(1,PQ n2 0),(2,PQ y 0),(3,PQ t 0),(4, .bool (true)),(22, .bool (false)),(27, .bool (false)),(35, .bool (true)),(40, .bool (false)),(45, .bool (true)),(50, .bool (false)),(56, .bool (true))] ⟨T0,q,s,o,a4,rfl,rfl,rfl,rfl,rfl,rfl,rfl,trivial⟩ fun v6 ⟨T0,q,s,o,T4,ad,ae,af,ag,ah,ai,aj,_⟩=>(tN (l7 _ _ (sk fun v7 l9=>(wt (oS rfl (Yk.cell1 EE rfl q (Ab l (show _=some (PQ r 0:Value)from rfl)) (oP rfl (Yp.callA1 Gz (vr (PQ r 0) rfl) ?_))))))))
  refine Ar (Et _ r v b i4 hb (hr.keep f) hapr hle_i4 hl) ?_ ?_
  rotate_left
  ·
   rintro ch v8 ⟨hPx,rfl,hgx⟩
   refine Aq (Aq (postP_panic ?_))
   exact .inr ⟨_,rfl,by rw[hD];simp only[hPb1,hPb2,hPb3,hPb4,hPx,Option.bind_some,Option.bind_none],rfl,(Ae f hgx lr)⟩
  rintro v_ v9 ⟨d5,i5,hPb5,rfl,fz,dl⟩
  have f:=Ae f dl (Nat.le_trans (Nat.le_refl _) lr)
  have l:=kb dl l (by omega)
  have n:=kb dl n (by omega)
  clear hb
  have j:=kb dl j (by omega)
  have hb:=fz;clear fz
  have hle_i5:=E5 hPb5
  have wa:=bl hb
  refine oS rfl (Yk.fieldAt G8 s (oS rfl (Yk.storeMid (a:=D7 ((⟨c1,((c2:Nat):Int),[],[],[],((d1:Nat):Int),0,d2,[],d3,d4,zid,false,0⟩,⟨(Value.slice none 0 0),(Value.slice none 0 0),(Value.slice none 0 0),(Value.slice none 0 0)⟩):Ah)) (m:=Lib.byteCells zid.1) (z:=ES ((⟨c1,((c2:Nat):Int),[],[],[],((d1:Nat):Int),0,d2,[],d3,d4,zid,false,0⟩,⟨(Value.slice none 0 0),(Value.slice none 0 0),(Value.slice none 0 0),(Value.slice none 0 0)⟩):Ah)) (cells:=Lib.byteCells d5.1) (vr (PQ y 73) rfl) (vr (AB d5.1) rfl) (C1 ((⟨c1,((c2:Nat):Int),[],[],[],((d1:Nat):Int),0,d2,[],d3,d4,zid,false,0⟩,⟨(Value.slice none 0 0),(Value.slice none 0 0),(Value.slice none 0 0),(Value.slice none 0 0)⟩):Ah)▸j) (Dd ((⟨c1,((c2:Nat):Int),[],[],[],((d1:Nat):Int),0,d2,[],d3,d4,zid,false,0⟩,⟨(Value.slice none 0 0),(Value.slice none 0 0),(Value.slice none 0 0),(Value.slice none 0 0)⟩):Ah)) (by rw[Lib.byteCells_length,Lib.byteCells_length,zid.2,d5.2]) (by rw[Lib.byteCells_length,d5.2];exact Mh) (Av _) fun ma f0 dm wb=> ?_)))
  have f:=Ae f dm (Nat.le_trans (Nat.le_refl _) (by omega))
  have l:=kb dm l (by omega)
  have n:=kb dm n (by omega)
  clear j
  have hb:=kb dm hb (by omega)
  have j:ma.heap[y]? =some (.cells (msgC ((⟨c1,((c2:Nat):Int),[],[],[],((d1:Nat):Int),0,d2,[],d3,d4,d5,false,0⟩,⟨(Value.slice none 0 0),(Value.slice none 0 0),(Value.slice none 0 0),(Value.slice none 0 0)⟩):Ah)).toArray 29 (0,0)):=Az f0 (Ip ((⟨c1,((c2:Nat):Int),[],[],[],((d1:Nat):Int),0,d2,[],d3,d4,zid,false,0⟩,⟨(Value.slice none 0 0),(Value.slice none 0 0),(Value.slice none 0 0),(Value.slice none 0 0)⟩):Ah) d5);clear f0
  have wc:=bl j
  refine oZ (tN (l9 _ _ (sk fun wd mb=>(wt (oS rfl (Yk.cell1 EE rfl q (Ab l (show _=some (PQ r 0:Value)from rfl)) (oP rfl (Yp.callA1 MJ (vr (PQ r 0) rfl) ?_))))))))
  refine Ar (Ho _ r v b i5 hb (hr.keep f) hapr hle_i5 hl) ?_ ?_
  rotate_left
  ·
   rintro ch we ⟨hPx,rfl,hgx⟩
   refine Aq (Aq (postP_panic ?_))
   exact .inr ⟨_,rfl,by rw[hD];simp only[hPb1,hPb2,hPb3,hPb4,hPb5,hPx,Option.bind_some,Option.bind_none],rfl,(Ae f hgx lr)⟩
  rintro v_ wf ⟨d6,i6,hPb6,rfl,f1,dn⟩
  have f:=Ae f dn (Nat.le_trans (Nat.le_refl _) lr)
  have l:=kb dn l (by omega)
  have n:=kb dn n (by omega)
  clear hb
  have j:=kb dn j (by omega)
  have hb:=f1;clear f1
  have hle_i6:=Hn hPb6
  have wg:=bl hb
  refine oA rfl (oZ (tN (mb _ _ (sk fun wh mc=>(wt (oM rfl (oS rfl (Yk.eqI (a:=((d6).toNat:Nat)) (b:=(1:Nat)) rfl rfl (CC _ _ _ _) (oP rfl (Yp.callA1 CQ (vr (.bool (decide (((d6).toNat)≤(1)))) rfl) ?_))))))))))
  refine Ar (AZ _ (decide (((d6).toNat)≤(1)))) ?_ ?_
  rotate_left
  ·
   rintro ch wi ⟨rfl,hb,hx⟩
   refine Aq (Aq (postP_panic ?_))
   have hno:=of_decide_eq_false hb
   exact .inr ⟨_,rfl,by rw[hD];simp only[hPb1,hPb2,hPb3,hPb4,hPb5,hPb6,Option.bind_some];rw[if_neg hno];rfl,rfl,f.trans hx⟩
  rintro v_ wj ⟨rfl,md,co⟩
  have f:=f.trans co
  have l:=eb co l
  have n:=eb co n
  have j:=eb co j
  have hb:=eb co hb
  have ea:=of_decide_eq_true md
  refine oZ (tN (mc _ _ (wt (oM rfl (oS rfl (Yk.eqI (a:=((d6).toNat:Nat)) (b:=(1:Nat)) rfl rfl (k_eql _ _ _ _) (oS rfl (Yk.fieldAt KG s (oS rfl (Yk.storeC (i:=105) (v:= .bool (decide (((d6).toNat:Nat)=(1)))) (vr (PQ y 105) rfl) (vr (.bool (decide (((d6).toNat:Nat)=(1)))) rfl) j (by rw[msg_len];decide) MO rfl rfl fun me f2 dp wk=> ?_))))))))))
  have f:=Ae f dp (Nat.le_trans (Nat.le_refl _) (by omega))
  have l:=kb dp l (by omega)
  have n:=kb dp n (by omega)
  clear j
  have hb:=kb dp hb (by omega)
  have j:me.heap[y]? =some (.cells (msgC ((⟨c1,((c2:Nat):Int),[],[],[],((d1:Nat):Int),0,d2,[],d3,d4,d5,(decide (((d6).toNat:Nat)=(1))),0⟩,⟨(Value.slice none 0 0),(Value.slice none 0 0),(Value.slice none 0 0),(Value.slice none 0 0)⟩):Ah)).toArray 29 (0,0)):=Az f2 (Iq ((⟨c1,((c2:Nat):Int),[],[],[],((d1:Nat):Int),0,d2,[],d3,d4,d5,false,0⟩,⟨(Value.slice none 0 0),(Value.slice none 0 0),(Value.slice none 0 0),(Value.slice none 0 0)⟩):Ah) (decide (((d6).toNat:Nat)=(1))));clear f2
  have wl:=bl j
  refine oZ (tN (l3 _ _ (sk fun wm f3=>(sk fun wn f4=>(wt (oS rfl (Yk.fieldAt LJ o (oS rfl (Yk.cell1 De rfl (vr (PQ t 7) rfl) (Ab n (show(partsC (⟨false,false,true,false,true,false,true,false⟩:Ai))[7]? =some (.bool (false):Value)from BR (⟨false,false,true,false,true,false,true,false⟩:Ai))) (oZ ?_))))))))))
  have hMl:B9 (((⟨c1,((c2:Nat):Int),[],[],[],((d1:Nat):Int),0,d2,[],d3,d4,d5,(decide (((d6).toNat:Nat)=(1))),0⟩,⟨(Value.slice none 0 0),(Value.slice none 0 0),(Value.slice none 0 0),(Value.slice none 0 0)⟩):Ah):Ah).1:=⟨by simp,fun u hu=>(by cases hu),by simp,by simp,by have:=(Er hPb3).2;simp only;omega⟩
  by_cases hj:i6=b.length
  ·refine tN (f4 _ _ (Am (vr (.bool (false)) rfl) (Ak (tN (f3 _ _ (sk fun wo mf=> ?_))))))
   refine Bh 14 _ [Is (PQ r 0),Is (PQ r 0),Is (PQ r 1),Is (NI i6),Is (PQ r 0),Is (PQ r 0),Is (PQ r 0),Is (v),Is (NI b.length),Is (.bool (true)),Is (.bool (true)),Is (.agg (msgC ((⟨c1,((c2:Nat):Int),[],[],[],((d1:Nat):Int),0,d2,[],d3,d4,d5,(decide (((d6).toNat:Nat)=(1))),0⟩,⟨(Value.slice none 0 0),(Value.slice none 0 0),(Value.slice none 0 0),(Value.slice none 0 0)⟩):Ah)).toArray),Is (.bool (rightB (((⟨c1,((c2:Nat):Int),[],[],[],((d1:Nat):Int),0,d2,[],d3,d4,d5,(decide (((d6).toNat:Nat)=(1))),0⟩,⟨(Value.slice none 0 0),(Value.slice none 0 0),(Value.slice none 0 0),(Value.slice none 0 0)⟩):Ah):Ah).1)),Is (.bool (rightB (((⟨c1,((c2:Nat):Int),[],[],[],((d1:Nat):Int),0,d2,[],d3,d4,d5,(decide (((d6).toNat:Nat)=(1))),0⟩,⟨(Value.slice none 0 0),(Value.slice none 0 0),(Value.slice none 0 0),(Value.slice none 0 0)⟩):Ah):Ah).1))] (by kernel_rfl) [79,80,81,82,83,84,85,86,87,88,89,90,91,92,93] (by kernel_rfl) (by kernel_rfl) (by kernel_rfl) rfl rfl rfl (fun _ _=>trivial) (Db (B6 trivial)) ?mg ?hQ15027
   case mg=>
    refine⟨?_,?_,?_,?_,?_,?_,?_,?_,?_,?_,?_,?_,?_,?_,?_,trivial⟩
    ·refine Aj (Aa rfl fun σ w1 hC h=> ?_)
     have e1:=(Af (h 1 (by decide))).trans q
     exact Yk.cell1 EE rfl e1 (Ab (eb hC l) (show _=some (PQ r 0:Value)from rfl)) ⟨Ext.refl _,rfl⟩
    ·refine Aj (Aa rfl fun σ w1 hC h=> ?_)
     have am:=Af (h 79 (by decide))
     exact Yk.nilCheck am ⟨Ext.refl _,rfl⟩
    ·refine Aj (Aa rfl fun σ w1 hC h=> ?_)
     have an:=Af (h 80 (by decide))
     exact Yk.fieldAt Bi an ⟨Ext.refl _,rfl⟩
    ·refine Aj (Aa rfl fun σ w1 hC h=> ?_)
     have ao:=Af (h 81 (by decide))
     exact Yk.cell1 FI rfl ao (Ab (eb hC hb) (show(A4 (AL v b (i6)))[1]? =some (NI i6:Value)from BV (AL v b (i6)))) ⟨Ext.refl _,rfl⟩
    ·refine Aj (Aa rfl fun σ w1 hC h=> ?_)
     have e1:=(Af (h 1 (by decide))).trans q
     exact Yk.cell1 EE rfl e1 (Ab (eb hC l) (show _=some (PQ r 0:Value)from rfl)) ⟨Ext.refl _,rfl⟩
    ·refine Aj (Aa rfl fun σ w1 hC h=> ?_)
     have ap:=Af (h 83 (by decide))
     exact Yk.nilCheck ap ⟨Ext.refl _,rfl⟩
    ·refine Aj (Aa rfl fun σ w1 hC h=> ?_)
     have aq:=Af (h 84 (by decide))
     exact Yk.fieldAt Cb aq ⟨Ext.refl _,rfl⟩
    ·refine Aj (Aa rfl fun σ w1 hC h=> ?_)
     have ar:=Af (h 85 (by decide))
     exact Yk.cell1 El rfl ar (Ab (eb hC hb) (show(A4 (AL v b (i6)))[0]? =some (v:Value)from B2 (AL v b (i6)))) ⟨Ext.refl _,rfl⟩
    ·refine Aj (Aa rfl fun σ w1 hC h=> ?_)
     have au:=Af (h 86 (by decide))
     exact Yk.lenRB El (RB.of (hr.keep (f.trans hC)) au) ⟨Ext.refl _,rfl⟩
    ·refine Aj (Aa rfl fun σ w1 hC h=> ?_)
     have av:=Af (h 82 (by decide))
     have aw:=Af (h 87 (by decide))
     exact Yk.eqI (a:=(i6:Nat)) (b:=(b.length:Nat)) av aw (k_eql _ _ _ _) ⟨Ext.refl _,(congrArg Value.bool (decide_eq_true (hj)))⟩
    ·refine Aj (Aa rfl fun σ w1 hC h=> ?_)
     have ax:=Af (h 88 (by decide))
     exact Yk.move ax ⟨Ext.refl _,rfl⟩
    ·refine Aj (AD 10 true 89 rfl rfl (fun _ _ h=>h) fun σ w1 hC h=> ?_)
     have e2:=(Af (h 2 (by decide))).trans s
     exact Yk.loadAll e2 (eb hC j) (Nr).choose_spec rfl (Au (msg_len ((⟨c1,((c2:Nat):Int),[],[],[],((d1:Nat):Int),0,d2,[],d3,d4,d5,(decide (((d6).toNat:Nat)=(1))),0⟩,⟨(Value.slice none 0 0),(Value.slice none 0 0),(Value.slice none 0 0),(Value.slice none 0 0)⟩):Ah)) Mr) ⟨Ext.refl _,rfl⟩
    ·refine Aj (AD 10 true 89 rfl rfl (fun _ _ h=>h) fun σ w1 hC h=> ?_)
     have a5:=Af (h 90 (by decide))
     refine Yk.callA1 Nz a5 ((CP _ ((⟨c1,((c2:Nat):Int),[],[],[],((d1:Nat):Int),0,d2,[],d3,d4,d5,(decide (((d6).toNat:Nat)=(1))),0⟩,⟨(Value.slice none 0 0),(Value.slice none 0 0),(Value.slice none 0 0),(Value.slice none 0 0)⟩):Ah) (MsgAt.mk (RG.nil _ _ _) (RG.nil _ _ _) (RG.nil _ _ _) (RB.nil _)) hMl).mono ?_)
     rintro e w2 ⟨rfl,hx⟩
     exact⟨_,rfl,hx,rfl⟩
    ·refine Aj (Aa rfl fun σ w1 hC h=> ?_)
     have ay:=Af (h 89 (by decide))
     have a6:=Af (h 91 (by decide))
     exact Yk.pickT ay a6 ⟨Ext.refl _,rfl⟩
    ·exact trivial
   intro mh wp cp he hf
   obtain⟨-,-,-,-,-,-,-,-,-,-,-,-,-,k92,-⟩:=hf
   obtain⟨T0,q,s,o,T4,T5,ad,ae,af,ag,ah,ai,aj,az,-⟩:=he.hold [(0,_),(1,_),(2,_),(3,_),(4,_),(5,B8 (d6)),(22,_),(27,_),(35,_),(40,_),(45,_),(50,_),(56,_),(75, .bool (false))] ⟨T0,q,s,o,T4,rfl,ad,ae,af,ag,ah,ai,aj,rfl,trivial⟩ rfl
   clear he
   have f:=f.trans cp
   have l:=eb cp l
   have n:=eb cp n
   have hb:=eb cp hb
   have j:=eb cp j
   have a0:mh 92 = .bool (rightB (((⟨c1,((c2:Nat):Int),[],[],[],((d1:Nat):Int),0,d2,[],d3,d4,d5,(decide (((d6).toNat:Nat)=(1))),0⟩,⟨(Value.slice none 0 0),(Value.slice none 0 0),(Value.slice none 0 0),(Value.slice none 0 0)⟩):Ah):Ah).1):=k92
   clear k92
   refine Yp.callA1 CQ a0 ?_
   refine Ar (AZ _ (rightB (((⟨c1,((c2:Nat):Int),[],[],[],((d1:Nat):Int),0,d2,[],d3,d4,d5,(decide (((d6).toNat:Nat)=(1))),0⟩,⟨(Value.slice none 0 0),(Value.slice none 0 0),(Value.slice none 0 0),(Value.slice none 0 0)⟩):Ah):Ah).1)) ?_ ?_
   rotate_left
   ·
    rintro ch wq ⟨rfl,hb,hx⟩
    refine Aq (postP_panic ?_)
    exact .inr ⟨_,rfl,by rw[hD];simp only[hPb1,hPb2,hPb3,hPb4,hPb5,hPb6,if_pos ea,Option.bind_some];refine if_neg ?_;rintro⟨h1,h2⟩;exact Bool.noConfusion (h2.symm.trans hb),rfl,f.trans hx⟩
   rintro v_ wr ⟨rfl,mi,cq⟩
   have f:=f.trans cq
   have l:=eb cq l
   have n:=eb cq n
   have hb:=eb cq hb
   have j:=eb cq j
   intro a9 ba
   have T0:a9 0=(PQ r 0:Value):=(ba 0 (by decide)).trans T0
   have q:a9 1=(PQ n2 0:Value):=(ba 1 (by decide)).trans q
   have s:a9 2=(PQ y 0:Value):=(ba 2 (by decide)).trans s
   have o:a9 3=(PQ t 0:Value):=(ba 3 (by decide)).trans o
   have T4:a9 4=(.bool (true):Value):=(ba 4 (by decide)).trans T4
   have T5:a9 5=(B8 (d6):Value):=(ba 5 (by decide)).trans T5
   have ad:a9 22=(.bool (false):Value):=(ba 22 (by decide)).trans ad
   have ae:a9 27=(.bool (false):Value):=(ba 27 (by decide)).trans ae
   have af:a9 35=(.bool (true):Value):=(ba 35 (by decide)).trans af
   have ag:a9 40=(.bool (false):Value):=(ba 40 (by decide)).trans ag
   have ah:a9 45=(.bool (true):Value):=(ba 45 (by decide)).trans ah
   have ai:a9 50=(.bool (false):Value):=(ba 50 (by decide)).trans ai
   have aj:a9 56=(.bool (true):Value):=(ba 56 (by decide)).trans aj
   have az:a9 75=(.bool (false):Value):=(ba 75 (by decide)).trans az
   refine tN (mf _ _ (sk fun ws mj=>(wt (oS rfl (Yk.loadAll s j (Nr).choose_spec rfl (Au (msg_len ((⟨c1,((c2:Nat):Int),[],[],[],((d1:Nat):Int),0,d2,[],d3,d4,d5,(decide (((d6).toNat:Nat)=(1))),0⟩,⟨(Value.slice none 0 0),(Value.slice none 0 0),(Value.slice none 0 0),(Value.slice none 0 0)⟩):Ah)) Mr) (oS rfl (Yk.storeAll s (vr (.agg (msgC ((⟨c1,((c2:Nat):Int),[],[],[],((d1:Nat):Int),0,d2,[],d3,d4,d5,(decide (((d6).toNat:Nat)=(1))),0⟩,⟨(Value.slice none 0 0),(Value.slice none 0 0),(Value.slice none 0 0),(Value.slice none 0 0)⟩):Ah)).toArray) rfl) j (by simp only[List.size_toArray,msg_len]) (Au (msg_len _) Mr) (BK (x:=((⟨c1,((c2:Nat):Int),[],[],[],((d1:Nat):Int),0,d2,[],d3,d4,d5,(decide (((d6).toNat:Nat)=(1))),0⟩,⟨(Value.slice none 0 0),(Value.slice none 0 0),(Value.slice none 0 0),(Value.slice none 0 0)⟩):Ah)) rfl rfl rfl rfl) fun ml f5 dq wu=> ?_)))))))
   have f:=Ae f dq (Nat.le_trans (Nat.le_refl _) (by omega))
   have l:=kb dq l (by omega)
   have n:=kb dq n (by omega)
   have hb:=kb dq hb (by omega)
   clear j
   have j:ml.heap[y]? =some (.cells (msgC ((⟨c1,((c2:Nat):Int),[],[],[],((d1:Nat):Int),0,d2,[],d3,d4,d5,(decide (((d6).toNat:Nat)=(1))),0⟩,⟨(Value.slice none 0 0),(Value.slice none 0 0),(Value.slice none 0 0),(Value.slice none 0 0)⟩):Ah)).toArray 29 (0,0)):=f5;clear f5
   have wv:=bl j
   refine oZ (tN (mj _ _ (Ao (BJ (fn:=Tryd.f67) _ rfl [.agg (msgC ((⟨c1,((c2:Nat):Int),[],[],[],((d1:Nat):Int),0,d2,[],d3,d4,d5,(decide (((d6).toNat:Nat)=(1))),0⟩,⟨(Value.slice none 0 0),(Value.slice none 0 0),(Value.slice none 0 0),(Value.slice none 0 0)⟩):Ah)).toArray] (.agg (msgC ((⟨c1,((c2:Nat):Int),[],[],[],((d1:Nat):Int),0,d2,[],d3,d4,d5,(decide (((d6).toNat:Nat)=(1))),0⟩,⟨(Value.slice none 0 0),(Value.slice none 0 0),(Value.slice none 0 0),(Value.slice none 0 0)⟩):Ah)).toArray) rfl ⟨ResF.row s j (Nr).choose_spec rfl (Au (msg_len _) Mr),trivial⟩ ?_))))
   exact .inl ⟨_,rfl,((⟨c1,((c2:Nat):Int),[],[],[],((d1:Nat):Int),0,d2,[],d3,d4,d5,(decide (((d6).toNat:Nat)=(1))),0⟩,⟨(Value.slice none 0 0),(Value.slice none 0 0),(Value.slice none 0 0),(Value.slice none 0 0)⟩):Ah),by rw[hD];simp only[hPb1,hPb2,hPb3,hPb4,hPb5,hPb6,if_pos ea,Option.bind_some];refine if_pos ?_;exact⟨hj,mi⟩,rfl,(MsgAt.mk (RG.nil _ _ _) (RG.nil _ _ _) (RG.nil _ _ _) (RB.nil _)),⟨(fun k h=>by cases h),(fun k h=>by cases h),(fun k h=>by cases h),(fun k h=>by cases h)⟩,f⟩
  refine tN (f4 _ _ (Am (vr (.bool (false)) rfl) (Ak (tN (f3 _ _ (sk fun ww wx=> ?_))))))
  refine Bh 14 _ [Is (PQ r 0),Is (PQ r 0),Is (PQ r 1),Is (NI i6),Is (PQ r 0),Is (PQ r 0),Is (PQ r 0),Is (v),Is (NI b.length),Is (.bool (false)),Is (.bool (false)),Is undef,Is undef,Is (.bool (false))] (by kernel_rfl) [79,80,81,82,83,84,85,86,87,88,89,90,91,92,93] (by kernel_rfl) (by kernel_rfl) (by kernel_rfl) rfl rfl rfl (fun _ _=>trivial) (Db (B6 trivial)) ?mm ?hQ16027
  case mm=>
   refine⟨?_,?_,?_,?_,?_,?_,?_,?_,?_,?_,?_,?_,?_,?_,?_,trivial⟩
   ·refine Aj (Aa rfl fun σ w1 hC h=> ?_)
    have e1:=(Af (h 1 (by decide))).trans q
    exact Yk.cell1 EE rfl e1 (Ab (eb hC l) (show _=some (PQ r 0:Value)from rfl)) ⟨Ext.refl _,rfl⟩
   ·refine Aj (Aa rfl fun σ w1 hC h=> ?_)
    have am:=Af (h 79 (by decide))
    exact Yk.nilCheck am ⟨Ext.refl _,rfl⟩
   ·refine Aj (Aa rfl fun σ w1 hC h=> ?_)
    have an:=Af (h 80 (by decide))
    exact Yk.fieldAt Bi an ⟨Ext.refl _,rfl⟩
   ·refine Aj (Aa rfl fun σ w1 hC h=> ?_)
    have ao:=Af (h 81 (by decide))
    exact Yk.cell1 FI rfl ao (Ab (eb hC hb) (show(A4 (AL v b (i6)))[1]? =some (NI i6:Value)from BV (AL v b (i6)))) ⟨Ext.refl _,rfl⟩
   ·refine Aj (Aa rfl fun σ w1 hC h=> ?_)
    have e1:=(Af (h 1 (by decide))).trans q
    exact Yk.cell1 EE rfl e1 (Ab (eb hC l) (show _=some (PQ r 0:Value)from rfl)) ⟨Ext.refl _,rfl⟩
   ·refine Aj (Aa rfl fun σ w1 hC h=> ?_)
    have ap:=Af (h 83 (by decide))
    exact Yk.nilCheck ap ⟨Ext.refl _,rfl⟩
   ·refine Aj (Aa rfl fun σ w1 hC h=> ?_)
    have aq:=Af (h 84 (by decide))
    exact Yk.fieldAt Cb aq ⟨Ext.refl _,rfl⟩
   ·refine Aj (Aa rfl fun σ w1 hC h=> ?_)
    have ar:=Af (h 85 (by decide))
    exact Yk.cell1 El rfl ar (Ab (eb hC hb) (show(A4 (AL v b (i6)))[0]? =some (v:Value)from B2 (AL v b (i6)))) ⟨Ext.refl _,rfl⟩
   ·refine Aj (Aa rfl fun σ w1 hC h=> ?_)
    have au:=Af (h 86 (by decide))
    exact Yk.lenRB El (RB.of (hr.keep (f.trans hC)) au) ⟨Ext.refl _,rfl⟩
   ·refine Aj (Aa rfl fun σ w1 hC h=> ?_)
    have av:=Af (h 82 (by decide))
    have aw:=Af (h 87 (by decide))
    exact Yk.eqI (a:=(i6:Nat)) (b:=(b.length:Nat)) av aw (k_eql _ _ _ _) ⟨Ext.refl _,(congrArg Value.bool (decide_eq_false (hj)))⟩
   ·refine Aj (Aa rfl fun σ w1 hC h=> ?_)
    have ax:=Af (h 88 (by decide))
    exact Yk.move ax ⟨Ext.refl _,rfl⟩
   ·refine Aj (A9 10 true 89 rfl rfl (fun x _ (h:x = .bool false)=>by rw[h];intro h;cases h) fun _=>rfl)
   ·refine Aj (A9 10 true 89 rfl rfl (fun x _ (h:x = .bool false)=>by rw[h];intro h;cases h) fun _=>rfl)
   ·refine Aj (Aa rfl fun σ w1 hC h=> ?_)
    have ay:=Af (h 89 (by decide))
    exact Yk.pickF ay (vr (.bool (false)) rfl) ⟨Ext.refl _,rfl⟩
   ·exact trivial
  intro mn wy cr he hf
  obtain⟨-,-,-,-,-,-,-,-,-,-,-,-,-,k92,-⟩:=hf
  obtain⟨T0,q,s,o,T4,T5,ad,ae,af,ag,ah,ai,aj,az,-⟩:=he.hold [(0,_),(1,_),(2,_),(3,_),(4,_),(5,B8 (d6)),(22,_),(27,_),(35,_),(40,_),(45,_),(50,_),(56,_),(75, .bool (false))] ⟨T0,q,s,o,T4,rfl,ad,ae,af,ag,ah,ai,aj,rfl,trivial⟩ rfl
  clear he
  have f:=f.trans cr
  have l:=eb cr l
  have n:=eb cr n
  have hb:=eb cr hb
  have j:=eb cr j
  have a0:mn 92 = .bool (false):=k92
  clear k92
  refine Yp.callA1 CQ a0 ?_
  refine Ar (AZ _ (false)) ?_ ?_
  rotate_left
  ·
   rintro ch wz ⟨rfl,hb,hx⟩
   refine Aq (postP_panic ?_)
   exact .inr ⟨_,rfl,by rw[hD];simp only[hPb1,hPb2,hPb3,hPb4,hPb5,hPb6,if_pos ea,Option.bind_some];refine if_neg ?_;rintro⟨h1,h2⟩;exact hj h1,rfl,f.trans hx⟩
  rintro v_ w4 ⟨rfl,mo,w5⟩
  cases mo
 have hD:=DU hP1 hK hP2
 rw[MB (m:=(⟨c1,((c2:Nat):Int),[],[],[],0,0,zid,[],[],zid,zid,false,0⟩:Msg)) hk]at hD
 refine tN (bt _ _ (sk fun w6 mp=>(sk fun w7 mq=>(wt (oS rfl (Yk.fieldAt LD o (oS rfl (Yk.cell1 De rfl (vr (PQ t 0) rfl) (Ab n (show(partsC (⟨false,false,false,false,false,false,false,true⟩:Ai))[0]? =some (.bool (false):Value)from BW (⟨false,false,false,false,false,false,false,true⟩:Ai))) (oZ (tN (mq _ _ (Am (vr (.bool (false)) rfl) (Ak (tN (mp _ _ (sk fun w8 mr=>(sk fun w9 ms=>(wt (oS rfl (Yk.fieldAt LE o (oS rfl (Yk.cell1 De rfl (vr (PQ t 1) rfl) (Ab n (show(partsC (⟨false,false,false,false,false,false,false,true⟩:Ai))[1]? =some (.bool (false):Value)from BX (⟨false,false,false,false,false,false,false,true⟩:Ai))) ?_))))))))))))))))))))))
 refine oZ (tN (ms _ _ (Am (vr (.bool (false)) rfl) (Ak (tN (mr _ _ (sk fun xa mt=>(sk fun xb mu=>(wt (oS rfl (Yk.fieldAt LF o (oS rfl (Yk.cell1 De rfl (vr (PQ t 2) rfl) (Ab n (show(partsC (⟨false,false,false,false,false,false,false,true⟩:Ai))[2]? =some (.bool (false):Value)from BY (⟨false,false,false,false,false,false,false,true⟩:Ai))) (oZ (tN (mu _ _ (Am (vr (.bool (false)) rfl) (Ak (tN (mt _ _ (sk fun xc mv=> ?_)))))))))))))))))))))
 refine sk fun xd mw=>(wt (oS rfl (Yk.fieldAt LG o (oS rfl (Yk.cell1 De rfl (vr (PQ t 3) rfl) (Ab n (show(partsC (⟨false,false,false,false,false,false,false,true⟩:Ai))[3]? =some (.bool (false):Value)from BZ (⟨false,false,false,false,false,false,false,true⟩:Ai))) (oZ (tN (mw _ _ (Am (vr (.bool (false)) rfl) (Ak (tN (mv _ _ (sk fun xe mx=>(sk fun xf my=>(wt (oS rfl (Yk.fieldAt LH o (oS rfl (Yk.cell1 De rfl (vr (PQ t 4) rfl) (Ab n (show(partsC (⟨false,false,false,false,false,false,false,true⟩:Ai))[4]? =some (.bool (false):Value)from B0 (⟨false,false,false,false,false,false,false,true⟩:Ai))) (oZ (tN (my _ _ ?_))))))))))))))))))))))
 refine Am (vr (.bool (false)) rfl) (Ak (tN (mx _ _ (sk fun xg mz=>(sk fun xh m0=>(wt (oS rfl (Yk.fieldAt H5 o (oS rfl (Yk.cell1 De rfl (vr (PQ t 5) rfl) (Ab n (show(partsC (⟨false,false,false,false,false,false,false,true⟩:Ai))[5]? =some (.bool (false):Value)from BP (⟨false,false,false,false,false,false,false,true⟩:Ai))) (oZ (tN (m0 _ _ (Am (vr (.bool (false)) rfl) (Ak (tN (mz _ _ (sk fun xi m1=>(sk fun xj m2=>(wt ?_))))))))))))))))))))
 refine oS rfl (Yk.fieldAt H6 o (oS rfl (Yk.cell1 De rfl (vr (PQ t 6) rfl) (Ab n (show(partsC (⟨false,false,false,false,false,false,false,true⟩:Ai))[6]? =some (.bool (false):Value)from BQ (⟨false,false,false,false,false,false,false,true⟩:Ai))) (oZ (tN (m2 _ _ (Am (vr (.bool (false)) rfl) (Ak (tN (m1 _ _ (sk fun xk f6=>(sk fun xl m3=>(wt (oS rfl (Yk.fieldAt LJ o (oS rfl (Yk.cell1 De rfl (vr (PQ t 7) rfl) (Ab n (show(partsC (⟨false,false,false,false,false,false,false,true⟩:Ai))[7]? =some (.bool (true):Value)from BR (⟨false,false,false,false,false,false,false,true⟩:Ai))) (oZ (tN (m3 _ _ (At (vr (.bool (true)) rfl) (wt ?_))))))))))))))))))))))
 refine oS rfl (Yk.cell1 EE rfl q (Ab l (show _=some (PQ r 0:Value)from rfl)) (oP rfl (Yp.callA1 Gy (vr (PQ r 0) rfl) ?_)))
 refine Ar (Cy _ r v b j2 hb (hr.keep f) hapr hle_j2 hl) ?_ ?_
 rotate_left
 ·
  rintro ch xm ⟨hPx,rfl,hgx⟩
  refine Aq (postP_panic ?_)
  exact .inr ⟨_,rfl,by rw[hD];simp only[hPx,Option.bind_some,Option.bind_none],rfl,(Ae f hgx lr)⟩
 rintro v_ xn ⟨d1,i1,hPb1,rfl,f7,ed⟩
 have f:=Ae f ed (Nat.le_trans (Nat.le_refl _) lr)
 have l:=kb ed l (by omega)
 clear hb
 have j:=kb ed j (by omega)
 have hb:=f7;clear f7
 have hle_i1:=DA hle_j2 hPb1
 have xo:=bl hb
 refine oS rfl (Yk.fieldAt G9 s (oS rfl (Yk.storeC (i:=106) (v:=NI d1) (vr (PQ y 106) rfl) (vr (NI d1) rfl) j (by rw[msg_len];decide) LR rfl rfl fun m4 f8 ee xp=> ?_)))
 have f:=Ae f ee (Nat.le_trans (Nat.le_refl _) (by omega))
 have l:=kb ee l (by omega)
 clear j
 have hb:=kb ee hb (by omega)
 have j:m4.heap[y]? =some (.cells (msgC ((⟨c1,((c2:Nat):Int),[],[],[],0,0,zid,[],[],zid,zid,false,((d1:Nat):Int)⟩,⟨(Value.slice none 0 0),(Value.slice none 0 0),(Value.slice none 0 0),(Value.slice none 0 0)⟩):Ah)).toArray 29 (0,0)):=Az f8 (Ir ((⟨c1,((c2:Nat):Int),[],[],[],0,0,zid,[],[],zid,zid,false,0⟩,⟨(Value.slice none 0 0),(Value.slice none 0 0),(Value.slice none 0 0),(Value.slice none 0 0)⟩):Ah) ((d1:Nat):Int));clear f8
 have xq:=bl j
 refine oZ ?_
 have hMl:B9 (((⟨c1,((c2:Nat):Int),[],[],[],0,0,zid,[],[],zid,zid,false,((d1:Nat):Int)⟩,⟨(Value.slice none 0 0),(Value.slice none 0 0),(Value.slice none 0 0),(Value.slice none 0 0)⟩):Ah):Ah).1:=⟨by simp,fun u hu=>(by cases hu),by simp,by simp,by simp⟩
 by_cases hj:i1=b.length
 ·refine tN (f6 _ _ (sk fun xr m5=> ?_))
  refine Bh 14 _ [Is (PQ r 0),Is (PQ r 0),Is (PQ r 1),Is (NI i1),Is (PQ r 0),Is (PQ r 0),Is (PQ r 0),Is (v),Is (NI b.length),Is (.bool (true)),Is (.bool (true)),Is (.agg (msgC ((⟨c1,((c2:Nat):Int),[],[],[],0,0,zid,[],[],zid,zid,false,((d1:Nat):Int)⟩,⟨(Value.slice none 0 0),(Value.slice none 0 0),(Value.slice none 0 0),(Value.slice none 0 0)⟩):Ah)).toArray),Is (.bool (rightB (((⟨c1,((c2:Nat):Int),[],[],[],0,0,zid,[],[],zid,zid,false,((d1:Nat):Int)⟩,⟨(Value.slice none 0 0),(Value.slice none 0 0),(Value.slice none 0 0),(Value.slice none 0 0)⟩):Ah):Ah).1)),Is (.bool (rightB (((⟨c1,((c2:Nat):Int),[],[],[],0,0,zid,[],[],zid,zid,false,((d1:Nat):Int)⟩,⟨(Value.slice none 0 0),(Value.slice none 0 0),(Value.slice none 0 0),(Value.slice none 0 0)⟩):Ah):Ah).1))] (by kernel_rfl) [79,80,81,82,83,84,85,86,87,88,89,90,91,92,93] (by kernel_rfl) (by kernel_rfl) (by kernel_rfl) rfl rfl rfl (fun _ _=>trivial) (Db (B6 trivial)) ?m7 ?hQ17027
  case m7=>
   refine⟨?_,?_,?_,?_,?_,?_,?_,?_,?_,?_,?_,?_,?_,?_,?_,trivial⟩
   ·refine Aj (Aa rfl fun σ w1 hC h=> ?_)
    have e1:=(Af (h 1 (by decide))).trans q
    exact Yk.cell1 EE rfl e1 (Ab (eb hC l) (show _=some (PQ r 0:Value)from rfl)) ⟨Ext.refl _,rfl⟩
   ·refine Aj (Aa rfl fun σ w1 hC h=> ?_)
    have am:=Af (h 79 (by decide))
    exact Yk.nilCheck am ⟨Ext.refl _,rfl⟩
   ·refine Aj (Aa rfl fun σ w1 hC h=> ?_)
    have an:=Af (h 80 (by decide))
    exact Yk.fieldAt Bi an ⟨Ext.refl _,rfl⟩
   ·refine Aj (Aa rfl fun σ w1 hC h=> ?_)
    have ao:=Af (h 81 (by decide))
    exact Yk.cell1 FI rfl ao (Ab (eb hC hb) (show(A4 (AL v b (i1)))[1]? =some (NI i1:Value)from BV (AL v b (i1)))) ⟨Ext.refl _,rfl⟩
   ·refine Aj (Aa rfl fun σ w1 hC h=> ?_)
    have e1:=(Af (h 1 (by decide))).trans q
    exact Yk.cell1 EE rfl e1 (Ab (eb hC l) (show _=some (PQ r 0:Value)from rfl)) ⟨Ext.refl _,rfl⟩
   ·refine Aj (Aa rfl fun σ w1 hC h=> ?_)
    have ap:=Af (h 83 (by decide))
    exact Yk.nilCheck ap ⟨Ext.refl _,rfl⟩
   ·refine Aj (Aa rfl fun σ w1 hC h=> ?_)
    have aq:=Af (h 84 (by decide))
    exact Yk.fieldAt Cb aq ⟨Ext.refl _,rfl⟩
   ·refine Aj (Aa rfl fun σ w1 hC h=> ?_)
    have ar:=Af (h 85 (by decide))
    exact Yk.cell1 El rfl ar (Ab (eb hC hb) (show(A4 (AL v b (i1)))[0]? =some (v:Value)from B2 (AL v b (i1)))) ⟨Ext.refl _,rfl⟩
   ·refine Aj (Aa rfl fun σ w1 hC h=> ?_)
    have au:=Af (h 86 (by decide))
    exact Yk.lenRB El (RB.of (hr.keep (f.trans hC)) au) ⟨Ext.refl _,rfl⟩
   ·refine Aj (Aa rfl fun σ w1 hC h=> ?_)
    have av:=Af (h 82 (by decide))
    have aw:=Af (h 87 (by decide))
    exact Yk.eqI (a:=(i1:Nat)) (b:=(b.length:Nat)) av aw (k_eql _ _ _ _) ⟨Ext.refl _,(congrArg Value.bool (decide_eq_true (hj)))⟩
   ·refine Aj (Aa rfl fun σ w1 hC h=> ?_)
    have ax:=Af (h 88 (by decide))
    exact Yk.move ax ⟨Ext.refl _,rfl⟩
   ·refine Aj (AD 10 true 89 rfl rfl (fun _ _ h=>h) fun σ w1 hC h=> ?_)
    have e2:=(Af (h 2 (by decide))).trans s
    exact Yk.loadAll e2 (eb hC j) (Nr).choose_spec rfl (Au (msg_len ((⟨c1,((c2:Nat):Int),[],[],[],0,0,zid,[],[],zid,zid,false,((d1:Nat):Int)⟩,⟨(Value.slice none 0 0),(Value.slice none 0 0),(Value.slice none 0 0),(Value.slice none 0 0)⟩):Ah)) Mr) ⟨Ext.refl _,rfl⟩
   ·refine Aj (AD 10 true 89 rfl rfl (fun _ _ h=>h) fun σ w1 hC h=> ?_)
    have a5:=Af (h 90 (by decide))
    refine Yk.callA1 Nz a5 ((CP _ ((⟨c1,((c2:Nat):Int),[],[],[],0,0,zid,[],[],zid,zid,false,((d1:Nat):Int)⟩,⟨(Value.slice none 0 0),(Value.slice none 0 0),(Value.slice none 0 0),(Value.slice none 0 0)⟩):Ah) (MsgAt.mk (RG.nil _ _ _) (RG.nil _ _ _) (RG.nil _ _ _) (RB.nil _)) hMl).mono ?_)
    rintro e w2 ⟨rfl,hx⟩
    exact⟨_,rfl,hx,rfl⟩
   ·refine Aj (Aa rfl fun σ w1 hC h=> ?_)
    have ay:=Af (h 89 (by decide))
    have a6:=Af (h 91 (by decide))
    exact Yk.pickT ay a6 ⟨Ext.refl _,rfl⟩
   ·exact trivial
  intro m8 xs dr he hf
  obtain⟨-,-,-,-,-,-,-,-,-,-,-,-,-,k92,-⟩:=hf
  obtain⟨T0,q,s,o,T4,ad,ae,af,ag,ah,ai,aj,az,-⟩:=he.hold [(0,_),(1,_),(2,_),(3,_),(4,_),(22, .bool (false)),(27, .bool (false)),(35, .bool (false)),(40, .bool (false)),(45, .bool (false)),(50, .bool (false)),(56, .bool (false)),(75, .bool (true))] ⟨T0,q,s,o,a4,rfl,rfl,rfl,rfl,rfl,rfl,rfl,rfl,trivial⟩ rfl
  clear he
  have f:=f.trans dr
  have l:=eb dr l
  have hb:=eb dr hb
  have j:=eb dr j
  have a0:m8 92 = .bool (rightB (((⟨c1,((c2:Nat):Int),[],[],[],0,0,zid,[],[],zid,zid,false,((d1:Nat):Int)⟩,⟨(Value.slice none 0 0),(Value.slice none 0 0),(Value.slice none 0 0),(Value.slice none 0 0)⟩):Ah):Ah).1):=k92
  clear k92
  refine Yp.callA1 CQ a0 ?_
  refine Ar (AZ _ (rightB (((⟨c1,((c2:Nat):Int),[],[],[],0,0,zid,[],[],zid,zid,false,((d1:Nat):Int)⟩,⟨(Value.slice none 0 0),(Value.slice none 0 0),(Value.slice none 0 0),(Value.slice none 0 0)⟩):Ah):Ah).1)) ?_ ?_
  rotate_left
  ·
   rintro ch xt ⟨rfl,hb,hx⟩
   refine Aq (postP_panic ?_)
   exact .inr ⟨_,rfl,by rw[hD];simp only[hPb1,Option.bind_some];refine if_neg ?_;rintro⟨h1,h2⟩;exact Bool.noConfusion (h2.symm.trans hb),rfl,f.trans hx⟩
  rintro v_ xu ⟨rfl,m9,ds⟩
  have f:=f.trans ds
  have l:=eb ds l
  have hb:=eb ds hb
  have j:=eb ds j
  intro bp bq
  have T0:bp 0=(PQ r 0:Value):=(bq 0 (by decide)).trans T0
  have q:bp 1=(PQ n2 0:Value):=(bq 1 (by decide)).trans q
  have s:bp 2=(PQ y 0:Value):=(bq 2 (by decide)).trans s
  have o:bp 3=(PQ t 0:Value):=(bq 3 (by decide)).trans o
  have T4:bp 4=(.bool (true):Value):=(bq 4 (by decide)).trans T4
  have ad:bp 22=(.bool (false):Value):=(bq 22 (by decide)).trans ad
  have ae:bp 27=(.bool (false):Value):=(bq 27 (by decide)).trans ae
  have af:bp 35=(.bool (false):Value):=(bq 35 (by decide)).trans af
  have ag:bp 40=(.bool (false):Value):=(bq 40 (by decide)).trans ag
  have ah:bp 45=(.bool (false):Value):=(bq 45 (by decide)).trans ah
  have ai:bp 50=(.bool (false):Value):=(bq 50 (by decide)).trans ai
  have aj:bp 56=(.bool (false):Value):=(bq 56 (by decide)).trans aj
  have az:bp 75=(.bool (true):Value):=(bq 75 (by decide)).trans az
  refine tN (m5 _ _ (sk fun xv na=>(wt (oS rfl (Yk.loadAll s j (Nr).choose_spec rfl (Au (msg_len ((⟨c1,((c2:Nat):Int),[],[],[],0,0,zid,[],[],zid,zid,false,((d1:Nat):Int)⟩,⟨(Value.slice none 0 0),(Value.slice none 0 0),(Value.slice none 0 0),(Value.slice none 0 0)⟩):Ah)) Mr) (oS rfl (Yk.storeAll s (vr (.agg (msgC ((⟨c1,((c2:Nat):Int),[],[],[],0,0,zid,[],[],zid,zid,false,((d1:Nat):Int)⟩,⟨(Value.slice none 0 0),(Value.slice none 0 0),(Value.slice none 0 0),(Value.slice none 0 0)⟩):Ah)).toArray) rfl) j (by simp only[List.size_toArray,msg_len]) (Au (msg_len _) Mr) (BK (x:=((⟨c1,((c2:Nat):Int),[],[],[],0,0,zid,[],[],zid,zid,false,((d1:Nat):Int)⟩,⟨(Value.slice none 0 0),(Value.slice none 0 0),(Value.slice none 0 0),(Value.slice none 0 0)⟩):Ah)) rfl rfl rfl rfl) fun nb f9 ef xw=> ?_)))))))
  have f:=Ae f ef (Nat.le_trans (Nat.le_refl _) (by omega))
  have l:=kb ef l (by omega)
  have hb:=kb ef hb (by omega)
  clear j
  have j:nb.heap[y]? =some (.cells (msgC ((⟨c1,((c2:Nat):Int),[],[],[],0,0,zid,[],[],zid,zid,false,((d1:Nat):Int)⟩,⟨(Value.slice none 0 0),(Value.slice none 0 0),(Value.slice none 0 0),(Value.slice none 0 0)⟩):Ah)).toArray 29 (0,0)):=f9;clear f9
  have xx:=bl j
  refine oZ (tN (na _ _ (Ao (BJ (fn:=Tryd.f67) _ rfl [.agg (msgC ((⟨c1,((c2:Nat):Int),[],[],[],0,0,zid,[],[],zid,zid,false,((d1:Nat):Int)⟩,⟨(Value.slice none 0 0),(Value.slice none 0 0),(Value.slice none 0 0),(Value.slice none 0 0)⟩):Ah)).toArray] (.agg (msgC ((⟨c1,((c2:Nat):Int),[],[],[],0,0,zid,[],[],zid,zid,false,((d1:Nat):Int)⟩,⟨(Value.slice none 0 0),(Value.slice none 0 0),(Value.slice none 0 0),(Value.slice none 0 0)⟩):Ah)).toArray) rfl ⟨ResF.row s j (Nr).choose_spec rfl (Au (msg_len _) Mr),trivial⟩ ?_))))
  exact .inl ⟨_,rfl,((⟨c1,((c2:Nat):Int),[],[],[],0,0,zid,[],[],zid,zid,false,((d1:Nat):Int)⟩,⟨(Value.slice none 0 0),(Value.slice none 0 0),(Value.slice none 0 0),(Value.slice none 0 0)⟩):Ah),by rw[hD];simp only[hPb1,Option.bind_some];refine if_pos ?_;exact⟨hj,m9⟩,rfl,(MsgAt.mk (RG.nil _ _ _) (RG.nil _ _ _) (RG.nil _ _ _) (RB.nil _)),⟨(fun k h=>by cases h),(fun k h=>by cases h),(fun k h=>by cases h),(fun k h=>by cases h)⟩,f⟩
 refine tN (f6 _ _ (sk fun xy xz=> ?_))
 refine Bh 14 _ [Is (PQ r 0),Is (PQ r 0),Is (PQ r 1),Is (NI i1),Is (PQ r 0),Is (PQ r 0),Is (PQ r 0),Is (v),Is (NI b.length),Is (.bool (false)),Is (.bool (false)),Is undef,Is undef,Is (.bool (false))] (by kernel_rfl) [79,80,81,82,83,84,85,86,87,88,89,90,91,92,93] (by kernel_rfl) (by kernel_rfl) (by kernel_rfl) rfl rfl rfl (fun _ _=>trivial) (Db (B6 trivial)) ?nc ?hQ18027
 case nc=>
  refine⟨?_,?_,?_,?_,?_,?_,?_,?_,?_,?_,?_,?_,?_,?_,?_,trivial⟩
  ·refine Aj (Aa rfl fun σ w1 hC h=> ?_)
   have e1:=(Af (h 1 (by decide))).trans q
   exact Yk.cell1 EE rfl e1 (Ab (eb hC l) (show _=some (PQ r 0:Value)from rfl)) ⟨Ext.refl _,rfl⟩
  ·refine Aj (Aa rfl fun σ w1 hC h=> ?_)
   have am:=Af (h 79 (by decide))
   exact Yk.nilCheck am ⟨Ext.refl _,rfl⟩
  ·refine Aj (Aa rfl fun σ w1 hC h=> ?_)
   have an:=Af (h 80 (by decide))
   exact Yk.fieldAt Bi an ⟨Ext.refl _,rfl⟩
  ·refine Aj (Aa rfl fun σ w1 hC h=> ?_)
   have ao:=Af (h 81 (by decide))
   exact Yk.cell1 FI rfl ao (Ab (eb hC hb) (show(A4 (AL v b (i1)))[1]? =some (NI i1:Value)from BV (AL v b (i1)))) ⟨Ext.refl _,rfl⟩
  ·refine Aj (Aa rfl fun σ w1 hC h=> ?_)
   have e1:=(Af (h 1 (by decide))).trans q
   exact Yk.cell1 EE rfl e1 (Ab (eb hC l) (show _=some (PQ r 0:Value)from rfl)) ⟨Ext.refl _,rfl⟩
  ·refine Aj (Aa rfl fun σ w1 hC h=> ?_)
   have ap:=Af (h 83 (by decide))
   exact Yk.nilCheck ap ⟨Ext.refl _,rfl⟩
  ·refine Aj (Aa rfl fun σ w1 hC h=> ?_)
   have aq:=Af (h 84 (by decide))
   exact Yk.fieldAt Cb aq ⟨Ext.refl _,rfl⟩
  ·refine Aj (Aa rfl fun σ w1 hC h=> ?_)
   have ar:=Af (h 85 (by decide))
   exact Yk.cell1 El rfl ar (Ab (eb hC hb) (show(A4 (AL v b (i1)))[0]? =some (v:Value)from B2 (AL v b (i1)))) ⟨Ext.refl _,rfl⟩
  ·refine Aj (Aa rfl fun σ w1 hC h=> ?_)
   have au:=Af (h 86 (by decide))
   exact Yk.lenRB El (RB.of (hr.keep (f.trans hC)) au) ⟨Ext.refl _,rfl⟩
  ·refine Aj (Aa rfl fun σ w1 hC h=> ?_)
   have av:=Af (h 82 (by decide))
   have aw:=Af (h 87 (by decide))
   exact Yk.eqI (a:=(i1:Nat)) (b:=(b.length:Nat)) av aw (k_eql _ _ _ _) ⟨Ext.refl _,(congrArg Value.bool (decide_eq_false (hj)))⟩
  ·refine Aj (Aa rfl fun σ w1 hC h=> ?_)
   have ax:=Af (h 88 (by decide))
   exact Yk.move ax ⟨Ext.refl _,rfl⟩
  ·refine Aj (A9 10 true 89 rfl rfl (fun x _ (h:x = .bool false)=>by rw[h];intro h;cases h) fun _=>rfl)
  ·refine Aj (A9 10 true 89 rfl rfl (fun x _ (h:x = .bool false)=>by rw[h];intro h;cases h) fun _=>rfl)
  ·refine Aj (Aa rfl fun σ w1 hC h=> ?_)
   have ay:=Af (h 89 (by decide))
   exact Yk.pickF ay (vr (.bool (false)) rfl) ⟨Ext.refl _,rfl⟩
  ·exact trivial
 intro nd x0 ga he hf
 obtain⟨-,-,-,-,-,-,-,-,-,-,-,-,-,k92,-⟩:=hf
 obtain⟨T0,q,s,o,T4,ad,ae,af,ag,ah,ai,aj,az,-⟩:=he.hold [(0,_),(1,_),(2,_),(3,_),(4,_),(22, .bool (false)),(27, .bool (false)),(35, .bool (false)),(40, .bool (false)),(45, .bool (false)),(50, .bool (false)),(56, .bool (false)),(75, .bool (true))] ⟨T0,q,s,o,a4,rfl,rfl,rfl,rfl,rfl,rfl,rfl,rfl,trivial⟩ rfl
 clear he
 have f:=f.trans ga
 have hb:=eb ga hb
 have a0:nd 92 = .bool (false):=k92
 clear k92
 refine Yp.callA1 CQ a0 ?_
 refine Ar (AZ _ (false)) ?_ ?_
 rotate_left
 ·
  rintro ch x1 ⟨rfl,hb,hx⟩
  refine Aq (postP_panic ?_)
  exact .inr ⟨_,rfl,by rw[hD];simp only[hPb1,Option.bind_some];refine if_neg ?_;rintro⟨h1,h2⟩;exact hj h1,rfl,f.trans hx⟩
 rintro v_ x2 ⟨rfl,ne,x3⟩
 cases ne
open Go.RowKit
structure FitsD (n : Nat) (D : List Deferred) (ρ : As) (a : Act) : Prop where
  size:a.tmps.size=n
  defers:a.defers=D
  get:∀t,a.tmps.getD t undef=ρ t
theorem FitsD.fits{n:Nat}{D:List Deferred}{ρ:As}{a:Act}(h:FitsD n D ρ a):Fits n ρ { a with defers:= [] } :=⟨h.size,rfl,h.get⟩
theorem FitsD.ofFits{n:Nat}{ρ:As}{a:Act}(h:Fits n ρ a):FitsD n [] ρ a:=⟨h.size,h.defers,h.get⟩
theorem FitsD.toFits{n:Nat}{ρ:As}{a:Act}(h:FitsD n [] ρ a):Fits n ρ a:=⟨h.size,h.defers,h.get⟩
theorem FitsD.eval{n:Nat}{D:List Deferred}{ρ:As}{a:Act}(h:FitsD n D ρ a):a.eval=Al ρ:=by
  funext x
  cases x with
  | tmp t=>exact h.get t
  | _=>rfl
theorem FitsD.put{n:Nat}{D:List Deferred}{ρ:As}{a:Act}(h:FitsD n D ρ a)(d:Option Tmp)(hd:∀t,d=some t→t<n)(v:Value):FitsD n D (BD ρ d v) (a.put d v):=by
  have hf:=h.fits.put d hd v
  cases d with
  | none=>exact h
  | some d=>exact⟨hf.size,h.defers,hf.get⟩
def Ka(P:Program)(n:Nat)(D:List Deferred)(c:Code)(QQ:Exit→Act→World→Prop)(ρ:As)(w:World):Prop:=∀a,FitsD n D ρ a→c.wp P QQ a w
def GA(P:Program)(ops:Array Oper)(n:Nat)(D:List Deferred)(QQ:Exit→Act→World→Prop)(l:List Oper)(ρ:As)(w:World):Prop:=∀a,FitsD n D ρ a→wpList P ops QQ l a w
section
variable {P : Program} {n : Nat} {D : List Deferred} {QQ : Exit → Act → World → Prop} {ρ : As} {w : World}
theorem MP{x y:Code}(QR:Cg)(hq:∀e ρ a w,e ≠ .normal→Fits n ρ a→QR e ρ w→QQ e a w)(h:∀K:As→World→Prop,(∀ρ w,Ka P n [] y QQ ρ w→K ρ w)→Ce P n x (Ff K QR) ρ w):Ka P n [] (.seq x y) QQ ρ w:=fun a ha=>
  wp_seq (wp_mono (h (fun ρ w=>Ka P n [] y QQ ρ w) (fun _ _ h=>h) a ha.toFits) fun e a' w' ⟨ρ',hf,hQ⟩=>by
    cases e with
    | normal=>exact hQ a' (FitsD.ofFits hf)
    | exit _=>exact hq _ ρ' a' w' (by simp) hf hQ
    | goto _=>exact hq _ ρ' a' w' (by simp) hf hQ
    | ret=>exact hq _ ρ' a' w' (by simp) hf hQ
    | panic _=>exact hq _ ρ' a' w' (by simp) hf hQ
    | outgrown=>exact hq _ ρ' a' w' (by simp) hf hQ)
theorem GB{id:Nat}{l:List Oper}{y:Code}(h:GA P l.toArray n D (Exit.then (y.wp P QQ) QQ) l ρ w):Ka P n D (.seq (.region id l.toArray false) y) QQ ρ w:=fun a ha=>wp_seq (wp_region_lit (h a ha))
theorem Of(h:∀a,FitsD n D ρ a→QQ .ret a w):Ka P n D .ret QQ ρ w:=fun a ha=>wp_ret (h a ha)
theorem Kb{ops:Array Oper}{y:Code}(I:As→Prop)(hI:I ρ)(h:∀ρ',I ρ' →Ka P n D y QQ ρ' w):GA P ops n D (Exit.then (y.wp P QQ) QQ) [] ρ w:=fun a ha=>h ρ hI a ha
theorem Ic{ops:Array Oper}{rest:List Oper}{dst:Option Tmp}{op:Op}{ty:TypeId}{pos:String}{af:Array Edge}(hd:(match dst with | some d=>Nat.blt d n | none=>true)=true) 
    (h:Yp P (fun v w' =>GA P ops n D QQ rest (BD ρ dst v) w') (fun ch w' =>∀a,FitsD n D ρ a→QQ (.panic ch) a w') ((execOp (Al ρ) ⟨dst,op,ty,pos,af,none⟩).run P w)):GA P ops n D QQ (⟨dst,op,ty,pos,af,none⟩ :: rest) ρ w:=by
  intro a ha
  have hdn:∀t,dst=some t→t<n:=fun t ht=>by subst ht;exact Nat.le_of_ble_eq_true hd
  refine wpList_plain rfl fun K hK=> ?_
  unfold Oper.wp Oper.upon
  rw[ha.eval]
  have hput:=fun v=>ha.put dst hdn v
  revert h
  generalize (execOp (Al ρ) ⟨dst,op,ty,pos,af,none⟩).run P w=r
  intro h
  match r,h with
  | .ok (.value v) w',h=>exact hK _ _ (h _ (hput v))
  | .ok .skip w',h=>exact hK _ _ (h _ (hput undef))
  | .halt (.panic v) w',h=>exact h a ha
  | .ok (.enter f args) w',h=>
    refine Calls.mono h ?_
    intro e w'' hx
    match e,hx with
    | .returned v,hx=>exact hK _ _ (hx _ (hput v))
    | .panicked ch,hx=>exact hx a ha
theorem D9{ops:Array Oper}{rest:List Oper}{dst:Option Tmp}{op:Op}{ty:TypeId}{pos:String}{af:Array Edge}(hd:(match dst with | some d=>Nat.blt d n | none=>true)=true) 
    (h:Yk P (fun v w' =>GA P ops n D QQ rest (BD ρ dst v) w') ((execOp (Al ρ) ⟨dst,op,ty,pos,af,none⟩).run P w)):GA P ops n D QQ (⟨dst,op,ty,pos,af,none⟩ :: rest) ρ w:=
  Ic hd (Yp.ofK h)
theorem LS{ops:Array Oper}{rest:List Oper}{x:Operand}{ty:TypeId}{pos:String}{af:Array Edge}{fv:Fn}{first cap:Array Value}(hx:Al ρ x = .func fv first cap) 
    (hr:(execOp (Al ρ) ⟨none, .defer ⟨.value x,#[],#[]⟩,ty,pos,af,none⟩).run P w = .ok (.defer ⟨.fn fv cap,first⟩) w)
    (h:GA P ops n (⟨.fn fv cap,first⟩ :: D) QQ rest ρ w):GA P ops n D QQ (⟨none, .defer ⟨.value x,#[],#[]⟩,ty,pos,af,none⟩ :: rest) ρ w:=by
  intro a ha
  refine wpList_plain rfl fun K hK=> ?_
  unfold Oper.wp Oper.upon
  rw[ha.eval,hr]
  refine hK _ _ (h _ ⟨ha.size,?_,ha.get⟩)
  show _ :: a.defers=_
  rw[ha.defers]
theorem KN{fn:Func}{R:Ending→World→Prop}:∀e ρ a w,e ≠ .normal→Fits n ρ a→GN P fn R e ρ w→bodyPostD P fn R e a w:=fun e ρ a w he ha h=>by
  cases e with
  | normal=>exact absurd rfl he
  | ret=>
    show Leaves P fn a.tmps R a.defers .returning w
    rw[ha.defers]
    exact h a.tmps ha.get
  | panic ch=>
    show Leaves P fn a.tmps R a.defers (.panicking ch) w
    rw[ha.defers]
    exact h
  | exit _=>exact h.elim
  | goto _=>exact h.elim
  | outgrown=>exact h.elim
theorem Kc{f:FuncId}{fn:Func}{c:Code}{args:List Value}{R:Ending→World→Prop}(hf:P.funcs[f]? =some fn)(hb:fn.body=some c)(m:Nat)(hm:fn.ntmps=m)(hn:args.length≤m) 
    (h:∀ρ,Jy args ρ→Ka P m [] c (bodyPostD P fn R) ρ w):Calls P f args.toArray w R:=by
  subst hm
  refine calls_of_wp_defers hf hb ?_
  have hget:∀t,(args.toArray++Array.replicate (fn.ntmps-args.toArray.size) undef).getD t undef=args.getD t undef:=fun t=>by
    simp only[Array.getD_eq_getD_getElem?,List.getD_eq_getElem?_getD,Array.getElem?_append,List.size_toArray,List.getElem?_toArray]
    by_cases ht:t<args.length
    · rw[if_pos ht]
    · rw[if_neg ht,List.getElem?_eq_none (by omega),Array.getElem?_replicate]
      split <;> rfl
  refine h (fun t=>args.getD t undef) ⟨fun _=>rfl⟩ _ ⟨?_,rfl,hget⟩
  simp
  omega
end
open Go.RowKit
section
variable {P : Program} {n : Nat}
theorem MQ{c:Code}{QF:Cg}{Q:Exit→Act→World→Prop}{ρ:As}{a:Act}{w:World}(h:Ce P n c QF ρ w)(ha:Fits n ρ a)(hq:∀e ρ' a' w',Fits n ρ' a' →QF e ρ' w' →Q e a' w'):c.wp P Q a w:=
  wp_mono (h a ha) fun e a' w' ⟨ρ',hf,hQ⟩=>hq e ρ' a' w' hf hQ
def B7:FrameMode→Value × FrameMode
  | .panicking ({ v,recovered:=false,goexit:=false } :: older)=>(v, .panicking ({ v,recovered:=true } :: older))
  | u=>(.nilIface,u)
theorem KO(c₀:Frame)(cs:List Frame)(u:FrameMode)(hu:c₀.mode=u)(K:Value→List Frame→Prop)(h:K (B7 u).1 ({ c₀ with mode:=(B7 u).2 } :: cs)):
    match recoverD (c₀ :: cs)with
    | some (v,cs')=>K v cs'
    | none=>K .nilIface (c₀ :: cs):=by
  subst hu
  obtain⟨cf,ct,ctodo,cd,cm,ck,cr⟩:=c₀
  match cm,h with
  | .run,h=>exact h
  | .returning,h=>exact h
  | .panicking [],h=>exact h
  | .panicking ({ v,recovered:=true,goexit:=g } :: older),h=>exact h
  | .panicking ({ v,recovered:=false,goexit:=true } :: older),h=>exact h
  | .panicking ({ v,recovered:=false,goexit:=false } :: older),h=>exact h
theorem FJ{f:FuncId}{fn:Func}{c:Code}{args:List Value}{u:FrameMode}{w:World}{R:Ending→World→Prop}{id:Nat}{d0 d1:Tmp}{ty0 ty1:TypeId}{p0 p1:String}{af0 af1:Array Edge} 
    (hf:P.funcs[f]? =some fn) (hb:fn.body=some (.seq (.region id #[⟨some d0, .call ⟨.builtin .recover,#[],#[]⟩,ty0,p0,af0,none⟩,⟨some d1, .assign (.tmp d0),ty1,p1,af1,none⟩] false) c)) (m:Nat) (hm:fn.ntmps=m) (hn:args.length≤m) (h0:Nat.blt d0 m=true) (h1:Nat.blt d1 m=true)
    (h:∀b,Jy args b→Ce P m c (GN P fn R) (BD (BD b (some d0) (B7 u).1) (some d1) (B7 u).1) w):
    CallsD P f args.toArray u w fun e u' w' =>u' =(B7 u).2∧R e w' :=by
  subst hm
  refine callsD_of_wpS hf hb fun c₀ cs hu=> ?_
  have hget:∀t,(args.toArray++Array.replicate (fn.ntmps-args.toArray.size) undef).getD t undef=args.getD t undef:=fun t=>by
    simp only[Array.getD_eq_getD_getElem?,List.getD_eq_getElem?_getD,Array.getElem?_append,List.size_toArray,List.getElem?_toArray]
    by_cases ht:t<args.length
    · rw[if_pos ht]
    · rw[if_neg ht,List.getElem?_eq_none (by omega),Array.getElem?_replicate]
      split <;> rfl
  have hF:Fits fn.ntmps (fun t=>args.getD t undef) { tmps:=args.toArray++Array.replicate (fn.ntmps-args.toArray.size) undef,defers:= [] } :=⟨by simp;omega,rfl,hget⟩
  generalize ({ tmps:=args.toArray++Array.replicate (fn.ntmps-args.toArray.size) undef,defers:= [] } :Act)=a at hF ⊢
  have hd0:∀t,some d0=some t→t<fn.ntmps:=fun t ht=>by cases ht;exact Nat.le_of_ble_eq_true h0
  have hd1:∀t,some d1=some t→t<fn.ntmps:=fun t ht=>by cases ht;exact Nat.le_of_ble_eq_true h1
  have hF1:=hF.put (some d0) hd0 (B7 u).1
  have hF2:=hF1.put (some d1) hd1 (B7 u).1
  apply wpS_seq
  apply wpS_region
  have g:(execOp a.eval (⟨some d0, .call ⟨.builtin .recover,#[],#[]⟩,ty0,p0,af0,none⟩:Oper)).run P w = .ok .recover w:=by
    simp[go_sem]
  have hkey:∀(v:Value) (cs' :List Frame),v=(B7 u).1→cs' = { c₀ with mode:=(B7 u).2 } :: cs→wpOpsS P #[⟨some d0, .call ⟨.builtin .recover,#[],#[]⟩,ty0,p0,af0,none⟩,⟨some d1, .assign (.tmp d0),ty1,p1,af1,none⟩] (Exit.thenS (c.wpS P (bodyPostS P fn c₀ cs fun e u' w' =>u' =(B7 u).2∧R e w')) (bodyPostS P fn c₀ cs fun e u' w' =>u' =(B7 u).2∧R e w')) [1] (a.put (some d0) v) cs' w:=by
    rintro v cs' rfl rfl
    have hv:(a.put (some d0) (B7 u).1).eval (.tmp d0)=(B7 u).1:=by
      rw[hF1.eval]
      show(bif Nat.beq d0 d0 then _ else _)=_
      rw[Nat.beq_refl]
      rfl
    have i:(execOp (a.put (some d0) (B7 u).1).eval (⟨some d1, .assign (.tmp d0),ty1,p1,af1,none⟩:Oper)).run P w = .ok (.value (B7 u).1) w:=by
      simp[execOp,hv]
    simp only[wpOpsS,List.getElem?_toArray,List.getElem?_cons_succ,List.getElem?_cons_zero,Region.wanted,i,Oper.upon,if_true]
    refine wpS_of_wp (MQ (h _ ⟨fun _=>rfl⟩) hF2 fun e ρ' a' w' hf' hQ=> ?_)
    cases e with
    | normal=>obtain⟨v,hv,hR⟩:=hQ a'.tmps hf'.get;exact⟨hf'.defers,_,rfl,v,hv,rfl,hR⟩
    | ret=>obtain⟨v,hv,hR⟩:=hQ a'.tmps hf'.get;exact⟨hf'.defers,_,rfl,v,hv,rfl,hR⟩
    | panic ch=>exact⟨hf'.defers,_,rfl,rfl,hQ⟩
    | exit _=>exact hQ.elim
    | goto _=>exact hQ.elim
    | outgrown=>exact hQ.elim
  show wpOpsS P _ _ [0,1] a (c₀ :: cs) w
  unfold wpOpsS
  simp only[List.getElem?_toArray,List.getElem?_cons_zero,Region.wanted,if_true,g]
  exact KO c₀ cs u hu (fun v cs' =>wpOpsS P _ _ [1] (a.put (some d0) v) cs' w) (hkey _ _ rfl rfl)
end
end Go.Proofs.YtmonlobfofkbdaaDoor
