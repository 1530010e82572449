/- Part 5 of what stands behind these statements: laws and walks of the functions that are reached. Conditions: those that each theorem names. -/
import Derived.Test.YtmonlobfofkbdaaDoorT4
set_option linter.unusedVariables false
set_option linter.unusedSimpArgs false
namespace Go.Proofs.YtmonlobfofkbdaaDoor
open Go.RowKit
set_option maxRecDepth 100000
theorem wr8_pl110 : Plain Tryd.prog 110 := fun _ _ => by kernel_rfl
theorem wr8_pl109 : Plain Tryd.prog 109 := fun _ _ => by kernel_rfl
theorem wr8_pl112 : Plain Tryd.prog 112 := fun _ _ => by kernel_rfl
theorem wr8_pl115 : Plain Tryd.prog 115 := fun _ _ => by kernel_rfl
theorem wr8_pl116 : Plain Tryd.prog 116 := fun _ _ => by kernel_rfl
set_option maxHeartbeats 1600000
theorem list1_any (w : World) (r g m : Nat) (v : Value) (b : Bs) (i most : Nat) (hb : w.heap[r]? = some (.cells (rdC (rdX v b (i))).toArray 111 (0, 0))) (hr : RB w v b) (hap : b = [] ∨ OB v r) (hi : i ≤ b.length) (hl : b.length ≤ 4611686018427387904) (Inv : Nat → World → Prop) (Bad : World → Prop)
  (h0 : ∀ (n j : Nat) (w' : World), numP b i = some (n, j) → n ≤ most → w'.heap[r]? = some (.cells (rdC (rdX v b (j))).toArray 111 (0, 0)) → w.grownBy w' (some r) → Inv 0 w')
  (hstep : ∀ (n j k : Nat) (u : World), numP b i = some (n, j) → k < n → Inv k u → Calls Tryd.prog 112 #[PQ g 0, PQ m 0] u fun e u' => (∃ x, e = .returned x ∧ x = .tuple #[] ∧ Inv (k + 1) u') ∨ ∃ ch, e = .panicked ch ∧ ch = [stopW] ∧ Bad u')
  (hbad : ∀ w' : World, (numP b i = none ∨ ∃ n j, numP b i = some (n, j) ∧ ¬ n ≤ most) → w.grownBy w' (some r) → Bad w') :
  Calls Tryd.prog 111 #[PQ r 0, NI most, .func (.func 112) #[] #[PQ g 0, PQ m 0]] w fun e w' => (∃ x, e = .returned x ∧ x = .tuple #[] ∧ ∃ n j, numP b i = some (n, j) ∧ n ≤ most ∧ Inv n w') ∨ ∃ ch, e = .panicked ch ∧ ch = [stopW] ∧ Bad w' := by
 have hlr := (bl hb)
 have hgr := World.grownBy.refl w (some r)
 refine calls_of_wpP (args := [PQ r 0, NI most, .func (.func 112) #[] #[PQ g 0, PQ m 0]]) Tryd.func111 rfl 19 rfl (Nat.le_of_ble_eq_true rfl) ?_
 intro ρ0 hb
 have T0 : ρ0 0 = (PQ r 0 : Value) := hb.get 0
 have T1 : ρ0 1 = (NI most : Value) := hb.get 1
 have T2 : ρ0 2 = (.func (.func 112) #[] #[PQ g 0, PQ m 0] : Value) := hb.get 2
 clear hb
 have hE := Ext.refl w
 refine sk fun K1 hK1 => (wt (oM rfl (oP rfl (Yp.callA1 wr8_pl110 T0 ?_))))
 refine calls_either (numberW_any _ r v b i hb (hr.keep hE) hap hi hl) ?_ ?_
 rotate_left
 ·
  rintro ch w2 ⟨hP, rfl, hgn⟩
  refine thenF_panic (postP_panic ?_)
  exact .inr ⟨_, rfl, rfl, hbad _ (.inl hP) (grownBy_trans hgr hgn (fun _ e => .inl e))⟩
 rintro v_ w4 ⟨c, j, hP, rfl, hbn, hgn⟩
 clear hb
 have hgr : w.grownBy w4 (some r) := grownBy_trans hgr hgn (fun _ e => .inl e)
 clear hE
 have hb := hbn; clear hbn
 refine oA rfl (oZ (tN (hK1 _ _ (sk fun K5 hK5 => (wt (oM rfl (oM rfl (oS rfl (Yk.eqI (a := (c : Nat)) (b := (most : Nat)) rfl T1 (k_leq _ _ _ _) (oP rfl (Yp.callA1 wr8_pl109 (vr (.bool (decide ((c) ≤ (most)))) rfl) ?_)))))))))))
 refine calls_either (needW_any _ (decide ((c) ≤ (most)))) ?_ ?_
 rotate_left
 ·
  rintro ch w8 ⟨rfl, hb, hx⟩
  refine thenF_panic (postP_panic ?_)
  have hno := of_decide_eq_false hb
  exact .inr ⟨_, rfl, rfl, hbad _ (.inr ⟨c, j, hP, by omega⟩) (grownBy_trans hgr hx.grown (fun _ e => by cases e))⟩
 rintro v_ w10 ⟨rfl, hb6, hx7⟩
 have hgr : w.grownBy w10 (some r) := grownBy_trans hgr hx7.grown (fun _ e => by cases e)
 have hb := eb hx7 hb
 have hn11 := of_decide_eq_true hb6
 refine oZ ?_
 have hle := hn11
 have hcl := numP_lt hP
 refine tN (hK5 _ _ (sk fun K12 hK12 => (wt (oM rfl (oM rfl (oL_ [(0, PQ r 0), (1, NI most), (2, .func (.func 112) #[] #[PQ g 0, PQ m 0]), (6, NI c), (13, NI c), (14, NI 0)] ⟨T0, T1, T2, rfl, rfl, rfl, trivial⟩ fun ρ13 ⟨T0, T1, T2, T6, T13, T14, _⟩ => (tN (hK12 _ _ (wpF_block (wpF_loop (fun (ρ : Slots) (wz : World) => ∃ k : Nat, ρ 0 = (PQ r 0 : Value) ∧ ρ 1 = (NI most : Value) ∧ ρ 2 = (.func (.func 112) #[] #[PQ g 0, PQ m 0] : Value) ∧ ρ 6 = (NI c : Value) ∧ ρ 13 = (NI c : Value) ∧ ρ 14 = (NI k : Value) ∧ Inv k wz ∧ (k ≤ c) ∧ True) (fun ρ _ => c - (intOf (ρ 14)).toNat) ⟨0, T0, T1, T2, T6, T13, T14, h0 c j _ hP hle hb hgr, Nat.zero_le _, trivial⟩ ?_))))))))))
 clear hgr
 clear hb
 rintro ρ14 w15 ⟨k, T0, T1, T2, T6, T13, T14, hI, hk, -⟩
 have q14 := T14
 by_cases hlt : k < c
 ·refine sk fun K16 hK16 => (wt (oS rfl (Yk.eqI (a := (k : Nat)) (b := (c : Nat)) T14 T13 (k_lss _ _ _ _) (oZ (tN (hK16 _ _ (sk fun K17 hK17 => (wpF_true (vr (.bool (true)) (congrArg Value.bool (decide_eq_true (hlt)))) (wpF_skip (tN (hK17 _ _ (sk fun K18 hK18 => (wpF_block (wt (oM rfl (oP rfl (Yp.clo wr8_pl112 (caps := #[PQ g 0, PQ m 0]) T2 #[PQ g 0, PQ m 0] (by simp) ?_)))))))))))))))))
  refine calls_either (hstep c j k _ hP hlt hI) ?_ ?_
  rotate_left
  ·
   rintro ch w19 ⟨rfl, hB⟩
   refine inBlockF_panic (thenF_panic (thenF_panic (inBlockF_panic (postP_panic ?_))))
   exact .inr ⟨_, rfl, rfl, hB⟩
  rintro v_ w21 ⟨rfl, hI2⟩
  have hI := hI2; clear hI2
  refine oZ (bN (tN (hK18 _ _ (wt (oS rfl (Yk.bin (xv := NI k) (yv := NI 1) T14 rfl rfl (i64_add _ _ _ (by omega)) (oM rfl (oL_ [(0, PQ r 0), (1, NI most), (2, .func (.func 112) #[] #[PQ g 0, PQ m 0]), (6, NI c), (13, NI c), (14, NI ((k) + (1))), (15, .bool (true))] ⟨T0, T1, T2, T6, T13, rfl, (congrArg Value.bool (decide_eq_true (hlt))), trivial⟩ fun ρ22 ⟨T0, T1, T2, T6, T13, T14, T15, _⟩ => (tN (And.intro ⟨k + 1, T0, T1, T2, T6, T13, T14, hI, by omega, trivial⟩ ?_))))))))))
  show c - (intOf (ρ22 14)).toNat < c - (intOf (ρ14 14)).toNat
  rw [T14, q14]
  simp only [intOf, Int.toNat_natCast]; omega
 refine sk fun K23 hK23 => (wt (oS rfl (Yk.eqI (a := (k : Nat)) (b := (c : Nat)) T14 T13 (k_lss _ _ _ _) (oZ (tN (hK23 _ _ (sk fun K24 hK24 => (wpF_false (vr (.bool (false)) (congrArg Value.bool (decide_eq_false (hlt)))) (wpF_exit (thenF_exit (thenF_exit (inBlockF_hit (postP_end (fn := Tryd.f111) [] rfl [] (.tuple #[]) rfl trivial ?_)))))))))))))
 have hkc : k = c := by omega
 subst hkc
 exact .inl ⟨_, rfl, rfl, k, j, hP, hle, hI⟩

theorem list2_any (w : World) (r g m : Nat) (v : Value) (b : Bs) (i most : Nat) (hb : w.heap[r]? = some (.cells (rdC (rdX v b (i))).toArray 111 (0, 0))) (hr : RB w v b) (hap : b = [] ∨ OB v r) (hi : i ≤ b.length) (hl : b.length ≤ 4611686018427387904) (Inv : Nat → World → Prop) (Bad : World → Prop)
  (h0 : ∀ (n j : Nat) (w' : World), numP b i = some (n, j) → n ≤ most → w'.heap[r]? = some (.cells (rdC (rdX v b (j))).toArray 111 (0, 0)) → w.grownBy w' (some r) → Inv 0 w')
  (hstep : ∀ (n j k : Nat) (u : World), numP b i = some (n, j) → k < n → Inv k u → Calls Tryd.prog 115 #[PQ m 0, PQ g 0] u fun e u' => (∃ x, e = .returned x ∧ x = .tuple #[] ∧ Inv (k + 1) u') ∨ ∃ ch, e = .panicked ch ∧ ch = [stopW] ∧ Bad u')
  (hbad : ∀ w' : World, (numP b i = none ∨ ∃ n j, numP b i = some (n, j) ∧ ¬ n ≤ most) → w.grownBy w' (some r) → Bad w') :
  Calls Tryd.prog 111 #[PQ r 0, NI most, .func (.func 115) #[] #[PQ m 0, PQ g 0]] w fun e w' => (∃ x, e = .returned x ∧ x = .tuple #[] ∧ ∃ n j, numP b i = some (n, j) ∧ n ≤ most ∧ Inv n w') ∨ ∃ ch, e = .panicked ch ∧ ch = [stopW] ∧ Bad w' := by
 have hlr := (bl hb)
 have hgr := World.grownBy.refl w (some r)
 refine calls_of_wpP (args := [PQ r 0, NI most, .func (.func 115) #[] #[PQ m 0, PQ g 0]]) Tryd.func111 rfl 19 rfl (Nat.le_of_ble_eq_true rfl) ?_
 intro ρ0 hb
 have T0 : ρ0 0 = (PQ r 0 : Value) := hb.get 0
 have T1 : ρ0 1 = (NI most : Value) := hb.get 1
 have T2 : ρ0 2 = (.func (.func 115) #[] #[PQ m 0, PQ g 0] : Value) := hb.get 2
 clear hb
 have hE := Ext.refl w
 refine sk fun K1 hK1 => (wt (oM rfl (oP rfl (Yp.callA1 wr8_pl110 T0 ?_))))
 refine calls_either (numberW_any _ r v b i hb (hr.keep hE) hap hi hl) ?_ ?_
 rotate_left
 ·
  rintro ch w2 ⟨hP, rfl, hgn⟩
  refine thenF_panic (postP_panic ?_)
  exact .inr ⟨_, rfl, rfl, hbad _ (.inl hP) (grownBy_trans hgr hgn (fun _ e => .inl e))⟩
 rintro v_ w4 ⟨c, j, hP, rfl, hbn, hgn⟩
 clear hb
 have hgr : w.grownBy w4 (some r) := grownBy_trans hgr hgn (fun _ e => .inl e)
 clear hE
 have hb := hbn; clear hbn
 refine oA rfl (oZ (tN (hK1 _ _ (sk fun K5 hK5 => (wt (oM rfl (oM rfl (oS rfl (Yk.eqI (a := (c : Nat)) (b := (most : Nat)) rfl T1 (k_leq _ _ _ _) (oP rfl (Yp.callA1 wr8_pl109 (vr (.bool (decide ((c) ≤ (most)))) rfl) ?_)))))))))))
 refine calls_either (needW_any _ (decide ((c) ≤ (most)))) ?_ ?_
 rotate_left
 ·
  rintro ch w8 ⟨rfl, hb, hx⟩
  refine thenF_panic (postP_panic ?_)
  have hno := of_decide_eq_false hb
  exact .inr ⟨_, rfl, rfl, hbad _ (.inr ⟨c, j, hP, by omega⟩) (grownBy_trans hgr hx.grown (fun _ e => by cases e))⟩
 rintro v_ w10 ⟨rfl, hb6, hx7⟩
 have hgr : w.grownBy w10 (some r) := grownBy_trans hgr hx7.grown (fun _ e => by cases e)
 have hb := eb hx7 hb
 have hn11 := of_decide_eq_true hb6
 refine oZ ?_
 have hle := hn11
 have hcl := numP_lt hP
 refine tN (hK5 _ _ (sk fun K12 hK12 => (wt (oM rfl (oM rfl (oL_ [(0, PQ r 0), (1, NI most), (2, .func (.func 115) #[] #[PQ m 0, PQ g 0]), (6, NI c), (13, NI c), (14, NI 0)] ⟨T0, T1, T2, rfl, rfl, rfl, trivial⟩ fun ρ13 ⟨T0, T1, T2, T6, T13, T14, _⟩ => (tN (hK12 _ _ (wpF_block (wpF_loop (fun (ρ : Slots) (wz : World) => ∃ k : Nat, ρ 0 = (PQ r 0 : Value) ∧ ρ 1 = (NI most : Value) ∧ ρ 2 = (.func (.func 115) #[] #[PQ m 0, PQ g 0] : Value) ∧ ρ 6 = (NI c : Value) ∧ ρ 13 = (NI c : Value) ∧ ρ 14 = (NI k : Value) ∧ Inv k wz ∧ (k ≤ c) ∧ True) (fun ρ _ => c - (intOf (ρ 14)).toNat) ⟨0, T0, T1, T2, T6, T13, T14, h0 c j _ hP hle hb hgr, Nat.zero_le _, trivial⟩ ?_))))))))))
 clear hgr
 clear hb
 rintro ρ14 w15 ⟨k, T0, T1, T2, T6, T13, T14, hI, hk, -⟩
 have q14 := T14
 by_cases hlt : k < c
 ·refine sk fun K16 hK16 => (wt (oS rfl (Yk.eqI (a := (k : Nat)) (b := (c : Nat)) T14 T13 (k_lss _ _ _ _) (oZ (tN (hK16 _ _ (sk fun K17 hK17 => (wpF_true (vr (.bool (true)) (congrArg Value.bool (decide_eq_true (hlt)))) (wpF_skip (tN (hK17 _ _ (sk fun K18 hK18 => (wpF_block (wt (oM rfl (oP rfl (Yp.clo wr8_pl115 (caps := #[PQ m 0, PQ g 0]) T2 #[PQ m 0, PQ g 0] (by simp) ?_)))))))))))))))))
  refine calls_either (hstep c j k _ hP hlt hI) ?_ ?_
  rotate_left
  ·
   rintro ch w19 ⟨rfl, hB⟩
   refine inBlockF_panic (thenF_panic (thenF_panic (inBlockF_panic (postP_panic ?_))))
   exact .inr ⟨_, rfl, rfl, hB⟩
  rintro v_ w21 ⟨rfl, hI2⟩
  have hI := hI2; clear hI2
  refine oZ (bN (tN (hK18 _ _ (wt (oS rfl (Yk.bin (xv := NI k) (yv := NI 1) T14 rfl rfl (i64_add _ _ _ (by omega)) (oM rfl (oL_ [(0, PQ r 0), (1, NI most), (2, .func (.func 115) #[] #[PQ m 0, PQ g 0]), (6, NI c), (13, NI c), (14, NI ((k) + (1))), (15, .bool (true))] ⟨T0, T1, T2, T6, T13, rfl, (congrArg Value.bool (decide_eq_true (hlt))), trivial⟩ fun ρ22 ⟨T0, T1, T2, T6, T13, T14, T15, _⟩ => (tN (And.intro ⟨k + 1, T0, T1, T2, T6, T13, T14, hI, by omega, trivial⟩ ?_))))))))))
  show c - (intOf (ρ22 14)).toNat < c - (intOf (ρ14 14)).toNat
  rw [T14, q14]
  simp only [intOf, Int.toNat_natCast]; omega
 refine sk fun K23 hK23 => (wt (oS rfl (Yk.eqI (a := (k : Nat)) (b := (c : Nat)) T14 T13 (k_lss _ _ _ _) (oZ (tN (hK23 _ _ (sk fun K24 hK24 => (wpF_false (vr (.bool (false)) (congrArg Value.bool (decide_eq_false (hlt)))) (wpF_exit (thenF_exit (thenF_exit (inBlockF_hit (postP_end (fn := Tryd.f111) [] rfl [] (.tuple #[]) rfl trivial ?_)))))))))))))
 have hkc : k = c := by omega
 subst hkc
 exact .inl ⟨_, rfl, rfl, k, j, hP, hle, hI⟩

theorem list3_any (w : World) (r g m : Nat) (v : Value) (b : Bs) (i most : Nat) (hb : w.heap[r]? = some (.cells (rdC (rdX v b (i))).toArray 111 (0, 0))) (hr : RB w v b) (hap : b = [] ∨ OB v r) (hi : i ≤ b.length) (hl : b.length ≤ 4611686018427387904) (Inv : Nat → World → Prop) (Bad : World → Prop)
  (h0 : ∀ (n j : Nat) (w' : World), numP b i = some (n, j) → n ≤ most → w'.heap[r]? = some (.cells (rdC (rdX v b (j))).toArray 111 (0, 0)) → w.grownBy w' (some r) → Inv 0 w')
  (hstep : ∀ (n j k : Nat) (u : World), numP b i = some (n, j) → k < n → Inv k u → Calls Tryd.prog 116 #[PQ m 0, PQ g 0] u fun e u' => (∃ x, e = .returned x ∧ x = .tuple #[] ∧ Inv (k + 1) u') ∨ ∃ ch, e = .panicked ch ∧ ch = [stopW] ∧ Bad u')
  (hbad : ∀ w' : World, (numP b i = none ∨ ∃ n j, numP b i = some (n, j) ∧ ¬ n ≤ most) → w.grownBy w' (some r) → Bad w') :
  Calls Tryd.prog 111 #[PQ r 0, NI most, .func (.func 116) #[] #[PQ m 0, PQ g 0]] w fun e w' => (∃ x, e = .returned x ∧ x = .tuple #[] ∧ ∃ n j, numP b i = some (n, j) ∧ n ≤ most ∧ Inv n w') ∨ ∃ ch, e = .panicked ch ∧ ch = [stopW] ∧ Bad w' := by
 have hlr := (bl hb)
 have hgr := World.grownBy.refl w (some r)
 refine calls_of_wpP (args := [PQ r 0, NI most, .func (.func 116) #[] #[PQ m 0, PQ g 0]]) Tryd.func111 rfl 19 rfl (Nat.le_of_ble_eq_true rfl) ?_
 intro ρ0 hb
 have T0 : ρ0 0 = (PQ r 0 : Value) := hb.get 0
 have T1 : ρ0 1 = (NI most : Value) := hb.get 1
 have T2 : ρ0 2 = (.func (.func 116) #[] #[PQ m 0, PQ g 0] : Value) := hb.get 2
 clear hb
 have hE := Ext.refl w
 refine sk fun K1 hK1 => (wt (oM rfl (oP rfl (Yp.callA1 wr8_pl110 T0 ?_))))
 refine calls_either (numberW_any _ r v b i hb (hr.keep hE) hap hi hl) ?_ ?_
 rotate_left
 ·
  rintro ch w2 ⟨hP, rfl, hgn⟩
  refine thenF_panic (postP_panic ?_)
  exact .inr ⟨_, rfl, rfl, hbad _ (.inl hP) (grownBy_trans hgr hgn (fun _ e => .inl e))⟩
 rintro v_ w4 ⟨c, j, hP, rfl, hbn, hgn⟩
 clear hb
 have hgr : w.grownBy w4 (some r) := grownBy_trans hgr hgn (fun _ e => .inl e)
 clear hE
 have hb := hbn; clear hbn
 refine oA rfl (oZ (tN (hK1 _ _ (sk fun K5 hK5 => (wt (oM rfl (oM rfl (oS rfl (Yk.eqI (a := (c : Nat)) (b := (most : Nat)) rfl T1 (k_leq _ _ _ _) (oP rfl (Yp.callA1 wr8_pl109 (vr (.bool (decide ((c) ≤ (most)))) rfl) ?_)))))))))))
 refine calls_either (needW_any _ (decide ((c) ≤ (most)))) ?_ ?_
 rotate_left
 ·
  rintro ch w8 ⟨rfl, hb, hx⟩
  refine thenF_panic (postP_panic ?_)
  have hno := of_decide_eq_false hb
  exact .inr ⟨_, rfl, rfl, hbad _ (.inr ⟨c, j, hP, by omega⟩) (grownBy_trans hgr hx.grown (fun _ e => by cases e))⟩
 rintro v_ w10 ⟨rfl, hb6, hx7⟩
 have hgr : w.grownBy w10 (some r) := grownBy_trans hgr hx7.grown (fun _ e => by cases e)
 have hb := eb hx7 hb
 have hn11 := of_decide_eq_true hb6
 refine oZ ?_
 have hle := hn11
 have hcl := numP_lt hP
 refine tN (hK5 _ _ (sk fun K12 hK12 => (wt (oM rfl (oM rfl (oL_ [(0, PQ r 0), (1, NI most), (2, .func (.func 116) #[] #[PQ m 0, PQ g 0]), (6, NI c), (13, NI c), (14, NI 0)] ⟨T0, T1, T2, rfl, rfl, rfl, trivial⟩ fun ρ13 ⟨T0, T1, T2, T6, T13, T14, _⟩ => (tN (hK12 _ _ (wpF_block (wpF_loop (fun (ρ : Slots) (wz : World) => ∃ k : Nat, ρ 0 = (PQ r 0 : Value) ∧ ρ 1 = (NI most : Value) ∧ ρ 2 = (.func (.func 116) #[] #[PQ m 0, PQ g 0] : Value) ∧ ρ 6 = (NI c : Value) ∧ ρ 13 = (NI c : Value) ∧ ρ 14 = (NI k : Value) ∧ Inv k wz ∧ (k ≤ c) ∧ True) (fun ρ _ => c - (intOf (ρ 14)).toNat) ⟨0, T0, T1, T2, T6, T13, T14, h0 c j _ hP hle hb hgr, Nat.zero_le _, trivial⟩ ?_))))))))))
 clear hgr
 clear hb
 rintro ρ14 w15 ⟨k, T0, T1, T2, T6, T13, T14, hI, hk, -⟩
 have q14 := T14
 by_cases hlt : k < c
 ·refine sk fun K16 hK16 => (wt (oS rfl (Yk.eqI (a := (k : Nat)) (b := (c : Nat)) T14 T13 (k_lss _ _ _ _) (oZ (tN (hK16 _ _ (sk fun K17 hK17 => (wpF_true (vr (.bool (true)) (congrArg Value.bool (decide_eq_true (hlt)))) (wpF_skip (tN (hK17 _ _ (sk fun K18 hK18 => (wpF_block (wt (oM rfl (oP rfl (Yp.clo wr8_pl116 (caps := #[PQ m 0, PQ g 0]) T2 #[PQ m 0, PQ g 0] (by simp) ?_)))))))))))))))))
  refine calls_either (hstep c j k _ hP hlt hI) ?_ ?_
  rotate_left
  ·
   rintro ch w19 ⟨rfl, hB⟩
   refine inBlockF_panic (thenF_panic (thenF_panic (inBlockF_panic (postP_panic ?_))))
   exact .inr ⟨_, rfl, rfl, hB⟩
  rintro v_ w21 ⟨rfl, hI2⟩
  have hI := hI2; clear hI2
  refine oZ (bN (tN (hK18 _ _ (wt (oS rfl (Yk.bin (xv := NI k) (yv := NI 1) T14 rfl rfl (i64_add _ _ _ (by omega)) (oM rfl (oL_ [(0, PQ r 0), (1, NI most), (2, .func (.func 116) #[] #[PQ m 0, PQ g 0]), (6, NI c), (13, NI c), (14, NI ((k) + (1))), (15, .bool (true))] ⟨T0, T1, T2, T6, T13, rfl, (congrArg Value.bool (decide_eq_true (hlt))), trivial⟩ fun ρ22 ⟨T0, T1, T2, T6, T13, T14, T15, _⟩ => (tN (And.intro ⟨k + 1, T0, T1, T2, T6, T13, T14, hI, by omega, trivial⟩ ?_))))))))))
  show c - (intOf (ρ22 14)).toNat < c - (intOf (ρ14 14)).toNat
  rw [T14, q14]
  simp only [intOf, Int.toNat_natCast]; omega
 refine sk fun K23 hK23 => (wt (oS rfl (Yk.eqI (a := (k : Nat)) (b := (c : Nat)) T14 T13 (k_lss _ _ _ _) (oZ (tN (hK23 _ _ (sk fun K24 hK24 => (wpF_false (vr (.bool (false)) (congrArg Value.bool (decide_eq_false (hlt)))) (wpF_exit (thenF_exit (thenF_exit (inBlockF_hit (postP_end (fn := Tryd.f111) [] rfl [] (.tuple #[]) rfl trivial ?_)))))))))))))
 have hkc : k = c := by omega
 subst hkc
 exact .inl ⟨_, rfl, rfl, k, j, hP, hle, hI⟩
open Go.RowKit
set_option maxRecDepth 100000
structure RC (w0 : World) (r m g n : Nat) (v : Value) (b : Bs) : Prop where
 hr : RB w0 v b
 lr : w0.heap.size ≤ r
 lm : w0.heap.size ≤ m
 lg : w0.heap.size ≤ g
 ln : w0.heap.size ≤ n
 hrm : r ≠ m
 hrg : r ≠ g
 hrn : r ≠ n
 hmg : m ≠ g
 hmn : m ≠ n
 hgn : g ≠ n
 hl : b.length ≤ 4611686018427387904
structure RS (w0 : World) (r m g n : Nat) (v : Value) (b : Bs) (p : Parts) (w : World) (i : Nat) (X : MsgV) : Prop where
 hb : w.heap[r]? = some (.cells (rdC (rdX v b (i))).toArray 111 (0, 0))
 hm : w.heap[m]? = some (.cells (msgC X).toArray 29 (0, 0))
 hg : w.heap[g]? = some (.cells ([PQ r 0]).toArray 109 (0, 0))
 hn : w.heap[n]? = some (.cells (partsC p).toArray 92 (0, 0))
 hE0 : Ext w0 w
 hi : i ≤ b.length
structure Ap4 (u : Value) (r m g n : Nat) : Prop where
 r : OB u r
 m : OB u m
 g : OB u g
 n : OB u n
theorem wr9_ty109 : Tryd.prog.underlying 109 = some (.pointer 111) := by kernel_rfl
theorem wr9_pl108 : Plain Tryd.prog 108 := fun _ _ => by kernel_rfl
theorem wr9_bs67_0h (z0 : Int) (w : World) : (Instr.build 67 #[(0, .int .u8 z0)]).run Tryd.prog w = .ok (.agg #[.int .u8 z0, .string ⟨#[]⟩, .int .u8 0, .int .u8 0, .int .u8 0, .int .u8 0, .int .u8 0, .int .u8 0, .int .u8 0, .int .u8 0, .int .u8 0, .int .u8 0, .int .u8 0, .int .u8 0, .int .u8 0, .int .u8 0, .int .u8 0, .int .u8 0, .int .u8 0, .int .u8 0, .int .u8 0, .int .u8 0, .int .u8 0, .int .u8 0, .int .u8 0, .int .u8 0, .int .u8 0, .int .u8 0, .int .u8 0, .int .u8 0, .int .u8 0, .int .u8 0, .int .u8 0, .int .u8 0, .int .u8 0, .int .u8 0, .int .u8 0, .int .u8 0, .int .u8 0, .int .u8 0, .int .u8 0, .int .u8 0, .int .u8 0, .int .u8 0, .int .u8 0, .int .u8 0, .int .u8 0, .int .u8 0, .int .u8 0, .int .u8 0, .int .u8 0, .int .u8 0, .int .u8 0, .int .u8 0, .int .u8 0, .int .u8 0, .int .u8 0, .int .u8 0, .int .u8 0, .int .u8 0, .int .u8 0, .int .u8 0, .int .u8 0, .int .u8 0, .int .u8 0, .int .u8 0]) w := by kernel_rfl
theorem wr9_bs67_0 (z0 : UInt8) (w : World) : (Instr.build 67 #[(0, B8 z0)]).run Tryd.prog w = .ok (.agg (B8 (z0) :: (St ([]) :: (Lib.byteCells zid.1 ++ (Lib.byteCells zid.1)))).toArray) w := by
 exact wr9_bs67_0h _ w
theorem wr9_al67 {d : Option Tmp} {ty : TypeId} {pos : String} {af : Array Edge} {gd : Option (Nat × Bool)} (σ : Operand → Value) (w : World) : (execOp σ ⟨d, .alloc 67, ty, pos, af, gd⟩).run Tryd.prog w = .ok (.value (PQ w.heap.size 0)) (w.alloc (.cells (updC (⟨0, [], zid, zid⟩ : Upd)).toArray 67)) := by kernel_rfl
theorem wr9_isz67 : (Tryd.prog.info? 67).map (·.size) = some 66 := by kernel_rfl
theorem wr9_pl113 : Plain Tryd.prog 113 := fun _ _ => by kernel_rfl
theorem wr9_fo67_1 : FieldOff Tryd.prog 67 1 1 := fun b o w => by simp [go_sem]
theorem wr9_isz9 : (Tryd.prog.info? 9).map (·.size) = some 1 := by kernel_rfl
theorem wr9_pl114 : Plain Tryd.prog 114 := fun _ _ => by kernel_rfl
theorem wr9_fo67_3 : FieldOff Tryd.prog 67 3 34 := fun b o w => by simp [go_sem]
theorem wr9_isz25 : (Tryd.prog.info? 25).map (·.size) = some 32 := by kernel_rfl
theorem wr9_fo29_2 : FieldOff Tryd.prog 29 2 2 := fun b o w => by simp [go_sem]
theorem wr9_ty22 : Tryd.prog.underlying 22 = some (.slice 67) := by kernel_rfl
theorem wr9_ty67 : ∃ fs, Tryd.prog.underlying 67 = some (.struct fs) := struct_of (by kernel_rfl)
theorem wr9_lh22 (c0 c1 c2 c3 c4 c5 c6 c7 c8 c9 c10 c11 c12 c13 c14 c15 c16 c17 c18 c19 c20 c21 c22 c23 c24 c25 c26 c27 c28 c29 c30 c31 c32 c33 c34 c35 c36 c37 c38 c39 c40 c41 c42 c43 c44 c45 c46 c47 c48 c49 c50 c51 c52 c53 c54 c55 c56 c57 c58 c59 c60 c61 c62 c63 c64 c65 : Value) (w : World) : (Instr.buildSlice 22 1 #[(0, .agg #[c0, c1, c2, c3, c4, c5, c6, c7, c8, c9, c10, c11, c12, c13, c14, c15, c16, c17, c18, c19, c20, c21, c22, c23, c24, c25, c26, c27, c28, c29, c30, c31, c32, c33, c34, c35, c36, c37, c38, c39, c40, c41, c42, c43, c44, c45, c46, c47, c48, c49, c50, c51, c52, c53, c54, c55, c56, c57, c58, c59, c60, c61, c62, c63, c64, c65])]).run Tryd.prog w = .ok (.slice (some ⟨w.heap.size, 0, none⟩) 1 1) (w.alloc (.cells #[c0, c1, c2, c3, c4, c5, c6, c7, c8, c9, c10, c11, c12, c13, c14, c15, c16, c17, c18, c19, c20, c21, c22, c23, c24, c25, c26, c27, c28, c29, c30, c31, c32, c33, c34, c35, c36, c37, c38, c39, c40, c41, c42, c43, c44, c45, c46, c47, c48, c49, c50, c51, c52, c53, c54, c55, c56, c57, c58, c59, c60, c61, c62, c63, c64, c65] 67)) := by kernel_rfl
theorem wr9_lg22 : ∀ (cs : Array Value), cs.size = 66 → ∀ w : World, (Instr.buildSlice 22 1 #[(0, .agg cs)]).run Tryd.prog w = .ok (.slice (some ⟨w.heap.size, 0, none⟩) 1 1) (w.alloc (.cells cs 67))
 | ⟨c0 :: c1 :: c2 :: c3 :: c4 :: c5 :: c6 :: c7 :: c8 :: c9 :: c10 :: c11 :: c12 :: c13 :: c14 :: c15 :: c16 :: c17 :: c18 :: c19 :: c20 :: c21 :: c22 :: c23 :: c24 :: c25 :: c26 :: c27 :: c28 :: c29 :: c30 :: c31 :: c32 :: c33 :: c34 :: c35 :: c36 :: c37 :: c38 :: c39 :: c40 :: c41 :: c42 :: c43 :: c44 :: c45 :: c46 :: c47 :: c48 :: c49 :: c50 :: c51 :: c52 :: c53 :: c54 :: c55 :: c56 :: c57 :: c58 :: c59 :: c60 :: c61 :: c62 :: c63 :: c64 :: c65 :: []⟩, _, w => wr9_lh22 c0 c1 c2 c3 c4 c5 c6 c7 c8 c9 c10 c11 c12 c13 c14 c15 c16 c17 c18 c19 c20 c21 c22 c23 c24 c25 c26 c27 c28 c29 c30 c31 c32 c33 c34 c35 c36 c37 c38 c39 c40 c41 c42 c43 c44 c45 c46 c47 c48 c49 c50 c51 c52 c53 c54 c55 c56 c57 c58 c59 c60 c61 c62 c63 c64 c65 w
theorem wr9_ig67 : ∃ z, (Tryd.prog.info? 67).map (fun i => (i.zero, i.size, i.bytes)) = some (some z, 66, 88) ∧ z.cells.size = 66 := info_ex (by kernel_rfl)
theorem wr9_isz22 : (Tryd.prog.info? 22).map (·.size) = some 1 := by kernel_rfl
theorem wr9_fo29_3 : FieldOff Tryd.prog 29 3 3 := fun b o w => by simp [go_sem]
theorem wr9_ty23 : Tryd.prog.underlying 23 = some (.slice 25) := by kernel_rfl
theorem wr9_lh23 (c0 c1 c2 c3 c4 c5 c6 c7 c8 c9 c10 c11 c12 c13 c14 c15 c16 c17 c18 c19 c20 c21 c22 c23 c24 c25 c26 c27 c28 c29 c30 c31 : Value) (w : World) : (Instr.buildSlice 23 1 #[(0, .agg #[c0, c1, c2, c3, c4, c5, c6, c7, c8, c9, c10, c11, c12, c13, c14, c15, c16, c17, c18, c19, c20, c21, c22, c23, c24, c25, c26, c27, c28, c29, c30, c31])]).run Tryd.prog w = .ok (.slice (some ⟨w.heap.size, 0, none⟩) 1 1) (w.alloc (.cells #[c0, c1, c2, c3, c4, c5, c6, c7, c8, c9, c10, c11, c12, c13, c14, c15, c16, c17, c18, c19, c20, c21, c22, c23, c24, c25, c26, c27, c28, c29, c30, c31] 25)) := by kernel_rfl
theorem wr9_lg23 : ∀ (cs : Array Value), cs.size = 32 → ∀ w : World, (Instr.buildSlice 23 1 #[(0, .agg cs)]).run Tryd.prog w = .ok (.slice (some ⟨w.heap.size, 0, none⟩) 1 1) (w.alloc (.cells cs 25))
 | ⟨[c0, c1, c2, c3, c4, c5, c6, c7, c8, c9, c10, c11, c12, c13, c14, c15, c16, c17, c18, c19, c20, c21, c22, c23, c24, c25, c26, c27, c28, c29, c30, c31]⟩, _, w => wr9_lh23 c0 c1 c2 c3 c4 c5 c6 c7 c8 c9 c10 c11 c12 c13 c14 c15 c16 c17 c18 c19 c20 c21 c22 c23 c24 c25 c26 c27 c28 c29 c30 c31 w
theorem wr9_ig25 : ∃ z, (Tryd.prog.info? 25).map (fun i => (i.zero, i.size, i.bytes)) = some (some z, 32, 32) ∧ z.cells.size = 32 := info_ex (by kernel_rfl)
theorem wr9_isz23 : (Tryd.prog.info? 23).map (·.size) = some 1 := by kernel_rfl
theorem wr9_fo29_4 : FieldOff Tryd.prog 29 4 4 := fun b o w => by simp [go_sem]
set_option maxHeartbeats 1600000
theorem clo1_any {w0 w : World} {r m g n : Nat} {v : Value} {b : Bs} {p : Parts} {i : Nat} {X : MsgV} (C : RC w0 r m g n v b) (hS : RS w0 r m g n v b p w i X) (ho : OG w0.heap.size 67 66 updC w X.2.refs X.1.refs) (hlw : X.1.refs.length ≤ 1000000) (ap : Ap4 X.2.refs r m g n) :
  Calls Tryd.prog 112 #[PQ g 0, PQ m 0] w fun e w' => (∃ x, e = .returned x ∧ x = .tuple #[] ∧ ∃ c j vw, updP b i = some (c, j) ∧ RS w0 r m g n v b p w' j (({ X.1 with refs := X.1.refs ++ [c] }, { X.2 with refs := vw }) : MsgV) ∧ OG w0.heap.size 67 66 updC w' vw (X.1.refs ++ [c]) ∧ Ap4 vw r m g n) ∨ ∃ ch, e = .panicked ch ∧ updP b i = none ∧ ch = [stopW] ∧ Ext w0 w' := by
 obtain ⟨hr, lr, lm, lg, ln, hrm, hrg, hrn, hmg, hmn, hgn, hl⟩ := C
 obtain ⟨hb, hm, hg, hn, hE0, hi⟩ := hS
 have hlr := (bl hb)
 have hlm := (bl hm)
 have hlg := (bl hg)
 have hln := (bl hn)
 have hapr : b = [] ∨ OB v r := by
   rcases b with _ | ⟨b0, b1⟩
   ·exact .inl rfl
   ·exact .inr fun e => by have := RB.lt hr (by simp) e; omega
 refine calls_of_wpP (args := [PQ g 0, PQ m 0]) Tryd.func112 rfl 18 rfl (Nat.le_of_ble_eq_true rfl) ?_
 intro ρ0 hb
 have T0 : ρ0 0 = (PQ g 0 : Value) := hb.get 0
 have T1 : ρ0 1 = (PQ m 0 : Value) := hb.get 1
 clear hb
 have hE := Ext.refl w
 refine sk fun K1 hK1 => (wt (oS rfl (Yk.cell1 wr9_ty109 rfl T0 (cellAt hg (show _ = some (PQ r 0 : Value) from rfl)) (oP rfl (Yp.callA1 wr9_pl108 (vr (PQ r 0) rfl) ?_)))))
 refine calls_either (byte_any _ r v b i hb (hr.keep hE0) hapr hi hl) ?_ ?_
 rotate_left
 ·
  rintro ch w4 ⟨hPx, rfl, hgx⟩
  refine thenF_panic (postP_panic ?_)
  exact .inr ⟨_, rfl, by simp only [updP, hPx, Option.bind_some, Option.bind_none], rfl, row_fresh hE0 hgx lr⟩
 rintro v_ w6 ⟨c1, j1, hP1, rfl, hb2, hg3⟩
 have hE0 := row_fresh hE0 hg3 (Nat.le_trans (Nat.le_refl _) lr)
 clear hb
 have hm := kb hg3 hm (by omega)
 have hg := kb hg3 hg (by omega)
 have hn := kb hg3 hn (by omega)
 have ho := OG.kept ho hg3 ap.r
 clear hE
 have hb := hb2; clear hb2
 have hle_j1 := byteP_le hP1
 have hl7 := bl hb
 refine oS rfl (Yk.build1 (vr (B8 (c1)) rfl) (fun w => wr9_bs67_0 c1 w) (oS rfl (Yk.alloc (cs := (updC (⟨0, [], zid, zid⟩ : Upd)).toArray) wr9_al67 fun n8 w9 hn10 hb11 hx12 hs13 => ?_)))
 have hA14 := Ext.refl w6
 have hea15 := hE0
 have hz16 := hE0.size
 have hlt17 := lte (bl hm) hn10
 have hlt18 := lte (bl hg) hn10
 have hlt19 := lte (bl hn) hn10
 have hlt20 := lte (bl hb) hn10
 have hap21 : OB X.2.refs n8 := own_newer ho.2 (by omega)
 have hE0 := hE0.trans hx12
 have hm := eb hx12 hm
 have hg := eb hx12 hg
 have hn := eb hx12 hn
 have ho := ho.keep hx12
 have hb := eb hx12 hb
 have hA14 := hA14.trans hx12
 have hb22 := hb11; clear hb11
 have hl23 : n8 < w9.heap.size := by omega
 refine oS rfl (Yk.storeAll (vr (PQ n8 0) rfl) (vr (.agg (updC (⟨c1, [], zid, zid⟩ : Upd)).toArray) rfl) hb22 (by simp only [List.size_toArray, upd_len]) (st_isz (upd_len _) wr9_isz67) (upd_one (x := (⟨c1, [], zid, zid⟩ : Upd))) fun w24 hb25 hg26 hs27 => ?_)
 have hE0 := row_fresh hE0 hg26 (Nat.le_trans hz16 (by omega))
 have hm := kb hg26 hm (by omega)
 have hg := kb hg26 hg (by omega)
 have hn := kb hg26 hn (by omega)
 have ho := OG.kept ho hg26 hap21
 have hb := kb hg26 hb (by omega)
 have hA14 := row_fresh hA14 hg26 (Nat.le_trans (Nat.le_refl _) (by omega))
 clear hb22
 have hb22 : w24.heap[n8]? = some (.cells (updC (⟨c1, [], zid, zid⟩ : Upd)).toArray 67 (0, 0)) := hb25; clear hb25
 have hl28 := bl hb22
 refine oZ (tN (hK1 _ _ (sk fun K29 hK29 => (wt (oS rfl (Yk.cell1 wr9_ty109 rfl T0 (cellAt hg (show _ = some (PQ r 0 : Value) from rfl)) (oP rfl (Yp.callA2 wr9_pl113 (vr (PQ r 0) rfl) (vr (NI 32) rfl) ?_))))))))
 refine calls_either (textW_any _ r v b j1 hb (hr.keep hE0) hapr hle_j1 hl 32) ?_ ?_
 rotate_left
 ·
  rintro ch w32 ⟨hPx, rfl, hgx⟩
  refine thenF_panic (postP_panic ?_)
  exact .inr ⟨_, rfl, by simp only [updP, hP1, hPx, Option.bind_some, Option.bind_none], rfl, row_fresh hE0 hgx lr⟩
 rintro v_ w34 ⟨c2, j2, hP2, rfl, hb30, hg31⟩
 have hE0 := row_fresh hE0 hg31 (Nat.le_trans (Nat.le_refl _) lr)
 have hm := kb hg31 hm (by omega)
 have hg := kb hg31 hg (by omega)
 have hn := kb hg31 hn (by omega)
 have ho := OG.kept ho hg31 ap.r
 clear hb
 clear hA14
 have hb22 := kb hg31 hb22 (by omega)
 have hb := hb30; clear hb30
 have hle_j2 :=   (txtP_le hP2).1
 have hl35 := bl hb
 refine oS rfl (Yk.fieldAt wr9_fo67_1 (vr (PQ n8 0) rfl) (oS rfl (Yk.storeC (i := 1) (v := St (c2)) (vr (PQ n8 1) rfl) (vr (St (c2)) rfl) hb22 (by rw [upd_len]; decide) wr9_isz9 rfl rfl fun w36 hb37 hg38 hs39 => ?_)))
 have hE0 := row_fresh hE0 hg38 (Nat.le_trans hz16 (by omega))
 have hm := kb hg38 hm (by omega)
 have hg := kb hg38 hg (by omega)
 have hn := kb hg38 hn (by omega)
 have ho := OG.kept ho hg38 hap21
 clear hb22
 have hb := kb hg38 hb (by omega)
 have hb22 : w36.heap[n8]? = some (.cells (updC (⟨c1, c2, zid, zid⟩ : Upd)).toArray 67 (0, 0)) := blk_eq hb37 (upd_s1 (⟨c1, [], zid, zid⟩ : Upd) c2); clear hb37
 have hl40 := bl hb22
 refine oZ (tN (hK29 _ _ (sk fun K41 hK41 => (wt (oS rfl (Yk.cell1 wr9_ty109 rfl T0 (cellAt hg (show _ = some (PQ r 0 : Value) from rfl)) (oP rfl (Yp.callA1 wr9_pl114 (vr (PQ r 0) rfl) ?_))))))))
 refine calls_either (idW_any _ r v b j2 hb (hr.keep hE0) hapr hle_j2 hl) ?_ ?_
 rotate_left
 ·
  rintro ch w44 ⟨hPx, rfl, hgx⟩
  refine thenF_panic (postP_panic ?_)
  exact .inr ⟨_, rfl, by simp only [updP, hP1, hP2, hPx, Option.bind_some, Option.bind_none], rfl, row_fresh hE0 hgx lr⟩
 rintro v_ w46 ⟨c3, j3, hP3, rfl, hb42, hg43⟩
 have hE0 := row_fresh hE0 hg43 (Nat.le_trans (Nat.le_refl _) lr)
 have hm := kb hg43 hm (by omega)
 have hg := kb hg43 hg (by omega)
 have hn := kb hg43 hn (by omega)
 have ho := OG.kept ho hg43 ap.r
 clear hb
 have hb22 := kb hg43 hb22 (by omega)
 have hb := hb42; clear hb42
 have hle_j3 := idP_le hP3
 have hl47 := bl hb
 refine oS rfl (Yk.fieldAt wr9_fo67_3 (vr (PQ n8 0) rfl) (oS rfl (Yk.storeMid (a := upd_a3 (⟨c1, c2, zid, zid⟩ : Upd)) (m := Lib.byteCells zid.1) (z := upd_z3 (⟨c1, c2, zid, zid⟩ : Upd)) (cells := Lib.byteCells c3.1) (vr (PQ n8 34) rfl) (vr (AB c3.1) rfl) (upd_m3 (⟨c1, c2, zid, zid⟩ : Upd) ▸ hb22) (upd_n3 (⟨c1, c2, zid, zid⟩ : Upd)) (by rw [Lib.byteCells_length, Lib.byteCells_length, zid.2, c3.2]) (by rw [Lib.byteCells_length, c3.2]; exact wr9_isz25) (byteCells_one _) fun w48 hb49 hg50 hs51 => ?_)))
 have hE0 := row_fresh hE0 hg50 (Nat.le_trans hz16 (by omega))
 have hm := kb hg50 hm (by omega)
 have hg := kb hg50 hg (by omega)
 have hn := kb hg50 hn (by omega)
 have ho := OG.kept ho hg50 hap21
 clear hb22
 have hb := kb hg50 hb (by omega)
 have hb22 : w48.heap[n8]? = some (.cells (updC (⟨c1, c2, zid, c3⟩ : Upd)).toArray 67 (0, 0)) := blk_eq hb49 (upd_s3 (⟨c1, c2, zid, zid⟩ : Upd) c3); clear hb49
 have hl52 := bl hb22
 refine oZ (tN (hK41 _ _ (wt (oS rfl (Yk.fieldAt wr9_fo29_2 T1 (oS rfl (Yk.cell1 wr9_ty22 rfl (vr (PQ m 2) rfl) (cellAt hm (show (msgC X)[2]? = some (X.2.refs : Value) from msg_g2 X)) (oS rfl (Yk.loadAll (vr (PQ n8 0) rfl) hb22 (wr9_ty67).choose_spec rfl (st_isz (upd_len (⟨c1, c2, zid, c3⟩ : Upd)) wr9_isz67) (oS rfl (Yk.lit1G (a := (⟨c1, c2, zid, c3⟩ : Upd)) (enc := updC) (vr (.agg (updC (⟨c1, c2, zid, c3⟩ : Upd)).toArray) rfl) (upd_len _) wr9_lg22 fun v53 w54 hr55 hx56 => ?_)))))))))))
 have hE0 := hE0.trans hx56
 have hm := eb hx56 hm
 have hg := eb hx56 hg
 have hn := eb hx56 hn
 have ho := ho.keep hx56
 have hb := eb hx56 hb
 have hb22 := eb hx56 hb22
 refine oS rfl (Yk.appendRG _ _ w0.heap.size _ 88 wr9_ty22 wr9_ig67.choose_spec.1 wr9_ig67.choose_spec.2 wr9_ty22 (X.1.refs) ([(⟨c1, c2, zid, c3⟩ : Upd)]) (OG.of ho (vr X.2.refs rfl)) (RG.of hr55 (vr v53 rfl)) (fun _ _ => upd_one) (by simp only [List.length_cons, List.length_nil]; omega) (by simp only [List.length_cons, List.length_nil]; omega) hE0.size fun v57 w58 ho59 hg60 => ?_)
 have hg60 : Grew w54 w58 X.2.refs v57 := hg60
 have hap61 : OB v57 r := apart_grew hg60 ap.r (bl hb)
 have hap62 : OB v57 m := apart_grew hg60 ap.m (bl hm)
 have hap63 : OB v57 g := apart_grew hg60 ap.g (bl hg)
 have hap64 : OB v57 n := apart_grew hg60 ap.n (bl hn)
 have hap65 : OB v57 n8 := apart_grew hg60 hap21 (bl hb22)
 have hE0 := ext_grew hE0 hg60 ho.2 (Nat.le_refl _)
 have hm := blk_grew hm hg60 ap.m
 have hg := blk_grew hg hg60 ap.g
 have hn := blk_grew hn hg60 ap.n
 clear ho
 have hb := blk_grew hb hg60 ap.r
 have hb22 := blk_grew hb22 hg60 hap21
 clear hr55
 refine oS rfl (Yk.fieldAt wr9_fo29_2 T1 (oS rfl (Yk.storeC (i := 2) (v := v57) (vr (PQ m 2) rfl) (vr v57 rfl) hm (by rw [msg_len]; decide) wr9_isz22 (RG.one (RG.ofOwn ho59)).1 (RG.one (RG.ofOwn ho59)).2 fun w66 hb67 hg68 hs69 => ?_)))
 have hE0 := row_fresh hE0 hg68 (Nat.le_trans (Nat.le_refl _) (by omega))
 clear hm
 have hg := kb hg68 hg (by omega)
 have hn := kb hg68 hn (by omega)
 have hb := kb hg68 hb (by omega)
 have hb22 := kb hg68 hb22 (by omega)
 have ho59 := OG.kept ho59 hg68 hap62
 have hm : w66.heap[m]? = some (.cells (msgC ((⟨X.1.kind, X.1.session, (X.1.refs) ++ [(⟨c1, c2, zid, c3⟩ : Upd)], X.1.wants, X.1.haves, X.1.size, X.1.at_, X.1.id, X.1.bytes, X.1.name, X.1.old, X.1.new, X.1.force, X.1.code⟩, ⟨v57, X.2.wants, X.2.haves, X.2.bytes⟩) : MsgV)).toArray 29 (0, 0)) := blk_eq hb67 (msg_s2 X v57 ((X.1.refs) ++ [(⟨c1, c2, zid, c3⟩ : Upd)])); clear hb67
 have hl70 := bl hm
 refine oZ (postP_end (fn := Tryd.f112) [] rfl [] (.tuple #[]) rfl trivial ?_)
 exact .inl ⟨_, rfl, rfl, ⟨c1, c2, zid, c3⟩, j3, v57, by simp only [updP, hP1, hP2, hP3, Option.bind_some], ⟨hb, hm, hg, hn, hE0, hle_j3⟩, ho59, ⟨hap61, hap62, hap63, hap64⟩⟩

theorem clo2_any {w0 w : World} {r m g n : Nat} {v : Value} {b : Bs} {p : Parts} {i : Nat} {X : MsgV} (C : RC w0 r m g n v b) (hS : RS w0 r m g n v b p w i X) (ho : OG w0.heap.size 25 32 Lib.byteCells w X.2.wants X.1.wants) (hlw : X.1.wants.length ≤ 1000000) (ap : Ap4 X.2.wants r m g n) :
  Calls Tryd.prog 115 #[PQ m 0, PQ g 0] w fun e w' => (∃ x, e = .returned x ∧ x = .tuple #[] ∧ ∃ c j vw, idP b i = some (c, j) ∧ RS w0 r m g n v b p w' j (({ X.1 with wants := X.1.wants ++ [c.1] }, { X.2 with wants := vw }) : MsgV) ∧ OG w0.heap.size 25 32 Lib.byteCells w' vw (X.1.wants ++ [c.1]) ∧ Ap4 vw r m g n) ∨ ∃ ch, e = .panicked ch ∧ idP b i = none ∧ ch = [stopW] ∧ Ext w0 w' := by
 obtain ⟨hr, lr, lm, lg, ln, hrm, hrg, hrn, hmg, hmn, hgn, hl⟩ := C
 obtain ⟨hb, hm, hg, hn, hE0, hi⟩ := hS
 have hlr := (bl hb)
 have hlm := (bl hm)
 have hlg := (bl hg)
 have hln := (bl hn)
 have hapr : b = [] ∨ OB v r := by
   rcases b with _ | ⟨b0, b1⟩
   ·exact .inl rfl
   ·exact .inr fun e => by have := RB.lt hr (by simp) e; omega
 refine calls_of_wpP (args := [PQ m 0, PQ g 0]) Tryd.func115 rfl 9 rfl (Nat.le_of_ble_eq_true rfl) ?_
 intro ρ0 hb
 have T0 : ρ0 0 = (PQ m 0 : Value) := hb.get 0
 have T1 : ρ0 1 = (PQ g 0 : Value) := hb.get 1
 clear hb
 have hE := Ext.refl w
 have hx1 : Ext w (World.drew w) := (Below.refl _ _).drew
 have hE0 := hE0.trans hx1
 have hb := eb hx1 hb
 have hm := eb hx1 hm
 have hg := eb hx1 hg
 have hn := eb hx1 hn
 have ho := ho.keep hx1
 have hE := hE.trans hx1
 refine wpF_floatE [(0, 2, PQ m 3), (1, 3, X.2.wants), (2, 4, PQ r 0), (6, 8, PQ m 3)] [3, 4, 5, 7] (fun wz => Ext w0 wz ∧ wz.heap[m]? = some (.cells (msgC X).toArray 29 (0, 0)) ∧ wz.heap[g]? = some (.cells ([PQ r 0]).toArray 109 (0, 0)) ∧ wz.heap[n]? = some (.cells (partsC p).toArray 92 (0, 0)) ∧ True) (fun _ _ ⟨hE0, hm, hg, hn, _⟩ k => ⟨(hE0.trans k), (eb k hm), (eb k hg), (eb k hn), trivial⟩) (by kernel_rfl) (by kernel_rfl) (by kernel_rfl) ⟨hE0, hm, hg, hn, trivial⟩ ⟨fun w2 ⟨hE0, hm, hg, hn, _⟩ => Yk.fieldAt wr9_fo29_3 T0 ⟨rfl, Ext.refl _⟩, fun w2 ⟨hE0, hm, hg, hn, _⟩ => Yk.cell1 wr9_ty23 rfl (vr (PQ m 3) rfl) (cellAt hm (show (msgC X)[3]? = some (X.2.wants : Value) from msg_g3 X)) ⟨rfl, Ext.refl _⟩, fun w2 ⟨hE0, hm, hg, hn, _⟩ => Yk.cell1 wr9_ty109 rfl T1 (cellAt hg (show _ = some (PQ r 0 : Value) from rfl)) ⟨rfl, Ext.refl _⟩, fun w2 ⟨hE0, hm, hg, hn, _⟩ => Yk.fieldAt wr9_fo29_3 T0 ⟨rfl, Ext.refl _⟩, trivial⟩ (chX_step rfl fun w3 hx4 => ?_)
 have hE0 := hE0.trans hx4
 have hb := eb hx4 hb
 have hm := eb hx4 hm
 have hg := eb hx4 hg
 have hn := eb hx4 hn
 have ho := ho.keep hx4
 have hE := hE.trans hx4
 refine chX_p (Yp.callA1 wr9_pl114 (vr (PQ r 0) rfl) ?_)
 refine calls_either (idW_any _ r v b i hb (hr.keep hE0) hapr hi hl) ?_ ?_
 rotate_left
 ·
  rintro ch w7 ⟨hPx, rfl, hgx⟩
  intro _
  refine postP_panic ?_
  exact .inr ⟨_, rfl, hPx, rfl, row_fresh hE0 hgx lr⟩
 rintro v_ w9 ⟨c, j, hP, rfl, hb5, hg6⟩
 have hE0 := row_fresh hE0 hg6 (Nat.le_trans (Nat.le_refl _) lr)
 clear hb
 have hm := kb hg6 hm (by omega)
 have hg := kb hg6 hg (by omega)
 have hn := kb hg6 hn (by omega)
 have ho := OG.kept ho hg6 ap.r
 clear hE
 have hb := hb5; clear hb5
 have hle_j := idP_le hP
 have hl10 := bl hb
 refine ⟨.inr ⟨hE0, hm, hg, hn, trivial⟩, ?_⟩
 refine chX_step rfl fun w11 hx12 => ?_
 have hE0 := hE0.trans hx12
 have hm := eb hx12 hm
 have hg := eb hx12 hg
 have hn := eb hx12 hn
 have ho := ho.keep hx12
 have hb := eb hx12 hb
 refine chX_go (Yk.lit1G (a := (c.1)) (enc := Lib.byteCells) (vr (AB c.1) rfl) (by rw [Lib.byteCells_length]; exact c.2) wr9_lg23 fun v13 w14 hr15 hx16 => ?_)
 have hE0 := hE0.trans hx16
 have hm := eb hx16 hm
 have hg := eb hx16 hg
 have hn := eb hx16 hn
 have ho := ho.keep hx16
 have hb := eb hx16 hb
 refine ⟨.inr ⟨hE0, hm, hg, hn, trivial⟩, ?_⟩
 refine chX_step rfl fun w17 hx18 => ?_
 have hE0 := hE0.trans hx18
 have hm := eb hx18 hm
 have hg := eb hx18 hg
 have hn := eb hx18 hn
 have ho := ho.keep hx18
 have hb := eb hx18 hb
 have hr15 := hr15.keep hx18
 refine chX_go (Yk.appendRG _ _ w0.heap.size _ 32 wr9_ty23 wr9_ig25.choose_spec.1 wr9_ig25.choose_spec.2 wr9_ty23 (X.1.wants) ([(c.1)]) (OG.of ho (vr X.2.wants rfl)) (RG.of hr15 (vr v13 rfl)) (fun _ _ => byteCells_one _) (by simp only [List.length_cons, List.length_nil]; omega) (by simp only [List.length_cons, List.length_nil]; omega) hE0.size fun v19 w20 ho21 hg22 => ?_)
 have hg22 : Grew w17 w20 X.2.wants v19 := hg22
 have hap23 : OB v19 r := apart_grew hg22 ap.r (bl hb)
 have hap24 : OB v19 m := apart_grew hg22 ap.m (bl hm)
 have hap25 : OB v19 g := apart_grew hg22 ap.g (bl hg)
 have hap26 : OB v19 n := apart_grew hg22 ap.n (bl hn)
 have hE0 := ext_grew hE0 hg22 ho.2 (Nat.le_refl _)
 have hm := blk_grew hm hg22 ap.m
 have hg := blk_grew hg hg22 ap.g
 have hn := blk_grew hn hg22 ap.n
 clear ho
 have hb := blk_grew hb hg22 ap.r
 clear hr15
 refine ⟨.inr ⟨hE0, hm, hg, hn, trivial⟩, ?_⟩
 refine chX_step rfl fun w27 hx28 => ?_
 have hE0 := hE0.trans hx28
 have hm := eb hx28 hm
 have hg := eb hx28 hg
 have hn := eb hx28 hn
 have hb := eb hx28 hb
 have ho21 := ho21.keep hx28
 refine chX_go (Yk.storeC (i := 3) (v := v19) (vr (PQ m 3) rfl) (vr v19 rfl) hm (by rw [msg_len]; decide) wr9_isz23 (RG.one (RG.ofOwn ho21)).1 (RG.one (RG.ofOwn ho21)).2 fun w29 hb30 hg31 hs32 => ?_)
 have hE0 := row_fresh hE0 hg31 (Nat.le_trans (Nat.le_refl _) (by omega))
 clear hm
 have hg := kb hg31 hg (by omega)
 have hn := kb hg31 hn (by omega)
 have hb := kb hg31 hb (by omega)
 have ho21 := OG.kept ho21 hg31 hap24
 have hm : w29.heap[m]? = some (.cells (msgC ((⟨X.1.kind, X.1.session, X.1.refs, (X.1.wants) ++ [(c.1)], X.1.haves, X.1.size, X.1.at_, X.1.id, X.1.bytes, X.1.name, X.1.old, X.1.new, X.1.force, X.1.code⟩, ⟨X.2.refs, v19, X.2.haves, X.2.bytes⟩) : MsgV)).toArray 29 (0, 0)) := blk_eq hb30 (msg_s3 X v19 ((X.1.wants) ++ [(c.1)])); clear hb30
 have hl33 := bl hm
 refine ⟨.inl rfl, ?_⟩
 refine chX_nil (postP_end (fn := Tryd.f115) [] rfl [] (.tuple #[]) rfl trivial ?_)
 exact .inl ⟨_, rfl, rfl, c, j, v19, hP, ⟨hb, hm, hg, hn, hE0, hle_j⟩, ho21, ⟨hap23, hap24, hap25, hap26⟩⟩

theorem clo3_any {w0 w : World} {r m g n : Nat} {v : Value} {b : Bs} {p : Parts} {i : Nat} {X : MsgV} (C : RC w0 r m g n v b) (hS : RS w0 r m g n v b p w i X) (ho : OG w0.heap.size 25 32 Lib.byteCells w X.2.haves X.1.haves) (hlw : X.1.haves.length ≤ 1000000) (ap : Ap4 X.2.haves r m g n) (hq : OG w0.heap.size 25 32 Lib.byteCells w X.2.wants X.1.wants) (qp : Ap4 X.2.wants r m g n) (aq : ApartV X.2.haves X.2.wants) (qa : ApartV X.2.wants X.2.haves) :
  Calls Tryd.prog 116 #[PQ m 0, PQ g 0] w fun e w' => (∃ x, e = .returned x ∧ x = .tuple #[] ∧ ∃ c j vw, idP b i = some (c, j) ∧ RS w0 r m g n v b p w' j (({ X.1 with haves := X.1.haves ++ [c.1] }, { X.2 with haves := vw }) : MsgV) ∧ OG w0.heap.size 25 32 Lib.byteCells w' vw (X.1.haves ++ [c.1]) ∧ Ap4 vw r m g n ∧ OG w0.heap.size 25 32 Lib.byteCells w' X.2.wants X.1.wants ∧ ApartV vw X.2.wants ∧ ApartV X.2.wants vw) ∨ ∃ ch, e = .panicked ch ∧ idP b i = none ∧ ch = [stopW] ∧ Ext w0 w' := by
 obtain ⟨hr, lr, lm, lg, ln, hrm, hrg, hrn, hmg, hmn, hgn, hl⟩ := C
 obtain ⟨hb, hm, hg, hn, hE0, hi⟩ := hS
 have hlr := (bl hb)
 have hlm := (bl hm)
 have hlg := (bl hg)
 have hln := (bl hn)
 have hapr : b = [] ∨ OB v r := by
   rcases b with _ | ⟨b0, b1⟩
   ·exact .inl rfl
   ·exact .inr fun e => by have := RB.lt hr (by simp) e; omega
 refine calls_of_wpP (args := [PQ m 0, PQ g 0]) Tryd.func116 rfl 9 rfl (Nat.le_of_ble_eq_true rfl) ?_
 intro ρ0 hb
 have T0 : ρ0 0 = (PQ m 0 : Value) := hb.get 0
 have T1 : ρ0 1 = (PQ g 0 : Value) := hb.get 1
 clear hb
 have hE := Ext.refl w
 have hx1 : Ext w (World.drew w) := (Below.refl _ _).drew
 have hE0 := hE0.trans hx1
 have hb := eb hx1 hb
 have hm := eb hx1 hm
 have hg := eb hx1 hg
 have hn := eb hx1 hn
 have ho := ho.keep hx1
 have hq := hq.keep hx1
 have hE := hE.trans hx1
 refine wpF_floatE [(0, 2, PQ m 4), (1, 3, X.2.haves), (2, 4, PQ r 0), (6, 8, PQ m 4)] [3, 4, 5, 7] (fun wz => Ext w0 wz ∧ wz.heap[m]? = some (.cells (msgC X).toArray 29 (0, 0)) ∧ wz.heap[g]? = some (.cells ([PQ r 0]).toArray 109 (0, 0)) ∧ wz.heap[n]? = some (.cells (partsC p).toArray 92 (0, 0)) ∧ True) (fun _ _ ⟨hE0, hm, hg, hn, _⟩ k => ⟨(hE0.trans k), (eb k hm), (eb k hg), (eb k hn), trivial⟩) (by kernel_rfl) (by kernel_rfl) (by kernel_rfl) ⟨hE0, hm, hg, hn, trivial⟩ ⟨fun w2 ⟨hE0, hm, hg, hn, _⟩ => Yk.fieldAt wr9_fo29_4 T0 ⟨rfl, Ext.refl _⟩, fun w2 ⟨hE0, hm, hg, hn, _⟩ => Yk.cell1 wr9_ty23 rfl (vr (PQ m 4) rfl) (cellAt hm (show (msgC X)[4]? = some (X.2.haves : Value) from msg_g4 X)) ⟨rfl, Ext.refl _⟩, fun w2 ⟨hE0, hm, hg, hn, _⟩ => Yk.cell1 wr9_ty109 rfl T1 (cellAt hg (show _ = some (PQ r 0 : Value) from rfl)) ⟨rfl, Ext.refl _⟩, fun w2 ⟨hE0, hm, hg, hn, _⟩ => Yk.fieldAt wr9_fo29_4 T0 ⟨rfl, Ext.refl _⟩, trivial⟩ (chX_step rfl fun w3 hx4 => ?_)
 have hE0 := hE0.trans hx4
 have hb := eb hx4 hb
 have hm := eb hx4 hm
 have hg := eb hx4 hg
 have hn := eb hx4 hn
 have ho := ho.keep hx4
 have hq := hq.keep hx4
 have hE := hE.trans hx4
 refine chX_p (Yp.callA1 wr9_pl114 (vr (PQ r 0) rfl) ?_)
 refine calls_either (idW_any _ r v b i hb (hr.keep hE0) hapr hi hl) ?_ ?_
 rotate_left
 ·
  rintro ch w7 ⟨hPx, rfl, hgx⟩
  intro _
  refine postP_panic ?_
  exact .inr ⟨_, rfl, hPx, rfl, row_fresh hE0 hgx lr⟩
 rintro v_ w9 ⟨c, j, hP, rfl, hb5, hg6⟩
 have hE0 := row_fresh hE0 hg6 (Nat.le_trans (Nat.le_refl _) lr)
 clear hb
 have hm := kb hg6 hm (by omega)
 have hg := kb hg6 hg (by omega)
 have hn := kb hg6 hn (by omega)
 have ho := OG.kept ho hg6 ap.r
 have hq := OG.kept hq hg6 qp.r
 clear hE
 have hb := hb5; clear hb5
 have hle_j := idP_le hP
 have hl10 := bl hb
 refine ⟨.inr ⟨hE0, hm, hg, hn, trivial⟩, ?_⟩
 refine chX_step rfl fun w11 hx12 => ?_
 have hE0 := hE0.trans hx12
 have hm := eb hx12 hm
 have hg := eb hx12 hg
 have hn := eb hx12 hn
 have ho := ho.keep hx12
 have hq := hq.keep hx12
 have hb := eb hx12 hb
 refine chX_go (Yk.lit1G (a := (c.1)) (enc := Lib.byteCells) (vr (AB c.1) rfl) (by rw [Lib.byteCells_length]; exact c.2) wr9_lg23 fun v13 w14 hr15 hx16 => ?_)
 have hE0 := hE0.trans hx16
 have hm := eb hx16 hm
 have hg := eb hx16 hg
 have hn := eb hx16 hn
 have ho := ho.keep hx16
 have hq := hq.keep hx16
 have hb := eb hx16 hb
 refine ⟨.inr ⟨hE0, hm, hg, hn, trivial⟩, ?_⟩
 refine chX_step rfl fun w17 hx18 => ?_
 have hE0 := hE0.trans hx18
 have hm := eb hx18 hm
 have hg := eb hx18 hg
 have hn := eb hx18 hn
 have ho := ho.keep hx18
 have hq := hq.keep hx18
 have hb := eb hx18 hb
 have hr15 := hr15.keep hx18
 refine chX_go (Yk.appendRG _ _ w0.heap.size _ 32 wr9_ty23 wr9_ig25.choose_spec.1 wr9_ig25.choose_spec.2 wr9_ty23 (X.1.haves) ([(c.1)]) (OG.of ho (vr X.2.haves rfl)) (RG.of hr15 (vr v13 rfl)) (fun _ _ => byteCells_one _) (by simp only [List.length_cons, List.length_nil]; omega) (by simp only [List.length_cons, List.length_nil]; omega) hE0.size fun v19 w20 ho21 hg22 => ?_)
 have hg22 : Grew w17 w20 X.2.haves v19 := hg22
 have hap23 : OB v19 r := apart_grew hg22 ap.r (bl hb)
 have hap24 : OB v19 m := apart_grew hg22 ap.m (bl hm)
 have hap25 : OB v19 g := apart_grew hg22 ap.g (bl hg)
 have hap26 : OB v19 n := apart_grew hg22 ap.n (bl hn)
 have hap27 : ApartV v19 X.2.wants := apartv_grew hg22 aq hq.2
 have hap28 : ApartV X.2.wants v19 := fun k h1 h2 => hap27 k h2 h1
 have hE0 := ext_grew hE0 hg22 ho.2 (Nat.le_refl _)
 have hm := blk_grew hm hg22 ap.m
 have hg := blk_grew hg hg22 ap.g
 have hn := blk_grew hn hg22 ap.n
 clear ho
 have hq := og_grew hq hg22 aq
 have hb := blk_grew hb hg22 ap.r
 clear hr15
 refine ⟨.inr ⟨hE0, hm, hg, hn, trivial⟩, ?_⟩
 refine chX_step rfl fun w29 hx30 => ?_
 have hE0 := hE0.trans hx30
 have hm := eb hx30 hm
 have hg := eb hx30 hg
 have hn := eb hx30 hn
 have hq := hq.keep hx30
 have hb := eb hx30 hb
 have ho21 := ho21.keep hx30
 refine chX_go (Yk.storeC (i := 4) (v := v19) (vr (PQ m 4) rfl) (vr v19 rfl) hm (by rw [msg_len]; decide) wr9_isz23 (RG.one (RG.ofOwn ho21)).1 (RG.one (RG.ofOwn ho21)).2 fun w31 hb32 hg33 hs34 => ?_)
 have hE0 := row_fresh hE0 hg33 (Nat.le_trans (Nat.le_refl _) (by omega))
 clear hm
 have hg := kb hg33 hg (by omega)
 have hn := kb hg33 hn (by omega)
 have hq := OG.kept hq hg33 qp.m
 have hb := kb hg33 hb (by omega)
 have ho21 := OG.kept ho21 hg33 hap24
 have hm : w31.heap[m]? = some (.cells (msgC ((⟨X.1.kind, X.1.session, X.1.refs, X.1.wants, (X.1.haves) ++ [(c.1)], X.1.size, X.1.at_, X.1.id, X.1.bytes, X.1.name, X.1.old, X.1.new, X.1.force, X.1.code⟩, ⟨X.2.refs, X.2.wants, v19, X.2.bytes⟩) : MsgV)).toArray 29 (0, 0)) := blk_eq hb32 (msg_s4 X v19 ((X.1.haves) ++ [(c.1)])); clear hb32
 have hl35 := bl hm
 refine ⟨.inl rfl, ?_⟩
 refine chX_nil (postP_end (fn := Tryd.f116) [] rfl [] (.tuple #[]) rfl trivial ?_)
 exact .inl ⟨_, rfl, rfl, c, j, v19, hP, ⟨hb, hm, hg, hn, hE0, hle_j⟩, ho21, ⟨hap23, hap24, hap25, hap26⟩, hq, hap27, hap28⟩
open Go.RowKit
set_option maxRecDepth 100000
set_option linter.unusedVariables false
theorem reads1_any {w0 w : World} {r m g n : Nat} {v : Value} {b : Bs} {p : Parts} {i : Nat} {X : MsgV} (C : RC w0 r m g n v b) (hS : RS w0 r m g n v b p w i X) (h0 : X.1.refs = []) (ho : OG w0.heap.size 67 66 updC w X.2.refs X.1.refs) (ap : Ap4 X.2.refs r m g n) :
  Calls Tryd.prog 111 #[PQ r 0, NI 128, .func (.func 112) #[] #[PQ g 0, PQ m 0]] w fun e w' => (∃ x, e = .returned x ∧ x = .tuple #[] ∧ ∃ (l : List Upd) (j : Nat) (vw : Value), listP b i 128 (addUpd b) X.1.refs = some (l, j) ∧ RS w0 r m g n v b p w' j (({ X.1 with refs := l }, { X.2 with refs := vw }) : MsgV) ∧ OG w0.heap.size 67 66 updC w' vw l ∧ Ap4 vw r m g n) ∨ ∃ ch, e = .panicked ch ∧ listP b i 128 (addUpd b) X.1.refs = none ∧ ch = [stopW] ∧ Ext w0 w' := by
 have hb_ := hS.hb
 have hlr := (bl hS.hb)
 have hlm := (bl hS.hm)
 have hlg := (bl hS.hg)
 have hln := (bl hS.hn)
 have hapr : b = [] ∨ OB v r := by
  rcases b with _ | ⟨b0, b1⟩
  ·exact .inl rfl
  ·exact .inr fun e => by have := RB.lt C.hr (by simp) e; have := C.lr; omega
 refine (list1_any w r g m v b i 128 hS.hb (C.hr.keep hS.hE0) hapr hS.hi C.hl (fun q u => ∃ c j0, numP b i = some (c, j0) ∧ c ≤ 128 ∧ ∃ (l : List Upd) (j : Nat) (vw : Value), itP (addUpd b) q (X.1.refs, j0) = some (l, j) ∧ l.length = q ∧ RS w0 r m g n v b p u j (({ X.1 with refs := l }, { X.2 with refs := vw }) : MsgV) ∧ OG w0.heap.size 67 66 updC u vw l ∧ Ap4 vw r m g n) (fun u => listP b i 128 (addUpd b) X.1.refs = none ∧ Ext w0 u) (fun c j0 w' hP hc hb' hgr => ?_) (fun c j0 q u hP hq ⟨c', j0', hP', hc', l, j, vw, hit, hll, hS', ho', ap'⟩ => ?_) (fun w' hn hgr => ⟨listP_none hn, row_fresh hS.hE0 hgr C.lr⟩)).mono ?_
 ·exact ⟨c, j0, hP, hc, X.1.refs, j0, X.2.refs, rfl, by rw [h0]; rfl, ⟨hb', (hgr.block m hlm (some_ne (Ne.symm C.hrm))).trans hS.hm, (hgr.block g hlg (some_ne (Ne.symm C.hrg))).trans hS.hg, (hgr.block n hln (some_ne (Ne.symm C.hrn))).trans hS.hn, row_fresh hS.hE0 hgr C.lr, numP_le hS.hi hP⟩, ho.kept hgr ap.r, ap⟩
 ·rw [hP] at hP'
  cases hP'
  refine (clo1_any C hS' ho' (by show l.length ≤ _; omega) ap').mono ?_
  rintro e u' (⟨x, rfl, rfl, d, j', vw', hd, hS2, ho2, ap2⟩ | ⟨ch, rfl, hd, hch, hE⟩)
  ·exact .inl ⟨_, rfl, rfl, c, j0, hP, hc', _, j', vw', by rw [itP_step hit]; unfold addUpd; rw [hd]; rfl, by show (l ++ [_]).length = _; rw [List.length_append, hll]; rfl, hS2, ho2, ap2⟩
  ·exact .inr ⟨ch, rfl, hch, by rw [listP_some hP hc']; exact itP_none (j := q + 1) (by rw [itP_step hit]; unfold addUpd; rw [hd]; rfl) c hq, hE⟩
 ·rintro e w' (⟨x, rfl, rfl, c, j0, hP, hc, c', j0', hP', -, l, j, vw, hit, -, hS', ho', ap'⟩ | ⟨ch, rfl, hch, hn, hE⟩)
  ·rw [hP] at hP'
   cases hP'
   exact .inl ⟨_, rfl, rfl, l, j, vw, by rw [listP_some hP hc]; exact hit, hS', ho', ap'⟩
  ·exact .inr ⟨ch, rfl, hn, hch, hE⟩
theorem reads2_any {w0 w : World} {r m g n : Nat} {v : Value} {b : Bs} {p : Parts} {i : Nat} {X : MsgV} (C : RC w0 r m g n v b) (hS : RS w0 r m g n v b p w i X) (h0 : X.1.wants = []) (ho : OG w0.heap.size 25 32 Lib.byteCells w X.2.wants X.1.wants) (ap : Ap4 X.2.wants r m g n) :
  Calls Tryd.prog 111 #[PQ r 0, NI 65536, .func (.func 115) #[] #[PQ m 0, PQ g 0]] w fun e w' => (∃ x, e = .returned x ∧ x = .tuple #[] ∧ ∃ (l : List Bs) (j : Nat) (vw : Value), listP b i 65536 (addId b) X.1.wants = some (l, j) ∧ RS w0 r m g n v b p w' j (({ X.1 with wants := l }, { X.2 with wants := vw }) : MsgV) ∧ OG w0.heap.size 25 32 Lib.byteCells w' vw l ∧ Ap4 vw r m g n) ∨ ∃ ch, e = .panicked ch ∧ listP b i 65536 (addId b) X.1.wants = none ∧ ch = [stopW] ∧ Ext w0 w' := by
 have hb_ := hS.hb
 have hlr := (bl hS.hb)
 have hlm := (bl hS.hm)
 have hlg := (bl hS.hg)
 have hln := (bl hS.hn)
 have hapr : b = [] ∨ OB v r := by
  rcases b with _ | ⟨b0, b1⟩
  ·exact .inl rfl
  ·exact .inr fun e => by have := RB.lt C.hr (by simp) e; have := C.lr; omega
 refine (list2_any w r g m v b i 65536 hS.hb (C.hr.keep hS.hE0) hapr hS.hi C.hl (fun q u => ∃ c j0, numP b i = some (c, j0) ∧ c ≤ 65536 ∧ ∃ (l : List Bs) (j : Nat) (vw : Value), itP (addId b) q (X.1.wants, j0) = some (l, j) ∧ l.length = q ∧ RS w0 r m g n v b p u j (({ X.1 with wants := l }, { X.2 with wants := vw }) : MsgV) ∧ OG w0.heap.size 25 32 Lib.byteCells u vw l ∧ Ap4 vw r m g n) (fun u => listP b i 65536 (addId b) X.1.wants = none ∧ Ext w0 u) (fun c j0 w' hP hc hb' hgr => ?_) (fun c j0 q u hP hq ⟨c', j0', hP', hc', l, j, vw, hit, hll, hS', ho', ap'⟩ => ?_) (fun w' hn hgr => ⟨listP_none hn, row_fresh hS.hE0 hgr C.lr⟩)).mono ?_
 ·exact ⟨c, j0, hP, hc, X.1.wants, j0, X.2.wants, rfl, by rw [h0]; rfl, ⟨hb', (hgr.block m hlm (some_ne (Ne.symm C.hrm))).trans hS.hm, (hgr.block g hlg (some_ne (Ne.symm C.hrg))).trans hS.hg, (hgr.block n hln (some_ne (Ne.symm C.hrn))).trans hS.hn, row_fresh hS.hE0 hgr C.lr, numP_le hS.hi hP⟩, ho.kept hgr ap.r, ap⟩
 ·rw [hP] at hP'
  cases hP'
  refine (clo2_any C hS' ho' (by show l.length ≤ _; omega) ap').mono ?_
  rintro e u' (⟨x, rfl, rfl, d, j', vw', hd, hS2, ho2, ap2⟩ | ⟨ch, rfl, hd, hch, hE⟩)
  ·exact .inl ⟨_, rfl, rfl, c, j0, hP, hc', _, j', vw', by rw [itP_step hit]; unfold addId; rw [hd]; rfl, by show (l ++ [_]).length = _; rw [List.length_append, hll]; rfl, hS2, ho2, ap2⟩
  ·exact .inr ⟨ch, rfl, hch, by rw [listP_some hP hc']; exact itP_none (j := q + 1) (by rw [itP_step hit]; unfold addId; rw [hd]; rfl) c hq, hE⟩
 ·rintro e w' (⟨x, rfl, rfl, c, j0, hP, hc, c', j0', hP', -, l, j, vw, hit, -, hS', ho', ap'⟩ | ⟨ch, rfl, hch, hn, hE⟩)
  ·rw [hP] at hP'
   cases hP'
   exact .inl ⟨_, rfl, rfl, l, j, vw, by rw [listP_some hP hc]; exact hit, hS', ho', ap'⟩
  ·exact .inr ⟨ch, rfl, hn, hch, hE⟩
theorem reads3_any {w0 w : World} {r m g n : Nat} {v : Value} {b : Bs} {p : Parts} {i : Nat} {X : MsgV} (C : RC w0 r m g n v b) (hS : RS w0 r m g n v b p w i X) (h0 : X.1.haves = []) (ho : OG w0.heap.size 25 32 Lib.byteCells w X.2.haves X.1.haves) (ap : Ap4 X.2.haves r m g n) (hq : OG w0.heap.size 25 32 Lib.byteCells w X.2.wants X.1.wants) (qp : Ap4 X.2.wants r m g n) (aq : ApartV X.2.haves X.2.wants) (qa : ApartV X.2.wants X.2.haves) :
  Calls Tryd.prog 111 #[PQ r 0, NI 65536, .func (.func 116) #[] #[PQ m 0, PQ g 0]] w fun e w' => (∃ x, e = .returned x ∧ x = .tuple #[] ∧ ∃ (l : List Bs) (j : Nat) (vw : Value), listP b i 65536 (addId b) X.1.haves = some (l, j) ∧ RS w0 r m g n v b p w' j (({ X.1 with haves := l }, { X.2 with haves := vw }) : MsgV) ∧ OG w0.heap.size 25 32 Lib.byteCells w' vw l ∧ Ap4 vw r m g n ∧ OG w0.heap.size 25 32 Lib.byteCells w' X.2.wants X.1.wants ∧ ApartV vw X.2.wants ∧ ApartV X.2.wants vw) ∨ ∃ ch, e = .panicked ch ∧ listP b i 65536 (addId b) X.1.haves = none ∧ ch = [stopW] ∧ Ext w0 w' := by
 have hb_ := hS.hb
 have hlr := (bl hS.hb)
 have hlm := (bl hS.hm)
 have hlg := (bl hS.hg)
 have hln := (bl hS.hn)
 have hapr : b = [] ∨ OB v r := by
  rcases b with _ | ⟨b0, b1⟩
  ·exact .inl rfl
  ·exact .inr fun e => by have := RB.lt C.hr (by simp) e; have := C.lr; omega
 refine (list3_any w r g m v b i 65536 hS.hb (C.hr.keep hS.hE0) hapr hS.hi C.hl (fun q u => ∃ c j0, numP b i = some (c, j0) ∧ c ≤ 65536 ∧ ∃ (l : List Bs) (j : Nat) (vw : Value), itP (addId b) q (X.1.haves, j0) = some (l, j) ∧ l.length = q ∧ RS w0 r m g n v b p u j (({ X.1 with haves := l }, { X.2 with haves := vw }) : MsgV) ∧ OG w0.heap.size 25 32 Lib.byteCells u vw l ∧ Ap4 vw r m g n ∧ OG w0.heap.size 25 32 Lib.byteCells u X.2.wants X.1.wants ∧ ApartV vw X.2.wants ∧ ApartV X.2.wants vw) (fun u => listP b i 65536 (addId b) X.1.haves = none ∧ Ext w0 u) (fun c j0 w' hP hc hb' hgr => ?_) (fun c j0 q u hP hq ⟨c', j0', hP', hc', l, j, vw, hit, hll, hS', ho', ap', hq2, aq2, qa2⟩ => ?_) (fun w' hn hgr => ⟨listP_none hn, row_fresh hS.hE0 hgr C.lr⟩)).mono ?_
 ·exact ⟨c, j0, hP, hc, X.1.haves, j0, X.2.haves, rfl, by rw [h0]; rfl, ⟨hb', (hgr.block m hlm (some_ne (Ne.symm C.hrm))).trans hS.hm, (hgr.block g hlg (some_ne (Ne.symm C.hrg))).trans hS.hg, (hgr.block n hln (some_ne (Ne.symm C.hrn))).trans hS.hn, row_fresh hS.hE0 hgr C.lr, numP_le hS.hi hP⟩, ho.kept hgr ap.r, ap, hq.kept hgr qp.r, aq, qa⟩
 ·rw [hP] at hP'
  cases hP'
  refine (clo3_any C hS' ho' (by show l.length ≤ _; omega) ap' hq2 qp aq2 qa2).mono ?_
  rintro e u' (⟨x, rfl, rfl, d, j', vw', hd, hS2, ho2, ap2, hq3, aq3, qa3⟩ | ⟨ch, rfl, hd, hch, hE⟩)
  ·exact .inl ⟨_, rfl, rfl, c, j0, hP, hc', _, j', vw', by rw [itP_step hit]; unfold addId; rw [hd]; rfl, by show (l ++ [_]).length = _; rw [List.length_append, hll]; rfl, hS2, ho2, ap2, hq3, aq3, qa3⟩
  ·exact .inr ⟨ch, rfl, hch, by rw [listP_some hP hc']; exact itP_none (j := q + 1) (by rw [itP_step hit]; unfold addId; rw [hd]; rfl) c hq, hE⟩
 ·rintro e w' (⟨x, rfl, rfl, c, j0, hP, hc, c', j0', hP', -, l, j, vw, hit, -, hS', ho', ap', hq2, aq2, qa2⟩ | ⟨ch, rfl, hch, hn, hE⟩)
  ·rw [hP] at hP'
   cases hP'
   exact .inl ⟨_, rfl, rfl, l, j, vw, by rw [listP_some hP hc]; exact hit, hS', ho', ap', hq2, aq2, qa2⟩
  ·exact .inr ⟨ch, rfl, hn, hch, hE⟩
open Go.RowKit
set_option maxRecDepth 100000
structure MsgNew (n : Nat) (X : MsgV) : Prop where
 refs : ∀ k, Value.ownBlock X.2.refs = some k → n ≤ k
 wants : ∀ k, Value.ownBlock X.2.wants = some k → n ≤ k
 haves : ∀ k, Value.ownBlock X.2.haves = some k → n ≤ k
 bytes : ∀ k, Value.ownBlock X.2.bytes = some k → n ≤ k
theorem apartv_nil (v : Value) : ApartV (.slice none 0 0) v := fun k h => by cases h
theorem apartv_nil' (v : Value) : ApartV v (.slice none 0 0) := fun k _ h => by cases h
theorem wr11_al29 {d : Option Tmp} {ty : TypeId} {pos : String} {af : Array Edge} {gd : Option (Nat × Bool)} (σ : Operand → Value) (w : World) : (execOp σ ⟨d, .alloc 29, ty, pos, af, gd⟩).run Tryd.prog w = .ok (.value (PQ w.heap.size 0)) (w.alloc (.cells (msgC ((⟨0, 0, [], [], [], 0, 0, zid, [], [], zid, zid, false, 0⟩, ⟨.slice none 0 0, .slice none 0 0, .slice none 0 0, .slice none 0 0⟩) : MsgV)).toArray 29)) := by kernel_rfl
theorem wr11_ty109 : Tryd.prog.underlying 109 = some (.pointer 111) := by kernel_rfl
theorem wr11_pl108 : Plain Tryd.prog 108 := fun _ _ => by kernel_rfl
theorem wr11_fo29_0 : FieldOff Tryd.prog 29 0 0 := fun b o w => by simp [go_sem]
theorem wr11_isz5 : (Tryd.prog.info? 5).map (·.size) = some 1 := by kernel_rfl
theorem wr11_pl50 : Plain Tryd.prog 50 := fun _ _ => by kernel_rfl
theorem wr11_ty5 : Tryd.prog.underlying 5 = some (.int .u8) := by kernel_rfl
theorem wr11_ty93 : Tryd.prog.underlying 93 = some (.map 5 92) := by kernel_rfl
theorem wr11_al92 {d : Option Tmp} {ty : TypeId} {pos : String} {af : Array Edge} {gd : Option (Nat × Bool)} (σ : Operand → Value) (w : World) : (execOp σ ⟨d, .alloc 92, ty, pos, af, gd⟩).run Tryd.prog w = .ok (.value (PQ w.heap.size 0)) (w.alloc (.cells (partsC (⟨false, false, false, false, false, false, false, false⟩ : Parts)).toArray 92)) := by kernel_rfl
theorem wr11_isz92 : (Tryd.prog.info? 92).map (·.size) = some 8 := by kernel_rfl
theorem wr11_pl109 : Plain Tryd.prog 109 := fun _ _ => by kernel_rfl
theorem wr11_pl110 : Plain Tryd.prog 110 := fun _ _ => by kernel_rfl
theorem wr11_fo29_1 : FieldOff Tryd.prog 29 1 1 := fun b o w => by simp [go_sem]
theorem wr11_isz3 : (Tryd.prog.info? 3).map (·.size) = some 1 := by kernel_rfl
theorem wr11_fo92_0 : FieldOff Tryd.prog 92 0 0 := fun b o w => by simp [go_sem]
theorem wr11_ty4 : Tryd.prog.underlying 4 = some (.bool) := by kernel_rfl
theorem wr11_fo92_1 : FieldOff Tryd.prog 92 1 1 := fun b o w => by simp [go_sem]
theorem wr11_fo92_2 : FieldOff Tryd.prog 92 2 2 := fun b o w => by simp [go_sem]
theorem wr11_fo92_3 : FieldOff Tryd.prog 92 3 3 := fun b o w => by simp [go_sem]
theorem wr11_fo92_4 : FieldOff Tryd.prog 92 4 4 := fun b o w => by simp [go_sem]
theorem wr11_fo92_5 : FieldOff Tryd.prog 92 5 5 := fun b o w => by simp [go_sem]
theorem wr11_fo92_6 : FieldOff Tryd.prog 92 6 6 := fun b o w => by simp [go_sem]
theorem wr11_fo92_7 : FieldOff Tryd.prog 92 7 7 := fun b o w => by simp [go_sem]
theorem wr11_fo111_1 : FieldOff Tryd.prog 111 1 1 := fun b o w => by simp [go_sem]
theorem wr11_ty3 : Tryd.prog.underlying 3 = some (.int .i64) := by kernel_rfl
theorem wr11_fo111_0 : FieldOff Tryd.prog 111 0 0 := fun b o w => by simp [go_sem]
theorem wr11_ty26 : Tryd.prog.underlying 26 = some (.slice 5) := by kernel_rfl
theorem wr11_ty29 : ∃ fs, Tryd.prog.underlying 29 = some (.struct fs) := struct_of (by kernel_rfl)
theorem wr11_isz29 : (Tryd.prog.info? 29).map (·.size) = some 107 := by kernel_rfl
theorem wr11_pl19 : Plain Tryd.prog 19 := fun _ _ => by kernel_rfl
theorem wr11_pl111 : Plain Tryd.prog 111 := fun _ _ => by kernel_rfl
theorem wr11_fo29_5 : FieldOff Tryd.prog 29 5 5 := fun b o w => by simp [go_sem]
theorem wr11_pl114 : Plain Tryd.prog 114 := fun _ _ => by kernel_rfl
theorem wr11_fo29_7 : FieldOff Tryd.prog 29 7 7 := fun b o w => by simp [go_sem]
theorem wr11_isz25 : (Tryd.prog.info? 25).map (·.size) = some 32 := by kernel_rfl
theorem wr11_fo29_6 : FieldOff Tryd.prog 29 6 6 := fun b o w => by simp [go_sem]
theorem wr11_pl113 : Plain Tryd.prog 113 := fun _ _ => by kernel_rfl
theorem wr11_ty9 : Tryd.prog.underlying 9 = some (.string) := by kernel_rfl
theorem wr11_fo29_8 : FieldOff Tryd.prog 29 8 39 := fun b o w => by simp [go_sem]
theorem wr11_isz26 : (Tryd.prog.info? 26).map (·.size) = some 1 := by kernel_rfl
theorem wr11_fo29_9 : FieldOff Tryd.prog 29 9 40 := fun b o w => by simp [go_sem]
theorem wr11_isz9 : (Tryd.prog.info? 9).map (·.size) = some 1 := by kernel_rfl
theorem wr11_fo29_10 : FieldOff Tryd.prog 29 10 41 := fun b o w => by simp [go_sem]
theorem wr11_fo29_11 : FieldOff Tryd.prog 29 11 73 := fun b o w => by simp [go_sem]
theorem wr11_fo29_12 : FieldOff Tryd.prog 29 12 105 := fun b o w => by simp [go_sem]
theorem wr11_isz4 : (Tryd.prog.info? 4).map (·.size) = some 1 := by kernel_rfl
theorem wr11_fo29_13 : FieldOff Tryd.prog 29 13 106 := fun b o w => by simp [go_sem]
theorem wr11_isz27 : (Tryd.prog.info? 27).map (·.size) = some 1 := by kernel_rfl
set_option maxHeartbeats 3200000
theorem message_any {w0 w : World} {r : Nat} {v : Value} {b : Bs} (hE0 : Ext w0 w) (hb : w.heap[r]? = some (.cells (rdC (rdX v b (0))).toArray 111 (0, 0))) (hr : RB w0 v b) (lr : w0.heap.size ≤ r) (hl : b.length ≤ 4611686018427387904) :
  Calls Tryd.prog 67 #[PQ r 0] w fun e w' => (∃ x, e = .returned x ∧ ∃ X : MsgV, decP b = some X.1 ∧ x = .agg (msgC X).toArray ∧ MsgAt w' X ∧ MsgNew w0.heap.size X ∧ Ext w0 w') ∨ ∃ ch, e = .panicked ch ∧ decP b = none ∧ ch = [stopW] ∧ Ext w0 w' := by
 have hz0 := hE0.size
 have hlr := (bl hb)
 have hapr : b = [] ∨ OB v r := by
   rcases b with _ | ⟨b0, b1⟩
   ·exact .inl rfl
   ·exact .inr fun e => by have := RB.lt hr (by simp) e; omega
 refine calls_of_wpP (args := [PQ r 0]) Tryd.func67 rfl 95 rfl (Nat.le_of_ble_eq_true rfl) ?_
 intro ρ0 hb
 have T0 : ρ0 0 = (PQ r 0 : Value) := hb.get 0
 clear hb
 have hE := Ext.refl w
 refine sk fun K1 hK1 => (wt (oS rfl (Yk.box1 T0 rfl fun n2 w3 hn4 hb5 hx6 hs7 => ?_)))
 have hA8 := Ext.refl w
 have hea9 := hE
 have hea10 := hE0
 have hz11 := hE.size
 have hz12 := hE0.size
 have hlt13 := lte (bl hb) hn4
 have hE0 := hE0.trans hx6
 have hb := eb hx6 hb
 have hE := hE.trans hx6
 have hA8 := hA8.trans hx6
 have hb14 := hb5; clear hb5
 have hl15 : n2 < w3.heap.size := by omega
 refine oS rfl (Yk.alloc (cs := (msgC ((⟨0, 0, [], [], [], 0, 0, zid, [], [], zid, zid, false, 0⟩, ⟨.slice none 0 0, .slice none 0 0, .slice none 0 0, .slice none 0 0⟩) : MsgV)).toArray) wr11_al29 fun n16 w17 hn18 hb19 hx20 hs21 => ?_)
 have hA22 := Ext.refl w3
 have hea23 := hE
 have hea24 := hE0
 have hea25 := hA8
 have hz26 := hE.size
 have hz27 := hE0.size
 have hz28 := hA8.size
 have hlt29 := lte (bl hb) hn18
 have hlt30 := lte (bl hb14) hn18
 have hE0 := hE0.trans hx20
 have hb := eb hx20 hb
 have hE := hE.trans hx20
 have hA8 := hA8.trans hx20
 have hb14 := eb hx20 hb14
 have hA22 := hA22.trans hx20
 have hb31 := hb19; clear hb19
 have hl32 : n16 < w17.heap.size := by omega
 refine oZ (tN (hK1 _ _ (sk fun K33 hK33 => (wt (oS rfl (Yk.cell1 wr11_ty109 rfl (vr (PQ n2 0) rfl) (cellAt hb14 (show _ = some (PQ r 0 : Value) from rfl)) (oP rfl (Yp.callA1 wr11_pl108 (vr (PQ r 0) rfl) ?_))))))))
 refine calls_either (byte_any _ r v b 0 hb (hr.keep hE0) hapr (Nat.zero_le _) hl) ?_ ?_
 rotate_left
 ·
  rintro ch w36 ⟨hPx, rfl, hgx⟩
  refine thenF_panic (postP_panic ?_)
  exact .inr ⟨_, rfl, by unfold decP; rw [hPx]; rfl, rfl, (row_fresh hE0 hgx lr)⟩
 rintro v_ w38 ⟨c1, j1, hP1, rfl, hb34, hg35⟩
 have hE0 := row_fresh hE0 hg35 (Nat.le_trans (Nat.le_refl _) lr)
 clear hb
 clear hE
 clear hA8
 have hb14 := kb hg35 hb14 (by omega)
 clear hA22
 have hb31 := kb hg35 hb31 (by omega)
 have hb := hb34; clear hb34
 have hle_j1 := byteP_le hP1
 have hl39 := bl hb
 refine oS rfl (Yk.fieldAt wr11_fo29_0 (vr (PQ n16 0) rfl) (oS rfl (Yk.storeC (i := 0) (v := B8 (c1)) (vr (PQ n16 0) rfl) (vr (B8 (c1)) rfl) hb31 (by rw [msg_len]; decide) wr11_isz5 rfl rfl fun w40 hb41 hg42 hs43 => ?_)))
 have hE0 := row_fresh hE0 hg42 (Nat.le_trans hz27 (by omega))
 have hb14 := kb hg42 hb14 (by omega)
 clear hb31
 have hb := kb hg42 hb (by omega)
 have hb31 : w40.heap[n16]? = some (.cells (msgC ((⟨c1, 0, [], [], [], 0, 0, zid, [], [], zid, zid, false, 0⟩, ⟨(Value.slice none 0 0), (Value.slice none 0 0), (Value.slice none 0 0), (Value.slice none 0 0)⟩) : MsgV)).toArray 29 (0, 0)) := blk_eq hb41 (msg_s0 ((⟨0, 0, [], [], [], 0, 0, zid, [], [], zid, zid, false, 0⟩, ⟨.slice none 0 0, .slice none 0 0, .slice none 0 0, .slice none 0 0⟩) : MsgV) c1); clear hb41
 have hl44 := bl hb31
 refine oZ ?_
 rcases hK : kindsG c1 with _ | p
 ·refine tN (hK33 _ _ (sk fun K45 hK45 => ?_))
  have hA46 := Ext.refl w40
  have hea47 := hE0
  have hz48 := hE0.size
  have hlt49 : n2 < w40.heap.size := (bl hb14)
  have hlt50 : r < w40.heap.size := (bl hb)
  have hlt51 : n16 < w40.heap.size := (bl hb31)
  refine wpF_draw_newK 0 7 8 9 92 (partsC (⟨false, false, false, false, false, false, false, false⟩ : Parts)).toArray (partsC dParts).toArray [fun x w' => ∃ b, x = .map (some b) ∧ MapF B8 partsV (fun _ : UInt8 => True) w' b kindsG, Is (PQ n16 0), Is (B8 (c1)), Is (.tuple #[.agg (partsC dParts).toArray, .bool (false)]), Is (.tuple #[.agg (partsC dParts).toArray, .bool (false)]), Is (.agg (partsC dParts).toArray), Is (.bool (false)), RowK w40 92 8, (fun _ _ => True)] (by kernel_rfl) [10, 11, 12, 13, 9, 14, 15, 3, 4] (by kernel_rfl) (by kernel_rfl) (by kernel_rfl) (by kernel_rfl) rfl rfl (by kernel_rfl) rfl rfl rfl rfl rfl rfl rfl ⟨(fun _ _ _ ⟨b, h1, h2⟩ k => ⟨b, h1, MapF.stabK h2 k⟩), Stab.is _, Stab.is _, Stab.is _, Stab.is _, Stab.is _, Stab.is _, RowK.stab _ _ _, Stab.any, trivial⟩ rfl ?hs1002 ?hQ1002
  case hs1002 =>
   refine ⟨?_, ?_, ?_, ?_, ?_, ?_, ?_, ?_, ?_, ?_, trivial⟩
   ·refine stepFC (stepN rfl fun σ w1 hC h => ?_)
    have hC : Ext w40 w1 := hC
    refine Yk.callA0 wr11_pl50  ((kinds_any _).mono ?_)
    rintro e w2 ⟨b, rfl, hmk, hx, hom⟩
    exact ⟨_, rfl, ⟨hx, hom⟩, ⟨b, rfl, hmk⟩⟩
   ·refine stepFC (stepN rfl fun σ w1 hC h => ?_)
    have hC : Ext w40 w1 := hC
    have e2 : σ 2 = PQ n16 0 := (eqo (h 2 (by decide))).trans rfl
    exact Yk.fieldAt wr11_fo29_0 e2 ⟨rfl, rfl⟩
   ·refine stepFC (stepN rfl fun σ w1 hC h => ?_)
    have hC : Ext w40 w1 := hC
    have e11 := eqo (h 11 (by decide))
    exact Yk.cell1 wr11_ty5 rfl e11 (cellAt (eb hC hb31) (show (msgC ((⟨c1, 0, [], [], [], 0, 0, zid, [], [], zid, zid, false, 0⟩, ⟨(Value.slice none 0 0), (Value.slice none 0 0), (Value.slice none 0 0), (Value.slice none 0 0)⟩) : MsgV))[0]? = some (B8 (c1) : Value) from msg_g0 ((⟨c1, 0, [], [], [], 0, 0, zid, [], [], zid, zid, false, 0⟩, ⟨(Value.slice none 0 0), (Value.slice none 0 0), (Value.slice none 0 0), (Value.slice none 0 0)⟩) : MsgV))) ⟨rfl, rfl⟩
   ·refine stepFC (stepN rfl fun σ w1 hC h => ?_)
    have hC : Ext w40 w1 := hC
    have e10 : (fun x w' => ∃ b, x = .map (some b) ∧ MapF B8 partsV (fun _ : UInt8 => True) w' b kindsG) (σ 10) w1 := h 10 (by decide)
    have e12 := eqo (h 12 (by decide))
    obtain ⟨b6, k6, m6⟩ := (show ∃ b, σ 10 = .map (some b) ∧ MapF B8 partsV (fun _ : UInt8 => True) w1 b kindsG from e10)
    exact Yk.lookOkN (ek := B8) (ev := partsV) (D := fun _ : UInt8 => True) u8Law u8_ok (fun _ _ => b8_inj) wr11_ty93 (z := partsV dParts) zeroParts k6 e12 m6 trivial hK ⟨rfl, rfl⟩
   ·refine stepFC (stepN rfl fun σ w1 hC h => ?_)
    have hC : Ext w40 w1 := hC
    have e13 := eqo (h 13 (by decide))
    exact Yk.move e13 ⟨rfl, rfl⟩
   ·refine stepFC (stepN rfl fun σ w1 hC h => ?_)
    have hC : Ext w40 w1 := hC
    have e9 := eqo (h 9 (by decide))
    exact Yk.extract (vs := [.agg (partsC dParts).toArray, .bool (false)]) e9 (show _ = some (.agg (partsC dParts).toArray : Value) from rfl) ⟨rfl, rfl⟩
   ·refine stepFC (stepN rfl fun σ w1 hC h => ?_)
    have hC : Ext w40 w1 := hC
    have e9 := eqo (h 9 (by decide))
    exact Yk.extract (vs := [.agg (partsC dParts).toArray, .bool (false)]) e9 (show _ = some (.bool (false) : Value) from rfl) ⟨rfl, rfl⟩
   ·refine stepFC (stepN rfl fun σ w1 hC h => ?_)
    have hC : NoCells w40 w1 := hC
    exact Yk.allocX wr11_al92 ⟨⟨hC, rfl⟩, w1.heap.size, _, rfl, hC.1.size, heap_alloc_new _ _, rfl⟩
   ·refine stepFC (stepN rfl fun σ w1 hC h => ?_)
    have hC : OneCells w40 w1 := hC
    have e3 : (RowK w40 92 8) (σ 3) w1 := h 3 (by decide)
    have e14 := eqo (h 14 (by decide))
    obtain ⟨g, cs, h1, h2, h3, h4⟩ := e3
    exact Yk.storeAll h1 e14 (show _ = some (Obj.cells cs.toList.toArray 92 (0, 0)) by simpa using h3) (by rw [show cs.toList.toArray = cs by simp, h4]; rfl) (show (Tryd.prog.info? 92).map (·.size) = some 8 from wr11_isz92) (parts_one) fun w2 a b c => ⟨⟨hC, g, cs, h2, h3, (by rw [h4]; rfl), a, b, c⟩, trivial⟩
   ·exact trivial
  intro ρ52 w53 hx54 hun55 he hf
  obtain ⟨-, -, -, -, -, -, k15, k3, -⟩ := hf
  obtain ⟨T0, T1, T2, -⟩ := he.hold [(0, _), (1, PQ n2 0), (2, PQ n16 0)] ⟨T0, rfl, rfl, trivial⟩ rfl
  clear he
  have hE0 := hE0.trans hx54
  have hb14 := eb hx54 hb14
  have hb := eb hx54 hb
  have hb31 := eb hx54 hb31
  have hA46 := hA46.trans hx54
  obtain ⟨n56, cs_, T3, hn58, hb59, hz60⟩ := (show (RowK w40 92 8) (ρ52 3) w53 from k3)
  obtain rfl := hun55 n56 cs_ _ _ hn58 hb59
  clear k3
  have hl61 := bl hb59
  have T15 : ρ52 15 = .bool (false) := k15
  clear k15
  refine oA rfl (oZ (tN (hK45 _ _ (sk fun K62 hK62 => (wt (oM rfl (oP rfl (Yp.callA1 wr11_pl109 T15 ?_))))))))
  refine calls_either (needW_any _ (false)) ?_ ?_
  rotate_left
  ·
   rintro ch w65 ⟨rfl, hb, hx⟩
   refine thenF_panic (postP_panic ?_)
   exact .inr ⟨_, rfl, by unfold decP; simp [hP1, hK], rfl, hE0.trans hx⟩
  rintro v_ w67 ⟨rfl, hb63, hx64⟩
  cases hb63
 refine tN (hK33 _ _ (sk fun K68 hK68 => ?_))
 have hA69 := Ext.refl w40
 have hea70 := hE0
 have hz71 := hE0.size
 have hlt72 : n2 < w40.heap.size := (bl hb14)
 have hlt73 : r < w40.heap.size := (bl hb)
 have hlt74 : n16 < w40.heap.size := (bl hb31)
 refine wpF_draw_newK 0 7 8 9 92 (partsC (⟨false, false, false, false, false, false, false, false⟩ : Parts)).toArray (partsC p).toArray [fun x w' => ∃ b, x = .map (some b) ∧ MapF B8 partsV (fun _ : UInt8 => True) w' b kindsG, Is (PQ n16 0), Is (B8 (c1)), Is (.tuple #[.agg (partsC p).toArray, .bool (true)]), Is (.tuple #[.agg (partsC p).toArray, .bool (true)]), Is (.agg (partsC p).toArray), Is (.bool (true)), RowK w40 92 8, (fun _ _ => True)] (by kernel_rfl) [10, 11, 12, 13, 9, 14, 15, 3, 4] (by kernel_rfl) (by kernel_rfl) (by kernel_rfl) (by kernel_rfl) rfl rfl (by kernel_rfl) rfl rfl rfl rfl rfl rfl rfl ⟨(fun _ _ _ ⟨b, h1, h2⟩ k => ⟨b, h1, MapF.stabK h2 k⟩), Stab.is _, Stab.is _, Stab.is _, Stab.is _, Stab.is _, Stab.is _, RowK.stab _ _ _, Stab.any, trivial⟩ rfl ?hs2002 ?hQ2002
 case hs2002 =>
  refine ⟨?_, ?_, ?_, ?_, ?_, ?_, ?_, ?_, ?_, ?_, trivial⟩
  ·refine stepFC (stepN rfl fun σ w1 hC h => ?_)
   have hC : Ext w40 w1 := hC
   refine Yk.callA0 wr11_pl50  ((kinds_any _).mono ?_)
   rintro e w2 ⟨b, rfl, hmk, hx, hom⟩
   exact ⟨_, rfl, ⟨hx, hom⟩, ⟨b, rfl, hmk⟩⟩
  ·refine stepFC (stepN rfl fun σ w1 hC h => ?_)
   have hC : Ext w40 w1 := hC
   have e2 : σ 2 = PQ n16 0 := (eqo (h 2 (by decide))).trans rfl
   exact Yk.fieldAt wr11_fo29_0 e2 ⟨rfl, rfl⟩
  ·refine stepFC (stepN rfl fun σ w1 hC h => ?_)
   have hC : Ext w40 w1 := hC
   have e11 := eqo (h 11 (by decide))
   exact Yk.cell1 wr11_ty5 rfl e11 (cellAt (eb hC hb31) (show (msgC ((⟨c1, 0, [], [], [], 0, 0, zid, [], [], zid, zid, false, 0⟩, ⟨(Value.slice none 0 0), (Value.slice none 0 0), (Value.slice none 0 0), (Value.slice none 0 0)⟩) : MsgV))[0]? = some (B8 (c1) : Value) from msg_g0 ((⟨c1, 0, [], [], [], 0, 0, zid, [], [], zid, zid, false, 0⟩, ⟨(Value.slice none 0 0), (Value.slice none 0 0), (Value.slice none 0 0), (Value.slice none 0 0)⟩) : MsgV))) ⟨rfl, rfl⟩
  ·refine stepFC (stepN rfl fun σ w1 hC h => ?_)
   have hC : Ext w40 w1 := hC
   have e10 : (fun x w' => ∃ b, x = .map (some b) ∧ MapF B8 partsV (fun _ : UInt8 => True) w' b kindsG) (σ 10) w1 := h 10 (by decide)
   have e12 := eqo (h 12 (by decide))
   obtain ⟨b6, k6, m6⟩ := (show ∃ b, σ 10 = .map (some b) ∧ MapF B8 partsV (fun _ : UInt8 => True) w1 b kindsG from e10)
   exact Yk.lookOkS (ek := B8) (ev := partsV) (D := fun _ : UInt8 => True) u8Law u8_ok (fun _ _ => b8_inj) wr11_ty93 (z := partsV dParts) zeroParts k6 e12 m6 trivial hK ⟨rfl, rfl⟩
  ·refine stepFC (stepN rfl fun σ w1 hC h => ?_)
   have hC : Ext w40 w1 := hC
   have e13 := eqo (h 13 (by decide))
   exact Yk.move e13 ⟨rfl, rfl⟩
  ·refine stepFC (stepN rfl fun σ w1 hC h => ?_)
   have hC : Ext w40 w1 := hC
   have e9 := eqo (h 9 (by decide))
   exact Yk.extract (vs := [.agg (partsC p).toArray, .bool (true)]) e9 (show _ = some (.agg (partsC p).toArray : Value) from rfl) ⟨rfl, rfl⟩
  ·refine stepFC (stepN rfl fun σ w1 hC h => ?_)
   have hC : Ext w40 w1 := hC
   have e9 := eqo (h 9 (by decide))
   exact Yk.extract (vs := [.agg (partsC p).toArray, .bool (true)]) e9 (show _ = some (.bool (true) : Value) from rfl) ⟨rfl, rfl⟩
  ·refine stepFC (stepN rfl fun σ w1 hC h => ?_)
   have hC : NoCells w40 w1 := hC
   exact Yk.allocX wr11_al92 ⟨⟨hC, rfl⟩, w1.heap.size, _, rfl, hC.1.size, heap_alloc_new _ _, rfl⟩
  ·refine stepFC (stepN rfl fun σ w1 hC h => ?_)
   have hC : OneCells w40 w1 := hC
   have e3 : (RowK w40 92 8) (σ 3) w1 := h 3 (by decide)
   have e14 := eqo (h 14 (by decide))
   obtain ⟨g, cs, h1, h2, h3, h4⟩ := e3
   exact Yk.storeAll h1 e14 (show _ = some (Obj.cells cs.toList.toArray 92 (0, 0)) by simpa using h3) (by rw [show cs.toList.toArray = cs by simp, h4]; rfl) (show (Tryd.prog.info? 92).map (·.size) = some 8 from wr11_isz92) (parts_one) fun w2 a b c => ⟨⟨hC, g, cs, h2, h3, (by rw [h4]; rfl), a, b, c⟩, trivial⟩
  ·exact trivial
 intro ρ75 w76 hx77 hun78 he hf
 obtain ⟨-, -, -, -, -, -, k15, k3, -⟩ := hf
 obtain ⟨T0, T1, T2, -⟩ := he.hold [(0, _), (1, PQ n2 0), (2, PQ n16 0)] ⟨T0, rfl, rfl, trivial⟩ rfl
 clear he
 have hE0 := hE0.trans hx77
 have hb14 := eb hx77 hb14
 have hb := eb hx77 hb
 have hb31 := eb hx77 hb31
 have hA69 := hA69.trans hx77
 obtain ⟨n79, cs_, T3, hn81, hb82, hz83⟩ := (show (RowK w40 92 8) (ρ75 3) w76 from k3)
 obtain rfl := hun78 n79 cs_ _ _ hn81 hb82
 clear k3
 have hl84 := bl hb82
 have T15 : ρ75 15 = .bool (true) := k15
 clear k15
 refine oA rfl (oZ (tN (hK68 _ _ (sk fun K85 hK85 => (wt (oM rfl (oP rfl (Yp.callA1 wr11_pl109 T15 ?_))))))))
 refine calls_either (needW_any _ (true)) ?_ ?_
 rotate_left
 ·
  rintro ch w88 ⟨rfl, hb, hx⟩
  refine thenF_panic (postP_panic ?_)
  cases hb
 rintro v_ w90 ⟨rfl, hb86, hx87⟩
 have hE0 := hE0.trans hx87
 have hb14 := eb hx87 hb14
 have hb := eb hx87 hb
 have hb31 := eb hx87 hb31
 have hA69 := hA69.trans hx87
 have hb82 := eb hx87 hb82
 refine oZ (tN (hK85 _ _ (sk fun K91 hK91 => (wt (oS rfl (Yk.cell1 wr11_ty109 rfl T1 (cellAt hb14 (show _ = some (PQ r 0 : Value) from rfl)) (oP rfl (Yp.callA1 wr11_pl110 (vr (PQ r 0) rfl) ?_))))))))
 refine calls_either (numberW_any _ r v b j1 hb (hr.keep hE0) hapr hle_j1 hl) ?_ ?_
 rotate_left
 ·
  rintro ch w94 ⟨hPx, rfl, hgx⟩
  refine thenF_panic (postP_panic ?_)
  exact .inr ⟨_, rfl, by unfold decP; simp [hP1, hPx], rfl, (row_fresh hE0 hgx lr)⟩
 rintro v_ w96 ⟨c2, j2, hP2, rfl, hb92, hg93⟩
 have hE0 := row_fresh hE0 hg93 (Nat.le_trans (Nat.le_refl _) lr)
 have hb14 := kb hg93 hb14 (by omega)
 clear hb
 have hb31 := kb hg93 hb31 (by omega)
 clear hA69
 have hb82 := kb hg93 hb82 (by omega)
 have hb := hb92; clear hb92
 have hle_j2 := numP_le hle_j1 hP2
 have hl97 := bl hb
 refine oS rfl (Yk.fieldAt wr11_fo29_1 T2 (oS rfl (Yk.storeC (i := 1) (v := NI c2) (vr (PQ n16 1) rfl) (vr (NI c2) rfl) hb31 (by rw [msg_len]; decide) wr11_isz3 rfl rfl fun w98 hb99 hg100 hs101 => ?_)))
 have hE0 := row_fresh hE0 hg100 (Nat.le_trans hz27 (by omega))
 have hb14 := kb hg100 hb14 (by omega)
 clear hb31
 have hb82 := kb hg100 hb82 (by omega)
 have hb := kb hg100 hb (by omega)
 have hb31 : w98.heap[n16]? = some (.cells (msgC ((⟨c1, ((c2 : Nat) : Int), [], [], [], 0, 0, zid, [], [], zid, zid, false, 0⟩, ⟨(Value.slice none 0 0), (Value.slice none 0 0), (Value.slice none 0 0), (Value.slice none 0 0)⟩) : MsgV)).toArray 29 (0, 0)) := blk_eq hb99 (msg_s1 ((⟨c1, 0, [], [], [], 0, 0, zid, [], [], zid, zid, false, 0⟩, ⟨(Value.slice none 0 0), (Value.slice none 0 0), (Value.slice none 0 0), (Value.slice none 0 0)⟩) : MsgV) ((c2 : Nat) : Int)); clear hb99
 have hl102 := bl hb31
 refine oZ ?_
 rcases kindsG_cases hK with ⟨hk, rfl⟩ | ⟨hk, rfl⟩ | ⟨hk, rfl⟩ | ⟨hk, rfl⟩ | ⟨hk, rfl⟩ | ⟨hk, rfl⟩ | ⟨hk, rfl⟩ | ⟨hk, rfl⟩
 ·have hD := decP_eq hP1 hK hP2
  rw [restP1 (m := (⟨c1, ((c2 : Nat) : Int), [], [], [], 0, 0, zid, [], [], zid, zid, false, 0⟩ : Msg)) hk] at hD
  refine tN (hK91 _ _ (sk fun K103 hK103 => (sk fun K104 hK104 => (wt (oS rfl (Yk.fieldAt wr11_fo92_0 T3 (oS rfl (Yk.cell1 wr11_ty4 rfl (vr (PQ n79 0) rfl) (cellAt hb82 (show (partsC (⟨false, false, false, false, false, false, false, false⟩ : Parts))[0]? = some (.bool (false) : Value) from parts_g0 (⟨false, false, false, false, false, false, false, false⟩ : Parts))) (oZ (tN (hK104 _ _ (wpF_false (vr (.bool (false)) rfl) (wpF_skip (tN (hK103 _ _ (sk fun K105 hK105 => (sk fun K106 hK106 => (wt (oS rfl (Yk.fieldAt wr11_fo92_1 T3 (oS rfl (Yk.cell1 wr11_ty4 rfl (vr (PQ n79 1) rfl) (cellAt hb82 (show (partsC (⟨false, false, false, false, false, false, false, false⟩ : Parts))[1]? = some (.bool (false) : Value) from parts_g1 (⟨false, false, false, false, false, false, false, false⟩ : Parts))) ?_))))))))))))))))))))))
  refine oZ (tN (hK106 _ _ (wpF_false (vr (.bool (false)) rfl) (wpF_skip (tN (hK105 _ _ (sk fun K107 hK107 => (sk fun K108 hK108 => (wt (oS rfl (Yk.fieldAt wr11_fo92_2 T3 (oS rfl (Yk.cell1 wr11_ty4 rfl (vr (PQ n79 2) rfl) (cellAt hb82 (show (partsC (⟨false, false, false, false, false, false, false, false⟩ : Parts))[2]? = some (.bool (false) : Value) from parts_g2 (⟨false, false, false, false, false, false, false, false⟩ : Parts))) (oZ (tN (hK108 _ _ (wpF_false (vr (.bool (false)) rfl) (wpF_skip (tN (hK107 _ _ (sk fun K109 hK109 => ?_)))))))))))))))))))))
  refine sk fun K110 hK110 => (wt (oS rfl (Yk.fieldAt wr11_fo92_3 T3 (oS rfl (Yk.cell1 wr11_ty4 rfl (vr (PQ n79 3) rfl) (cellAt hb82 (show (partsC (⟨false, false, false, false, false, false, false, false⟩ : Parts))[3]? = some (.bool (false) : Value) from parts_g3 (⟨false, false, false, false, false, false, false, false⟩ : Parts))) (oZ (tN (hK110 _ _ (wpF_false (vr (.bool (false)) rfl) (wpF_skip (tN (hK109 _ _ (sk fun K111 hK111 => (sk fun K112 hK112 => (wt (oS rfl (Yk.fieldAt wr11_fo92_4 T3 (oS rfl (Yk.cell1 wr11_ty4 rfl (vr (PQ n79 4) rfl) (cellAt hb82 (show (partsC (⟨false, false, false, false, false, false, false, false⟩ : Parts))[4]? = some (.bool (false) : Value) from parts_g4 (⟨false, false, false, false, false, false, false, false⟩ : Parts))) (oZ (tN (hK112 _ _ ?_))))))))))))))))))))))
  refine wpF_false (vr (.bool (false)) rfl) (wpF_skip (tN (hK111 _ _ (sk fun K113 hK113 => (sk fun K114 hK114 => (wt (oS rfl (Yk.fieldAt wr11_fo92_5 T3 (oS rfl (Yk.cell1 wr11_ty4 rfl (vr (PQ n79 5) rfl) (cellAt hb82 (show (partsC (⟨false, false, false, false, false, false, false, false⟩ : Parts))[5]? = some (.bool (false) : Value) from parts_g5 (⟨false, false, false, false, false, false, false, false⟩ : Parts))) (oZ (tN (hK114 _ _ (wpF_false (vr (.bool (false)) rfl) (wpF_skip (tN (hK113 _ _ (sk fun K115 hK115 => (sk fun K116 hK116 => (wt ?_))))))))))))))))))))
  refine oS rfl (Yk.fieldAt wr11_fo92_6 T3 (oS rfl (Yk.cell1 wr11_ty4 rfl (vr (PQ n79 6) rfl) (cellAt hb82 (show (partsC (⟨false, false, false, false, false, false, false, false⟩ : Parts))[6]? = some (.bool (false) : Value) from parts_g6 (⟨false, false, false, false, false, false, false, false⟩ : Parts))) (oZ (tN (hK116 _ _ (wpF_false (vr (.bool (false)) rfl) (wpF_skip (tN (hK115 _ _ (sk fun K117 hK117 => (sk fun K118 hK118 => (wt (oS rfl (Yk.fieldAt wr11_fo92_7 T3 (oS rfl (Yk.cell1 wr11_ty4 rfl (vr (PQ n79 7) rfl) (cellAt hb82 (show (partsC (⟨false, false, false, false, false, false, false, false⟩ : Parts))[7]? = some (.bool (false) : Value) from parts_g7 (⟨false, false, false, false, false, false, false, false⟩ : Parts))) (oZ ?_))))))))))))))))))
  have hMl : MsgLt (((⟨c1, ((c2 : Nat) : Int), [], [], [], 0, 0, zid, [], [], zid, zid, false, 0⟩, ⟨(Value.slice none 0 0), (Value.slice none 0 0), (Value.slice none 0 0), (Value.slice none 0 0)⟩) : MsgV) : MsgV).1 := ⟨by simp, fun u hu => (by cases hu), by simp, by simp, by simp⟩
  by_cases hj : j2 = b.length
  ·refine tN (hK118 _ _ (wpF_false (vr (.bool (false)) rfl) (wpF_skip (tN (hK117 _ _ (sk fun K119 hK119 => ?_))))))
   refine wpF_draw_endE 14 _ [Is (PQ r 0), Is (PQ r 0), Is (PQ r 1), Is (NI j2), Is (PQ r 0), Is (PQ r 0), Is (PQ r 0), Is (v), Is (NI b.length), Is (.bool (true)), Is (.bool (true)), Is (.agg (msgC ((⟨c1, ((c2 : Nat) : Int), [], [], [], 0, 0, zid, [], [], zid, zid, false, 0⟩, ⟨(Value.slice none 0 0), (Value.slice none 0 0), (Value.slice none 0 0), (Value.slice none 0 0)⟩) : MsgV)).toArray), Is (.bool (rightB (((⟨c1, ((c2 : Nat) : Int), [], [], [], 0, 0, zid, [], [], zid, zid, false, 0⟩, ⟨(Value.slice none 0 0), (Value.slice none 0 0), (Value.slice none 0 0), (Value.slice none 0 0)⟩) : MsgV) : MsgV).1)), Is (.bool (rightB (((⟨c1, ((c2 : Nat) : Int), [], [], [], 0, 0, zid, [], [], zid, zid, false, 0⟩, ⟨(Value.slice none 0 0), (Value.slice none 0 0), (Value.slice none 0 0), (Value.slice none 0 0)⟩) : MsgV) : MsgV).1))] (by kernel_rfl) [79, 80, 81, 82, 83, 84, 85, 86, 87, 88, 89, 90, 91, 92, 93] (by kernel_rfl) (by kernel_rfl) (by kernel_rfl) rfl rfl rfl (fun _ _ => trivial) (si2 (si12 trivial)) ?hs3027 ?hQ3027
   case hs3027 =>
    refine ⟨?_, ?_, ?_, ?_, ?_, ?_, ?_, ?_, ?_, ?_, ?_, ?_, ?_, ?_, ?_, trivial⟩
    ·refine stepFL (stepN rfl fun σ w1 hC h => ?_)
     have e1 := (eqo (h 1 (by decide))).trans T1
     exact Yk.cell1 wr11_ty109 rfl e1 (cellAt (eb hC hb14) (show _ = some (PQ r 0 : Value) from rfl)) ⟨Ext.refl _, rfl⟩
    ·refine stepFL (stepN rfl fun σ w1 hC h => ?_)
     have e79 := eqo (h 79 (by decide))
     exact Yk.nilCheck e79 ⟨Ext.refl _, rfl⟩
    ·refine stepFL (stepN rfl fun σ w1 hC h => ?_)
     have e80 := eqo (h 80 (by decide))
     exact Yk.fieldAt wr11_fo111_1 e80 ⟨Ext.refl _, rfl⟩
    ·refine stepFL (stepN rfl fun σ w1 hC h => ?_)
     have e81 := eqo (h 81 (by decide))
     exact Yk.cell1 wr11_ty3 rfl e81 (cellAt (eb hC hb) (show (rdC (rdX v b (j2)))[1]? = some (NI j2 : Value) from rd_g1 (rdX v b (j2)))) ⟨Ext.refl _, rfl⟩
    ·refine stepFL (stepN rfl fun σ w1 hC h => ?_)
     have e1 := (eqo (h 1 (by decide))).trans T1
     exact Yk.cell1 wr11_ty109 rfl e1 (cellAt (eb hC hb14) (show _ = some (PQ r 0 : Value) from rfl)) ⟨Ext.refl _, rfl⟩
    ·refine stepFL (stepN rfl fun σ w1 hC h => ?_)
     have e83 := eqo (h 83 (by decide))
     exact Yk.nilCheck e83 ⟨Ext.refl _, rfl⟩
    ·refine stepFL (stepN rfl fun σ w1 hC h => ?_)
     have e84 := eqo (h 84 (by decide))
     exact Yk.fieldAt wr11_fo111_0 e84 ⟨Ext.refl _, rfl⟩
    ·refine stepFL (stepN rfl fun σ w1 hC h => ?_)
     have e85 := eqo (h 85 (by decide))
     exact Yk.cell1 wr11_ty26 rfl e85 (cellAt (eb hC hb) (show (rdC (rdX v b (j2)))[0]? = some (v : Value) from rd_g0 (rdX v b (j2)))) ⟨Ext.refl _, rfl⟩
    ·refine stepFL (stepN rfl fun σ w1 hC h => ?_)
     have e86 := eqo (h 86 (by decide))
     exact Yk.lenRB wr11_ty26 (RB.of (hr.keep (hE0.trans hC)) e86) ⟨Ext.refl _, rfl⟩
    ·refine stepFL (stepN rfl fun σ w1 hC h => ?_)
     have e82 := eqo (h 82 (by decide))
     have e87 := eqo (h 87 (by decide))
     exact Yk.eqI (a := (j2 : Nat)) (b := (b.length : Nat)) e82 e87 (k_eql _ _ _ _) ⟨Ext.refl _, (congrArg Value.bool (decide_eq_true (hj)))⟩
    ·refine stepFL (stepN rfl fun σ w1 hC h => ?_)
     have e88 := eqo (h 88 (by decide))
     exact Yk.move e88 ⟨Ext.refl _, rfl⟩
    ·refine stepFL (stepY 10 true 89 rfl rfl (fun _ _ h => h) fun σ w1 hC h => ?_)
     have e2 := (eqo (h 2 (by decide))).trans T2
     exact Yk.loadAll e2 (eb hC hb31) (wr11_ty29).choose_spec rfl (st_isz (msg_len ((⟨c1, ((c2 : Nat) : Int), [], [], [], 0, 0, zid, [], [], zid, zid, false, 0⟩, ⟨(Value.slice none 0 0), (Value.slice none 0 0), (Value.slice none 0 0), (Value.slice none 0 0)⟩) : MsgV)) wr11_isz29) ⟨Ext.refl _, rfl⟩
    ·refine stepFL (stepY 10 true 89 rfl rfl (fun _ _ h => h) fun σ w1 hC h => ?_)
     have e90 := eqo (h 90 (by decide))
     refine Yk.callA1 wr11_pl19 e90 ((right_any _ ((⟨c1, ((c2 : Nat) : Int), [], [], [], 0, 0, zid, [], [], zid, zid, false, 0⟩, ⟨(Value.slice none 0 0), (Value.slice none 0 0), (Value.slice none 0 0), (Value.slice none 0 0)⟩) : MsgV) (MsgAt.mk (RG.nil _ _ _) (RG.nil _ _ _) (RG.nil _ _ _) (RB.nil _)) hMl).mono ?_)
     rintro e w2 ⟨rfl, hx⟩
     exact ⟨_, rfl, hx, rfl⟩
    ·refine stepFL (stepN rfl fun σ w1 hC h => ?_)
     have e89 := eqo (h 89 (by decide))
     have e91 := eqo (h 91 (by decide))
     exact Yk.pickT e89 e91 ⟨Ext.refl _, rfl⟩
    ·exact trivial
   intro ρ120 w121 hx122 he hf
   obtain ⟨-, -, -, -, -, -, -, -, -, -, -, -, -, k92, -⟩ := hf
   obtain ⟨T0, T1, T2, T3, T4, T22, T27, T35, T40, T45, T50, T56, T75, -⟩ := he.hold [(0, _), (1, _), (2, _), (3, _), (4, _), (22, .bool (false)), (27, .bool (false)), (35, .bool (false)), (40, .bool (false)), (45, .bool (false)), (50, .bool (false)), (56, .bool (false)), (75, .bool (false))] ⟨T0, T1, T2, T3, T15, rfl, rfl, rfl, rfl, rfl, rfl, rfl, rfl, trivial⟩ rfl
   clear he
   have hE0 := hE0.trans hx122
   have hb14 := eb hx122 hb14
   have hb82 := eb hx122 hb82
   have hb := eb hx122 hb
   have hb31 := eb hx122 hb31
   have T92 : ρ120 92 = .bool (rightB (((⟨c1, ((c2 : Nat) : Int), [], [], [], 0, 0, zid, [], [], zid, zid, false, 0⟩, ⟨(Value.slice none 0 0), (Value.slice none 0 0), (Value.slice none 0 0), (Value.slice none 0 0)⟩) : MsgV) : MsgV).1) := k92
   clear k92
   refine Yp.callA1 wr11_pl109 T92 ?_
   refine calls_either (needW_any _ (rightB (((⟨c1, ((c2 : Nat) : Int), [], [], [], 0, 0, zid, [], [], zid, zid, false, 0⟩, ⟨(Value.slice none 0 0), (Value.slice none 0 0), (Value.slice none 0 0), (Value.slice none 0 0)⟩) : MsgV) : MsgV).1)) ?_ ?_
   rotate_left
   ·
    rintro ch w125 ⟨rfl, hb, hx⟩
    refine thenF_panic (postP_panic ?_)
    exact .inr ⟨_, rfl, by rw [hD]; simp only [Option.bind_some]; refine if_neg ?_; rintro ⟨h1, h2⟩; exact Bool.noConfusion (h2.symm.trans hb), rfl, hE0.trans hx⟩
   rintro v_ w126 ⟨rfl, hb123, hx124⟩
   have hE0 := hE0.trans hx124
   have hb14 := eb hx124 hb14
   have hb82 := eb hx124 hb82
   have hb := eb hx124 hb
   have hb31 := eb hx124 hb31
   intro ρ127 hu128
   have T0 : ρ127 0 = (PQ r 0 : Value) := (hu128 0 (by decide)).trans T0
   have T1 : ρ127 1 = (PQ n2 0 : Value) := (hu128 1 (by decide)).trans T1
   have T2 : ρ127 2 = (PQ n16 0 : Value) := (hu128 2 (by decide)).trans T2
   have T3 : ρ127 3 = (PQ n79 0 : Value) := (hu128 3 (by decide)).trans T3
   have T4 : ρ127 4 = (.bool (true) : Value) := (hu128 4 (by decide)).trans T4
   have T22 : ρ127 22 = (.bool (false) : Value) := (hu128 22 (by decide)).trans T22
   have T27 : ρ127 27 = (.bool (false) : Value) := (hu128 27 (by decide)).trans T27
   have T35 : ρ127 35 = (.bool (false) : Value) := (hu128 35 (by decide)).trans T35
   have T40 : ρ127 40 = (.bool (false) : Value) := (hu128 40 (by decide)).trans T40
   have T45 : ρ127 45 = (.bool (false) : Value) := (hu128 45 (by decide)).trans T45
   have T50 : ρ127 50 = (.bool (false) : Value) := (hu128 50 (by decide)).trans T50
   have T56 : ρ127 56 = (.bool (false) : Value) := (hu128 56 (by decide)).trans T56
   have T75 : ρ127 75 = (.bool (false) : Value) := (hu128 75 (by decide)).trans T75
   refine tN (hK119 _ _ (sk fun K129 hK129 => (wt (oS rfl (Yk.loadAll T2 hb31 (wr11_ty29).choose_spec rfl (st_isz (msg_len ((⟨c1, ((c2 : Nat) : Int), [], [], [], 0, 0, zid, [], [], zid, zid, false, 0⟩, ⟨(Value.slice none 0 0), (Value.slice none 0 0), (Value.slice none 0 0), (Value.slice none 0 0)⟩) : MsgV)) wr11_isz29) (oS rfl (Yk.storeAll T2 (vr (.agg (msgC ((⟨c1, ((c2 : Nat) : Int), [], [], [], 0, 0, zid, [], [], zid, zid, false, 0⟩, ⟨(Value.slice none 0 0), (Value.slice none 0 0), (Value.slice none 0 0), (Value.slice none 0 0)⟩) : MsgV)).toArray) rfl) hb31 (by simp only [List.size_toArray, msg_len]) (st_isz (msg_len _) wr11_isz29) (msg_one (x := ((⟨c1, ((c2 : Nat) : Int), [], [], [], 0, 0, zid, [], [], zid, zid, false, 0⟩, ⟨(Value.slice none 0 0), (Value.slice none 0 0), (Value.slice none 0 0), (Value.slice none 0 0)⟩) : MsgV)) rfl rfl rfl rfl) fun w130 hb131 hg132 hs133 => ?_)))))))
   have hE0 := row_fresh hE0 hg132 (Nat.le_trans hz27 (by omega))
   have hb14 := kb hg132 hb14 (by omega)
   have hb82 := kb hg132 hb82 (by omega)
   have hb := kb hg132 hb (by omega)
   clear hb31
   have hb31 : w130.heap[n16]? = some (.cells (msgC ((⟨c1, ((c2 : Nat) : Int), [], [], [], 0, 0, zid, [], [], zid, zid, false, 0⟩, ⟨(Value.slice none 0 0), (Value.slice none 0 0), (Value.slice none 0 0), (Value.slice none 0 0)⟩) : MsgV)).toArray 29 (0, 0)) := hb131; clear hb131
   have hl134 := bl hb31
   refine oZ (tN (hK129 _ _ (wpF_ret (postP_ret (fn := Tryd.f67) _ rfl [.agg (msgC ((⟨c1, ((c2 : Nat) : Int), [], [], [], 0, 0, zid, [], [], zid, zid, false, 0⟩, ⟨(Value.slice none 0 0), (Value.slice none 0 0), (Value.slice none 0 0), (Value.slice none 0 0)⟩) : MsgV)).toArray] (.agg (msgC ((⟨c1, ((c2 : Nat) : Int), [], [], [], 0, 0, zid, [], [], zid, zid, false, 0⟩, ⟨(Value.slice none 0 0), (Value.slice none 0 0), (Value.slice none 0 0), (Value.slice none 0 0)⟩) : MsgV)).toArray) rfl ⟨ResF.row T2 hb31 (wr11_ty29).choose_spec rfl (st_isz (msg_len _) wr11_isz29), trivial⟩ ?_))))
   exact .inl ⟨_, rfl, ((⟨c1, ((c2 : Nat) : Int), [], [], [], 0, 0, zid, [], [], zid, zid, false, 0⟩, ⟨(Value.slice none 0 0), (Value.slice none 0 0), (Value.slice none 0 0), (Value.slice none 0 0)⟩) : MsgV), by rw [hD]; simp only [Option.bind_some]; refine if_pos ?_; exact ⟨hj, hb123⟩, rfl, (MsgAt.mk (RG.nil _ _ _) (RG.nil _ _ _) (RG.nil _ _ _) (RB.nil _)), ⟨(fun k h => by cases h), (fun k h => by cases h), (fun k h => by cases h), (fun k h => by cases h)⟩, hE0⟩
  refine tN (hK118 _ _ (wpF_false (vr (.bool (false)) rfl) (wpF_skip (tN (hK117 _ _ (sk fun K135 hK135 => ?_))))))
  refine wpF_draw_endE 14 _ [Is (PQ r 0), Is (PQ r 0), Is (PQ r 1), Is (NI j2), Is (PQ r 0), Is (PQ r 0), Is (PQ r 0), Is (v), Is (NI b.length), Is (.bool (false)), Is (.bool (false)), Is undef, Is undef, Is (.bool (false))] (by kernel_rfl) [79, 80, 81, 82, 83, 84, 85, 86, 87, 88, 89, 90, 91, 92, 93] (by kernel_rfl) (by kernel_rfl) (by kernel_rfl) rfl rfl rfl (fun _ _ => trivial) (si2 (si12 trivial)) ?hs4027 ?hQ4027
  case hs4027 =>
   refine ⟨?_, ?_, ?_, ?_, ?_, ?_, ?_, ?_, ?_, ?_, ?_, ?_, ?_, ?_, ?_, trivial⟩
   ·refine stepFL (stepN rfl fun σ w1 hC h => ?_)
    have e1 := (eqo (h 1 (by decide))).trans T1
    exact Yk.cell1 wr11_ty109 rfl e1 (cellAt (eb hC hb14) (show _ = some (PQ r 0 : Value) from rfl)) ⟨Ext.refl _, rfl⟩
   ·refine stepFL (stepN rfl fun σ w1 hC h => ?_)
    have e79 := eqo (h 79 (by decide))
    exact Yk.nilCheck e79 ⟨Ext.refl _, rfl⟩
   ·refine stepFL (stepN rfl fun σ w1 hC h => ?_)
    have e80 := eqo (h 80 (by decide))
    exact Yk.fieldAt wr11_fo111_1 e80 ⟨Ext.refl _, rfl⟩
   ·refine stepFL (stepN rfl fun σ w1 hC h => ?_)
    have e81 := eqo (h 81 (by decide))
    exact Yk.cell1 wr11_ty3 rfl e81 (cellAt (eb hC hb) (show (rdC (rdX v b (j2)))[1]? = some (NI j2 : Value) from rd_g1 (rdX v b (j2)))) ⟨Ext.refl _, rfl⟩
   ·refine stepFL (stepN rfl fun σ w1 hC h => ?_)
    have e1 := (eqo (h 1 (by decide))).trans T1
    exact Yk.cell1 wr11_ty109 rfl e1 (cellAt (eb hC hb14) (show _ = some (PQ r 0 : Value) from rfl)) ⟨Ext.refl _, rfl⟩
   ·refine stepFL (stepN rfl fun σ w1 hC h => ?_)
    have e83 := eqo (h 83 (by decide))
    exact Yk.nilCheck e83 ⟨Ext.refl _, rfl⟩
   ·refine stepFL (stepN rfl fun σ w1 hC h => ?_)
    have e84 := eqo (h 84 (by decide))
    exact Yk.fieldAt wr11_fo111_0 e84 ⟨Ext.refl _, rfl⟩
   ·refine stepFL (stepN rfl fun σ w1 hC h => ?_)
    have e85 := eqo (h 85 (by decide))
    exact Yk.cell1 wr11_ty26 rfl e85 (cellAt (eb hC hb) (show (rdC (rdX v b (j2)))[0]? = some (v : Value) from rd_g0 (rdX v b (j2)))) ⟨Ext.refl _, rfl⟩
   ·refine stepFL (stepN rfl fun σ w1 hC h => ?_)
    have e86 := eqo (h 86 (by decide))
    exact Yk.lenRB wr11_ty26 (RB.of (hr.keep (hE0.trans hC)) e86) ⟨Ext.refl _, rfl⟩
   ·refine stepFL (stepN rfl fun σ w1 hC h => ?_)
    have e82 := eqo (h 82 (by decide))
    have e87 := eqo (h 87 (by decide))
    exact Yk.eqI (a := (j2 : Nat)) (b := (b.length : Nat)) e82 e87 (k_eql _ _ _ _) ⟨Ext.refl _, (congrArg Value.bool (decide_eq_false (hj)))⟩
   ·refine stepFL (stepN rfl fun σ w1 hC h => ?_)
    have e88 := eqo (h 88 (by decide))
    exact Yk.move e88 ⟨Ext.refl _, rfl⟩
   ·refine stepFL (stepX 10 true 89 rfl rfl (fun x _ (h : x = .bool false) => by rw [h]; intro h; cases h) fun _ => rfl)
   ·refine stepFL (stepX 10 true 89 rfl rfl (fun x _ (h : x = .bool false) => by rw [h]; intro h; cases h) fun _ => rfl)
   ·refine stepFL (stepN rfl fun σ w1 hC h => ?_)
    have e89 := eqo (h 89 (by decide))
    exact Yk.pickF e89 (vr (.bool (false)) rfl) ⟨Ext.refl _, rfl⟩
   ·exact trivial
  intro ρ136 w137 hx138 he hf
  obtain ⟨-, -, -, -, -, -, -, -, -, -, -, -, -, k92, -⟩ := hf
  obtain ⟨T0, T1, T2, T3, T4, T22, T27, T35, T40, T45, T50, T56, T75, -⟩ := he.hold [(0, _), (1, _), (2, _), (3, _), (4, _), (22, .bool (false)), (27, .bool (false)), (35, .bool (false)), (40, .bool (false)), (45, .bool (false)), (50, .bool (false)), (56, .bool (false)), (75, .bool (false))] ⟨T0, T1, T2, T3, T15, rfl, rfl, rfl, rfl, rfl, rfl, rfl, rfl, trivial⟩ rfl
  clear he
  have hE0 := hE0.trans hx138
  have hb14 := eb hx138 hb14
  have hb82 := eb hx138 hb82
  have hb := eb hx138 hb
  have hb31 := eb hx138 hb31
  have T92 : ρ136 92 = .bool (false) := k92
  clear k92
  refine Yp.callA1 wr11_pl109 T92 ?_
  refine calls_either (needW_any _ (false)) ?_ ?_
  rotate_left
  ·
   rintro ch w141 ⟨rfl, hb, hx⟩
   refine thenF_panic (postP_panic ?_)
   exact .inr ⟨_, rfl, by rw [hD]; simp only [Option.bind_some]; refine if_neg ?_; rintro ⟨h1, h2⟩; exact hj h1, rfl, hE0.trans hx⟩
  rintro v_ w142 ⟨rfl, hb139, hx140⟩
  cases hb139
 ·have hD := decP_eq hP1 hK hP2
  rw [restP2 (m := (⟨c1, ((c2 : Nat) : Int), [], [], [], 0, 0, zid, [], [], zid, zid, false, 0⟩ : Msg)) hk] at hD
  refine tN (hK91 _ _ (sk fun K143 hK143 => (sk fun K144 hK144 => (wt (oS rfl (Yk.fieldAt wr11_fo92_0 T3 (oS rfl (Yk.cell1 wr11_ty4 rfl (vr (PQ n79 0) rfl) (cellAt hb82 (show (partsC (⟨true, false, false, false, false, false, false, false⟩ : Parts))[0]? = some (.bool (true) : Value) from parts_g0 (⟨true, false, false, false, false, false, false, false⟩ : Parts))) (oZ (tN (hK144 _ _ (wpF_true (vr (.bool (true)) rfl) (wt (oS rfl (Yk.cell1 wr11_ty109 rfl T1 (cellAt hb14 (show _ = some (PQ r 0 : Value) from rfl)) (oS rfl (Yk.mkFunc (vs := #[PQ n2 0, PQ n16 0]) (by simp only [List.map_toArray, List.map_cons, List.map_nil]; exact congrArg List.toArray (list2 T1 T2)) ?_)))))))))))))))))
  have hC1 : RC w0 r n16 n2 n79 v b := ⟨hr, lr, by omega, by omega, by omega, by omega, by omega, by omega, by omega, by omega, by omega, hl⟩
  refine oP rfl (Yp.callA3 wr11_pl111 (vr (PQ r 0) rfl) (vr (NI 128) rfl) (vr (.func (.func 112) #[] #[PQ n2 0, PQ n16 0]) rfl) ?_)
  refine calls_either (reads1_any hC1 (⟨hb, hb31, hb14, hb82, hE0, hle_j2⟩ : RS w0 r n16 n2 n79 v b (⟨true, false, false, false, false, false, false, false⟩ : Parts) _ j2 ((⟨c1, ((c2 : Nat) : Int), [], [], [], 0, 0, zid, [], [], zid, zid, false, 0⟩, ⟨(Value.slice none 0 0), (Value.slice none 0 0), (Value.slice none 0 0), (Value.slice none 0 0)⟩) : MsgV)) rfl (OG.nil _ _ _ _ _) ⟨(fun h => by cases h), (fun h => by cases h), (fun h => by cases h), (fun h => by cases h)⟩) ?_ ?_
  rotate_left
  ·
   rintro ch w145 ⟨hPx, rfl, hgx⟩
   refine thenF_panic (postP_panic ?_)
   exact .inr ⟨_, rfl, by rw [hD]; simp only [hPx, Option.bind_some, Option.bind_none], rfl, hgx⟩
  rintro v_ w147 ⟨rfl, l1, i1, u1, hPb1, hS1, ho1, ap_u1⟩
  obtain ⟨hb, hbm, hbg, hbn, hE0, hle_i1⟩ := hS1
  have hl148 := bl hb
  have hl149 := bl hbm
  have hl150 := bl hbg
  have hl151 := bl hbn
  refine oZ (tN (hK143 _ _ (sk fun K152 hK152 => (sk fun K153 hK153 => (wt (oS rfl (Yk.fieldAt wr11_fo92_1 T3 (oS rfl (Yk.cell1 wr11_ty4 rfl (vr (PQ n79 1) rfl) (cellAt hbn (show (partsC (⟨true, false, false, false, false, false, false, false⟩ : Parts))[1]? = some (.bool (false) : Value) from parts_g1 (⟨true, false, false, false, false, false, false, false⟩ : Parts))) (oZ (tN (hK153 _ _ (wpF_false (vr (.bool (false)) rfl) (wpF_skip (tN (hK152 _ _ (sk fun K154 hK154 => (sk fun K155 hK155 => (wt (oS rfl (Yk.fieldAt wr11_fo92_2 T3 ?_)))))))))))))))))))))
  refine oS rfl (Yk.cell1 wr11_ty4 rfl (vr (PQ n79 2) rfl) (cellAt hbn (show (partsC (⟨true, false, false, false, false, false, false, false⟩ : Parts))[2]? = some (.bool (false) : Value) from parts_g2 (⟨true, false, false, false, false, false, false, false⟩ : Parts))) (oZ (tN (hK155 _ _ (wpF_false (vr (.bool (false)) rfl) (wpF_skip (tN (hK154 _ _ (sk fun K156 hK156 => (sk fun K157 hK157 => (wt (oS rfl (Yk.fieldAt wr11_fo92_3 T3 (oS rfl (Yk.cell1 wr11_ty4 rfl (vr (PQ n79 3) rfl) (cellAt hbn (show (partsC (⟨true, false, false, false, false, false, false, false⟩ : Parts))[3]? = some (.bool (false) : Value) from parts_g3 (⟨true, false, false, false, false, false, false, false⟩ : Parts))) (oZ (tN (hK157 _ _ (wpF_false (vr (.bool (false)) rfl) (wpF_skip (tN (hK156 _ _ ?_))))))))))))))))))))))
  refine sk fun K158 hK158 => (sk fun K159 hK159 => (wt (oS rfl (Yk.fieldAt wr11_fo92_4 T3 (oS rfl (Yk.cell1 wr11_ty4 rfl (vr (PQ n79 4) rfl) (cellAt hbn (show (partsC (⟨true, false, false, false, false, false, false, false⟩ : Parts))[4]? = some (.bool (false) : Value) from parts_g4 (⟨true, false, false, false, false, false, false, false⟩ : Parts))) (oZ (tN (hK159 _ _ (wpF_false (vr (.bool (false)) rfl) (wpF_skip (tN (hK158 _ _ (sk fun K160 hK160 => (sk fun K161 hK161 => (wt (oS rfl (Yk.fieldAt wr11_fo92_5 T3 (oS rfl (Yk.cell1 wr11_ty4 rfl (vr (PQ n79 5) rfl) (cellAt hbn (show (partsC (⟨true, false, false, false, false, false, false, false⟩ : Parts))[5]? = some (.bool (false) : Value) from parts_g5 (⟨true, false, false, false, false, false, false, false⟩ : Parts))) (oZ ?_)))))))))))))))))))))
  refine tN (hK161 _ _ (wpF_false (vr (.bool (false)) rfl) (wpF_skip (tN (hK160 _ _ (sk fun K162 hK162 => (sk fun K163 hK163 => (wt (oS rfl (Yk.fieldAt wr11_fo92_6 T3 (oS rfl (Yk.cell1 wr11_ty4 rfl (vr (PQ n79 6) rfl) (cellAt hbn (show (partsC (⟨true, false, false, false, false, false, false, false⟩ : Parts))[6]? = some (.bool (false) : Value) from parts_g6 (⟨true, false, false, false, false, false, false, false⟩ : Parts))) (oZ (tN (hK163 _ _ (wpF_false (vr (.bool (false)) rfl) (wpF_skip (tN (hK162 _ _ (sk fun K164 hK164 => (sk fun K165 hK165 => ?_)))))))))))))))))))))
  refine wt (oS rfl (Yk.fieldAt wr11_fo92_7 T3 (oS rfl (Yk.cell1 wr11_ty4 rfl (vr (PQ n79 7) rfl) (cellAt hbn (show (partsC (⟨true, false, false, false, false, false, false, false⟩ : Parts))[7]? = some (.bool (false) : Value) from parts_g7 (⟨true, false, false, false, false, false, false, false⟩ : Parts))) (oZ ?_)))))
  have hMl : MsgLt (((⟨c1, ((c2 : Nat) : Int), l1, [], [], 0, 0, zid, [], [], zid, zid, false, 0⟩, ⟨u1, (Value.slice none 0 0), (Value.slice none 0 0), (Value.slice none 0 0)⟩) : MsgV) : MsgV).1 := ⟨by have := (updsP_lt hPb1).1; simp only at this ⊢; omega, fun u hu => by have := (updsP_lt hPb1).2 u hu; omega, by simp, by simp, by simp⟩
  by_cases hj : i1 = b.length
  ·refine tN (hK165 _ _ (wpF_false (vr (.bool (false)) rfl) (wpF_skip (tN (hK164 _ _ (sk fun K166 hK166 => ?_))))))
   refine wpF_draw_endE 14 _ [Is (PQ r 0), Is (PQ r 0), Is (PQ r 1), Is (NI i1), Is (PQ r 0), Is (PQ r 0), Is (PQ r 0), Is (v), Is (NI b.length), Is (.bool (true)), Is (.bool (true)), Is (.agg (msgC ((⟨c1, ((c2 : Nat) : Int), l1, [], [], 0, 0, zid, [], [], zid, zid, false, 0⟩, ⟨u1, (Value.slice none 0 0), (Value.slice none 0 0), (Value.slice none 0 0)⟩) : MsgV)).toArray), Is (.bool (rightB (((⟨c1, ((c2 : Nat) : Int), l1, [], [], 0, 0, zid, [], [], zid, zid, false, 0⟩, ⟨u1, (Value.slice none 0 0), (Value.slice none 0 0), (Value.slice none 0 0)⟩) : MsgV) : MsgV).1)), Is (.bool (rightB (((⟨c1, ((c2 : Nat) : Int), l1, [], [], 0, 0, zid, [], [], zid, zid, false, 0⟩, ⟨u1, (Value.slice none 0 0), (Value.slice none 0 0), (Value.slice none 0 0)⟩) : MsgV) : MsgV).1))] (by kernel_rfl) [79, 80, 81, 82, 83, 84, 85, 86, 87, 88, 89, 90, 91, 92, 93] (by kernel_rfl) (by kernel_rfl) (by kernel_rfl) rfl rfl rfl (fun _ _ => trivial) (si2 (si12 trivial)) ?hs5027 ?hQ5027
   case hs5027 =>
    refine ⟨?_, ?_, ?_, ?_, ?_, ?_, ?_, ?_, ?_, ?_, ?_, ?_, ?_, ?_, ?_, trivial⟩
    ·refine stepFL (stepN rfl fun σ w1 hC h => ?_)
     have e1 := (eqo (h 1 (by decide))).trans T1
     exact Yk.cell1 wr11_ty109 rfl e1 (cellAt (eb hC hbg) (show _ = some (PQ r 0 : Value) from rfl)) ⟨Ext.refl _, rfl⟩
    ·refine stepFL (stepN rfl fun σ w1 hC h => ?_)
     have e79 := eqo (h 79 (by decide))
     exact Yk.nilCheck e79 ⟨Ext.refl _, rfl⟩
    ·refine stepFL (stepN rfl fun σ w1 hC h => ?_)
     have e80 := eqo (h 80 (by decide))
     exact Yk.fieldAt wr11_fo111_1 e80 ⟨Ext.refl _, rfl⟩
    ·refine stepFL (stepN rfl fun σ w1 hC h => ?_)
     have e81 := eqo (h 81 (by decide))
     exact Yk.cell1 wr11_ty3 rfl e81 (cellAt (eb hC hb) (show (rdC (rdX v b (i1)))[1]? = some (NI i1 : Value) from rd_g1 (rdX v b (i1)))) ⟨Ext.refl _, rfl⟩
    ·refine stepFL (stepN rfl fun σ w1 hC h => ?_)
     have e1 := (eqo (h 1 (by decide))).trans T1
     exact Yk.cell1 wr11_ty109 rfl e1 (cellAt (eb hC hbg) (show _ = some (PQ r 0 : Value) from rfl)) ⟨Ext.refl _, rfl⟩
    ·refine stepFL (stepN rfl fun σ w1 hC h => ?_)
     have e83 := eqo (h 83 (by decide))
     exact Yk.nilCheck e83 ⟨Ext.refl _, rfl⟩
    ·refine stepFL (stepN rfl fun σ w1 hC h => ?_)
     have e84 := eqo (h 84 (by decide))
     exact Yk.fieldAt wr11_fo111_0 e84 ⟨Ext.refl _, rfl⟩
    ·refine stepFL (stepN rfl fun σ w1 hC h => ?_)
     have e85 := eqo (h 85 (by decide))
     exact Yk.cell1 wr11_ty26 rfl e85 (cellAt (eb hC hb) (show (rdC (rdX v b (i1)))[0]? = some (v : Value) from rd_g0 (rdX v b (i1)))) ⟨Ext.refl _, rfl⟩
    ·refine stepFL (stepN rfl fun σ w1 hC h => ?_)
     have e86 := eqo (h 86 (by decide))
     exact Yk.lenRB wr11_ty26 (RB.of (hr.keep (hE0.trans hC)) e86) ⟨Ext.refl _, rfl⟩
    ·refine stepFL (stepN rfl fun σ w1 hC h => ?_)
     have e82 := eqo (h 82 (by decide))
     have e87 := eqo (h 87 (by decide))
     exact Yk.eqI (a := (i1 : Nat)) (b := (b.length : Nat)) e82 e87 (k_eql _ _ _ _) ⟨Ext.refl _, (congrArg Value.bool (decide_eq_true (hj)))⟩
    ·refine stepFL (stepN rfl fun σ w1 hC h => ?_)
     have e88 := eqo (h 88 (by decide))
     exact Yk.move e88 ⟨Ext.refl _, rfl⟩
    ·refine stepFL (stepY 10 true 89 rfl rfl (fun _ _ h => h) fun σ w1 hC h => ?_)
     have e2 := (eqo (h 2 (by decide))).trans T2
     exact Yk.loadAll e2 (eb hC hbm) (wr11_ty29).choose_spec rfl (st_isz (msg_len ((⟨c1, ((c2 : Nat) : Int), l1, [], [], 0, 0, zid, [], [], zid, zid, false, 0⟩, ⟨u1, (Value.slice none 0 0), (Value.slice none 0 0), (Value.slice none 0 0)⟩) : MsgV)) wr11_isz29) ⟨Ext.refl _, rfl⟩
    ·refine stepFL (stepY 10 true 89 rfl rfl (fun _ _ h => h) fun σ w1 hC h => ?_)
     have e90 := eqo (h 90 (by decide))
     refine Yk.callA1 wr11_pl19 e90 ((right_any _ ((⟨c1, ((c2 : Nat) : Int), l1, [], [], 0, 0, zid, [], [], zid, zid, false, 0⟩, ⟨u1, (Value.slice none 0 0), (Value.slice none 0 0), (Value.slice none 0 0)⟩) : MsgV) (MsgAt.mk (RG.ofOwn (ho1.keep hC)) (RG.nil _ _ _) (RG.nil _ _ _) (RB.nil _)) hMl).mono ?_)
     rintro e w2 ⟨rfl, hx⟩
     exact ⟨_, rfl, hx, rfl⟩
    ·refine stepFL (stepN rfl fun σ w1 hC h => ?_)
     have e89 := eqo (h 89 (by decide))
     have e91 := eqo (h 91 (by decide))
     exact Yk.pickT e89 e91 ⟨Ext.refl _, rfl⟩
    ·exact trivial
   intro ρ167 w168 hx169 he hf
   obtain ⟨-, -, -, -, -, -, -, -, -, -, -, -, -, k92, -⟩ := hf
   obtain ⟨T0, T1, T2, T3, T4, T22, T27, T35, T40, T45, T50, T56, T75, -⟩ := he.hold [(0, _), (1, _), (2, _), (3, _), (4, _), (22, .bool (true)), (27, .bool (false)), (35, .bool (false)), (40, .bool (false)), (45, .bool (false)), (50, .bool (false)), (56, .bool (false)), (75, .bool (false))] ⟨T0, T1, T2, T3, T15, rfl, rfl, rfl, rfl, rfl, rfl, rfl, rfl, trivial⟩ rfl
   clear he
   have hE0 := hE0.trans hx169
   have hb := eb hx169 hb
   have hbm := eb hx169 hbm
   have hbg := eb hx169 hbg
   have hbn := eb hx169 hbn
   have ho1 := ho1.keep hx169
   have T92 : ρ167 92 = .bool (rightB (((⟨c1, ((c2 : Nat) : Int), l1, [], [], 0, 0, zid, [], [], zid, zid, false, 0⟩, ⟨u1, (Value.slice none 0 0), (Value.slice none 0 0), (Value.slice none 0 0)⟩) : MsgV) : MsgV).1) := k92
   clear k92
   refine Yp.callA1 wr11_pl109 T92 ?_
   refine calls_either (needW_any _ (rightB (((⟨c1, ((c2 : Nat) : Int), l1, [], [], 0, 0, zid, [], [], zid, zid, false, 0⟩, ⟨u1, (Value.slice none 0 0), (Value.slice none 0 0), (Value.slice none 0 0)⟩) : MsgV) : MsgV).1)) ?_ ?_
   rotate_left
   ·
    rintro ch w172 ⟨rfl, hb, hx⟩
    refine thenF_panic (postP_panic ?_)
    exact .inr ⟨_, rfl, by rw [hD]; simp only [hPb1, Option.bind_some]; refine if_neg ?_; rintro ⟨h1, h2⟩; exact Bool.noConfusion (h2.symm.trans hb), rfl, hE0.trans hx⟩
   rintro v_ w173 ⟨rfl, hb170, hx171⟩
   have hE0 := hE0.trans hx171
   have hb := eb hx171 hb
   have hbm := eb hx171 hbm
   have hbg := eb hx171 hbg
   have hbn := eb hx171 hbn
   have ho1 := ho1.keep hx171
   intro ρ174 hu175
   have T0 : ρ174 0 = (PQ r 0 : Value) := (hu175 0 (by decide)).trans T0
   have T1 : ρ174 1 = (PQ n2 0 : Value) := (hu175 1 (by decide)).trans T1
   have T2 : ρ174 2 = (PQ n16 0 : Value) := (hu175 2 (by decide)).trans T2
   have T3 : ρ174 3 = (PQ n79 0 : Value) := (hu175 3 (by decide)).trans T3
   have T4 : ρ174 4 = (.bool (true) : Value) := (hu175 4 (by decide)).trans T4
   have T22 : ρ174 22 = (.bool (true) : Value) := (hu175 22 (by decide)).trans T22
   have T27 : ρ174 27 = (.bool (false) : Value) := (hu175 27 (by decide)).trans T27
   have T35 : ρ174 35 = (.bool (false) : Value) := (hu175 35 (by decide)).trans T35
   have T40 : ρ174 40 = (.bool (false) : Value) := (hu175 40 (by decide)).trans T40
   have T45 : ρ174 45 = (.bool (false) : Value) := (hu175 45 (by decide)).trans T45
   have T50 : ρ174 50 = (.bool (false) : Value) := (hu175 50 (by decide)).trans T50
   have T56 : ρ174 56 = (.bool (false) : Value) := (hu175 56 (by decide)).trans T56
   have T75 : ρ174 75 = (.bool (false) : Value) := (hu175 75 (by decide)).trans T75
   refine tN (hK166 _ _ (sk fun K176 hK176 => (wt (oS rfl (Yk.loadAll T2 hbm (wr11_ty29).choose_spec rfl (st_isz (msg_len ((⟨c1, ((c2 : Nat) : Int), l1, [], [], 0, 0, zid, [], [], zid, zid, false, 0⟩, ⟨u1, (Value.slice none 0 0), (Value.slice none 0 0), (Value.slice none 0 0)⟩) : MsgV)) wr11_isz29) (oS rfl (Yk.storeAll T2 (vr (.agg (msgC ((⟨c1, ((c2 : Nat) : Int), l1, [], [], 0, 0, zid, [], [], zid, zid, false, 0⟩, ⟨u1, (Value.slice none 0 0), (Value.slice none 0 0), (Value.slice none 0 0)⟩) : MsgV)).toArray) rfl) hbm (by simp only [List.size_toArray, msg_len]) (st_isz (msg_len _) wr11_isz29) (msg_one (x := ((⟨c1, ((c2 : Nat) : Int), l1, [], [], 0, 0, zid, [], [], zid, zid, false, 0⟩, ⟨u1, (Value.slice none 0 0), (Value.slice none 0 0), (Value.slice none 0 0)⟩) : MsgV)) (RG.one (RG.ofOwn ho1)).2 rfl rfl rfl) fun w177 hb178 hg179 hs180 => ?_)))))))
   have hE0 := row_fresh hE0 hg179 (Nat.le_trans (Nat.le_refl _) (by omega))
   have hb := kb hg179 hb (by omega)
   clear hbm
   have hbg := kb hg179 hbg (by omega)
   have hbn := kb hg179 hbn (by omega)
   have ho1 := OG.kept ho1 hg179 ap_u1.m
   have hbm : w177.heap[n16]? = some (.cells (msgC ((⟨c1, ((c2 : Nat) : Int), l1, [], [], 0, 0, zid, [], [], zid, zid, false, 0⟩, ⟨u1, (Value.slice none 0 0), (Value.slice none 0 0), (Value.slice none 0 0)⟩) : MsgV)).toArray 29 (0, 0)) := hb178; clear hb178
   have hl181 := bl hbm
   refine oZ (tN (hK176 _ _ (wpF_ret (postP_ret (fn := Tryd.f67) _ rfl [.agg (msgC ((⟨c1, ((c2 : Nat) : Int), l1, [], [], 0, 0, zid, [], [], zid, zid, false, 0⟩, ⟨u1, (Value.slice none 0 0), (Value.slice none 0 0), (Value.slice none 0 0)⟩) : MsgV)).toArray] (.agg (msgC ((⟨c1, ((c2 : Nat) : Int), l1, [], [], 0, 0, zid, [], [], zid, zid, false, 0⟩, ⟨u1, (Value.slice none 0 0), (Value.slice none 0 0), (Value.slice none 0 0)⟩) : MsgV)).toArray) rfl ⟨ResF.row T2 hbm (wr11_ty29).choose_spec rfl (st_isz (msg_len _) wr11_isz29), trivial⟩ ?_))))
   exact .inl ⟨_, rfl, ((⟨c1, ((c2 : Nat) : Int), l1, [], [], 0, 0, zid, [], [], zid, zid, false, 0⟩, ⟨u1, (Value.slice none 0 0), (Value.slice none 0 0), (Value.slice none 0 0)⟩) : MsgV), by rw [hD]; simp only [hPb1, Option.bind_some]; refine if_pos ?_; exact ⟨hj, hb170⟩, rfl, (MsgAt.mk (RG.ofOwn ho1) (RG.nil _ _ _) (RG.nil _ _ _) (RB.nil _)), ⟨(fun k h => (ho1.2.lt k h).1), (fun k h => by cases h), (fun k h => by cases h), (fun k h => by cases h)⟩, hE0⟩
  refine tN (hK165 _ _ (wpF_false (vr (.bool (false)) rfl) (wpF_skip (tN (hK164 _ _ (sk fun K182 hK182 => ?_))))))
  refine wpF_draw_endE 14 _ [Is (PQ r 0), Is (PQ r 0), Is (PQ r 1), Is (NI i1), Is (PQ r 0), Is (PQ r 0), Is (PQ r 0), Is (v), Is (NI b.length), Is (.bool (false)), Is (.bool (false)), Is undef, Is undef, Is (.bool (false))] (by kernel_rfl) [79, 80, 81, 82, 83, 84, 85, 86, 87, 88, 89, 90, 91, 92, 93] (by kernel_rfl) (by kernel_rfl) (by kernel_rfl) rfl rfl rfl (fun _ _ => trivial) (si2 (si12 trivial)) ?hs6027 ?hQ6027
  case hs6027 =>
   refine ⟨?_, ?_, ?_, ?_, ?_, ?_, ?_, ?_, ?_, ?_, ?_, ?_, ?_, ?_, ?_, trivial⟩
   ·refine stepFL (stepN rfl fun σ w1 hC h => ?_)
    have e1 := (eqo (h 1 (by decide))).trans T1
    exact Yk.cell1 wr11_ty109 rfl e1 (cellAt (eb hC hbg) (show _ = some (PQ r 0 : Value) from rfl)) ⟨Ext.refl _, rfl⟩
   ·refine stepFL (stepN rfl fun σ w1 hC h => ?_)
    have e79 := eqo (h 79 (by decide))
    exact Yk.nilCheck e79 ⟨Ext.refl _, rfl⟩
   ·refine stepFL (stepN rfl fun σ w1 hC h => ?_)
    have e80 := eqo (h 80 (by decide))
    exact Yk.fieldAt wr11_fo111_1 e80 ⟨Ext.refl _, rfl⟩
   ·refine stepFL (stepN rfl fun σ w1 hC h => ?_)
    have e81 := eqo (h 81 (by decide))
    exact Yk.cell1 wr11_ty3 rfl e81 (cellAt (eb hC hb) (show (rdC (rdX v b (i1)))[1]? = some (NI i1 : Value) from rd_g1 (rdX v b (i1)))) ⟨Ext.refl _, rfl⟩
   ·refine stepFL (stepN rfl fun σ w1 hC h => ?_)
    have e1 := (eqo (h 1 (by decide))).trans T1
    exact Yk.cell1 wr11_ty109 rfl e1 (cellAt (eb hC hbg) (show _ = some (PQ r 0 : Value) from rfl)) ⟨Ext.refl _, rfl⟩
   ·refine stepFL (stepN rfl fun σ w1 hC h => ?_)
    have e83 := eqo (h 83 (by decide))
    exact Yk.nilCheck e83 ⟨Ext.refl _, rfl⟩
   ·refine stepFL (stepN rfl fun σ w1 hC h => ?_)
    have e84 := eqo (h 84 (by decide))
    exact Yk.fieldAt wr11_fo111_0 e84 ⟨Ext.refl _, rfl⟩
   ·refine stepFL (stepN rfl fun σ w1 hC h => ?_)
    have e85 := eqo (h 85 (by decide))
    exact Yk.cell1 wr11_ty26 rfl e85 (cellAt (eb hC hb) (show (rdC (rdX v b (i1)))[0]? = some (v : Value) from rd_g0 (rdX v b (i1)))) ⟨Ext.refl _, rfl⟩
   ·refine stepFL (stepN rfl fun σ w1 hC h => ?_)
    have e86 := eqo (h 86 (by decide))
    exact Yk.lenRB wr11_ty26 (RB.of (hr.keep (hE0.trans hC)) e86) ⟨Ext.refl _, rfl⟩
   ·refine stepFL (stepN rfl fun σ w1 hC h => ?_)
    have e82 := eqo (h 82 (by decide))
    have e87 := eqo (h 87 (by decide))
    exact Yk.eqI (a := (i1 : Nat)) (b := (b.length : Nat)) e82 e87 (k_eql _ _ _ _) ⟨Ext.refl _, (congrArg Value.bool (decide_eq_false (hj)))⟩
   ·refine stepFL (stepN rfl fun σ w1 hC h => ?_)
    have e88 := eqo (h 88 (by decide))
    exact Yk.move e88 ⟨Ext.refl _, rfl⟩
   ·refine stepFL (stepX 10 true 89 rfl rfl (fun x _ (h : x = .bool false) => by rw [h]; intro h; cases h) fun _ => rfl)
   ·refine stepFL (stepX 10 true 89 rfl rfl (fun x _ (h : x = .bool false) => by rw [h]; intro h; cases h) fun _ => rfl)
   ·refine stepFL (stepN rfl fun σ w1 hC h => ?_)
    have e89 := eqo (h 89 (by decide))
    exact Yk.pickF e89 (vr (.bool (false)) rfl) ⟨Ext.refl _, rfl⟩
   ·exact trivial
  intro ρ183 w184 hx185 he hf
  obtain ⟨-, -, -, -, -, -, -, -, -, -, -, -, -, k92, -⟩ := hf
  obtain ⟨T0, T1, T2, T3, T4, T22, T27, T35, T40, T45, T50, T56, T75, -⟩ := he.hold [(0, _), (1, _), (2, _), (3, _), (4, _), (22, .bool (true)), (27, .bool (false)), (35, .bool (false)), (40, .bool (false)), (45, .bool (false)), (50, .bool (false)), (56, .bool (false)), (75, .bool (false))] ⟨T0, T1, T2, T3, T15, rfl, rfl, rfl, rfl, rfl, rfl, rfl, rfl, trivial⟩ rfl
  clear he
  have hE0 := hE0.trans hx185
  have hb := eb hx185 hb
  have hbm := eb hx185 hbm
  have hbg := eb hx185 hbg
  have hbn := eb hx185 hbn
  have ho1 := ho1.keep hx185
  have T92 : ρ183 92 = .bool (false) := k92
  clear k92
  refine Yp.callA1 wr11_pl109 T92 ?_
  refine calls_either (needW_any _ (false)) ?_ ?_
  rotate_left
  ·
   rintro ch w188 ⟨rfl, hb, hx⟩
   refine thenF_panic (postP_panic ?_)
   exact .inr ⟨_, rfl, by rw [hD]; simp only [hPb1, Option.bind_some]; refine if_neg ?_; rintro ⟨h1, h2⟩; exact hj h1, rfl, hE0.trans hx⟩
  rintro v_ w189 ⟨rfl, hb186, hx187⟩
  cases hb186
 ·have hD := decP_eq hP1 hK hP2
  rw [restP3 (m := (⟨c1, ((c2 : Nat) : Int), [], [], [], 0, 0, zid, [], [], zid, zid, false, 0⟩ : Msg)) hk] at hD
  refine tN (hK91 _ _ (sk fun K190 hK190 => (sk fun K191 hK191 => (wt (oS rfl (Yk.fieldAt wr11_fo92_0 T3 (oS rfl (Yk.cell1 wr11_ty4 rfl (vr (PQ n79 0) rfl) (cellAt hb82 (show (partsC (⟨false, true, false, false, false, false, false, false⟩ : Parts))[0]? = some (.bool (false) : Value) from parts_g0 (⟨false, true, false, false, false, false, false, false⟩ : Parts))) (oZ (tN (hK191 _ _ (wpF_false (vr (.bool (false)) rfl) (wpF_skip (tN (hK190 _ _ (sk fun K192 hK192 => (sk fun K193 hK193 => (wt (oS rfl (Yk.fieldAt wr11_fo92_1 T3 (oS rfl (Yk.cell1 wr11_ty4 rfl (vr (PQ n79 1) rfl) (cellAt hb82 (show (partsC (⟨false, true, false, false, false, false, false, false⟩ : Parts))[1]? = some (.bool (true) : Value) from parts_g1 (⟨false, true, false, false, false, false, false, false⟩ : Parts))) ?_))))))))))))))))))))))
  refine oZ (tN (hK193 _ _ (wpF_true (vr (.bool (true)) rfl) (sk fun K194 hK194 => (wt (oS rfl (Yk.cell1 wr11_ty109 rfl T1 (cellAt hb14 (show _ = some (PQ r 0 : Value) from rfl)) (oS rfl (Yk.mkFunc (vs := #[PQ n16 0, PQ n2 0]) (by simp only [List.map_toArray, List.map_cons, List.map_nil]; exact congrArg List.toArray (list2 T2 T1)) ?_)))))))))
  have hC1 : RC w0 r n16 n2 n79 v b := ⟨hr, lr, by omega, by omega, by omega, by omega, by omega, by omega, by omega, by omega, by omega, hl⟩
  refine oP rfl (Yp.callA3 wr11_pl111 (vr (PQ r 0) rfl) (vr (NI 65536) rfl) (vr (.func (.func 115) #[] #[PQ n16 0, PQ n2 0]) rfl) ?_)
  refine calls_either (reads2_any hC1 (⟨hb, hb31, hb14, hb82, hE0, hle_j2⟩ : RS w0 r n16 n2 n79 v b (⟨false, true, false, false, false, false, false, false⟩ : Parts) _ j2 ((⟨c1, ((c2 : Nat) : Int), [], [], [], 0, 0, zid, [], [], zid, zid, false, 0⟩, ⟨(Value.slice none 0 0), (Value.slice none 0 0), (Value.slice none 0 0), (Value.slice none 0 0)⟩) : MsgV)) rfl (OG.nil _ _ _ _ _) ⟨(fun h => by cases h), (fun h => by cases h), (fun h => by cases h), (fun h => by cases h)⟩) ?_ ?_
  rotate_left
  ·
   rintro ch w195 ⟨hPx, rfl, hgx⟩
   refine thenF_panic (thenF_panic (postP_panic ?_))
   exact .inr ⟨_, rfl, by rw [hD]; simp only [hPx, Option.bind_some, Option.bind_none], rfl, hgx⟩
  rintro v_ w197 ⟨rfl, l1, i1, u1, hPb1, hS1, ho1, ap_u1⟩
  obtain ⟨hb, hbm, hbg, hbn, hE0, hle_i1⟩ := hS1
  have hl198 := bl hb
  have hl199 := bl hbm
  have hl200 := bl hbg
  have hl201 := bl hbn
  refine oZ (tN (hK194 _ _ (wt (oS rfl (Yk.cell1 wr11_ty109 rfl T1 (cellAt hbg (show _ = some (PQ r 0 : Value) from rfl)) (oS rfl (Yk.mkFunc (vs := #[PQ n16 0, PQ n2 0]) (by simp only [List.map_toArray, List.map_cons, List.map_nil]; exact congrArg List.toArray (list2 T2 T1)) ?_)))))))
  have hC2 : RC w0 r n16 n2 n79 v b := ⟨hr, lr, by omega, by omega, by omega, by omega, by omega, by omega, by omega, by omega, by omega, hl⟩
  refine oP rfl (Yp.callA3 wr11_pl111 (vr (PQ r 0) rfl) (vr (NI 65536) rfl) (vr (.func (.func 116) #[] #[PQ n16 0, PQ n2 0]) rfl) ?_)
  refine calls_either (reads3_any hC2 (⟨hb, hbm, hbg, hbn, hE0, hle_i1⟩ : RS w0 r n16 n2 n79 v b (⟨false, true, false, false, false, false, false, false⟩ : Parts) _ i1 ((⟨c1, ((c2 : Nat) : Int), [], l1, [], 0, 0, zid, [], [], zid, zid, false, 0⟩, ⟨(Value.slice none 0 0), u1, (Value.slice none 0 0), (Value.slice none 0 0)⟩) : MsgV)) rfl (OG.nil _ _ _ _ _) ⟨(fun h => by cases h), (fun h => by cases h), (fun h => by cases h), (fun h => by cases h)⟩ ho1 ap_u1 (apartv_nil _) (apartv_nil' _)) ?_ ?_
  rotate_left
  ·
   rintro ch w202 ⟨hPx, rfl, hgx⟩
   refine thenF_panic (postP_panic ?_)
   exact .inr ⟨_, rfl, by rw [hD]; simp only [hPb1, hPx, Option.bind_some, Option.bind_none], rfl, hgx⟩
  rintro v_ w204 ⟨rfl, l2, i2, u2, hPb2, hS2, ho2, ap_u2, hoq, aq_, qa_⟩
  obtain ⟨hb, hbm, hbg, hbn, hE0, hle_i2⟩ := hS2
  have hl205 := bl hb
  have hl206 := bl hbm
  have hl207 := bl hbg
  have hl208 := bl hbn
  refine oZ (tN (hK192 _ _ (sk fun K209 hK209 => (sk fun K210 hK210 => (wt (oS rfl (Yk.fieldAt wr11_fo92_2 T3 (oS rfl (Yk.cell1 wr11_ty4 rfl (vr (PQ n79 2) rfl) (cellAt hbn (show (partsC (⟨false, true, false, false, false, false, false, false⟩ : Parts))[2]? = some (.bool (false) : Value) from parts_g2 (⟨false, true, false, false, false, false, false, false⟩ : Parts))) (oZ (tN (hK210 _ _ (wpF_false (vr (.bool (false)) rfl) (wpF_skip (tN (hK209 _ _ (sk fun K211 hK211 => (sk fun K212 hK212 => (wt (oS rfl (Yk.fieldAt wr11_fo92_3 T3 ?_)))))))))))))))))))))
  refine oS rfl (Yk.cell1 wr11_ty4 rfl (vr (PQ n79 3) rfl) (cellAt hbn (show (partsC (⟨false, true, false, false, false, false, false, false⟩ : Parts))[3]? = some (.bool (false) : Value) from parts_g3 (⟨false, true, false, false, false, false, false, false⟩ : Parts))) (oZ (tN (hK212 _ _ (wpF_false (vr (.bool (false)) rfl) (wpF_skip (tN (hK211 _ _ (sk fun K213 hK213 => (sk fun K214 hK214 => (wt (oS rfl (Yk.fieldAt wr11_fo92_4 T3 (oS rfl (Yk.cell1 wr11_ty4 rfl (vr (PQ n79 4) rfl) (cellAt hbn (show (partsC (⟨false, true, false, false, false, false, false, false⟩ : Parts))[4]? = some (.bool (false) : Value) from parts_g4 (⟨false, true, false, false, false, false, false, false⟩ : Parts))) (oZ (tN (hK214 _ _ (wpF_false (vr (.bool (false)) rfl) (wpF_skip (tN (hK213 _ _ ?_))))))))))))))))))))))
  refine sk fun K215 hK215 => (sk fun K216 hK216 => (wt (oS rfl (Yk.fieldAt wr11_fo92_5 T3 (oS rfl (Yk.cell1 wr11_ty4 rfl (vr (PQ n79 5) rfl) (cellAt hbn (show (partsC (⟨false, true, false, false, false, false, false, false⟩ : Parts))[5]? = some (.bool (false) : Value) from parts_g5 (⟨false, true, false, false, false, false, false, false⟩ : Parts))) (oZ (tN (hK216 _ _ (wpF_false (vr (.bool (false)) rfl) (wpF_skip (tN (hK215 _ _ (sk fun K217 hK217 => (sk fun K218 hK218 => (wt (oS rfl (Yk.fieldAt wr11_fo92_6 T3 (oS rfl (Yk.cell1 wr11_ty4 rfl (vr (PQ n79 6) rfl) (cellAt hbn (show (partsC (⟨false, true, false, false, false, false, false, false⟩ : Parts))[6]? = some (.bool (false) : Value) from parts_g6 (⟨false, true, false, false, false, false, false, false⟩ : Parts))) (oZ ?_)))))))))))))))))))))
  refine tN (hK218 _ _ (wpF_false (vr (.bool (false)) rfl) (wpF_skip (tN (hK217 _ _ (sk fun K219 hK219 => (sk fun K220 hK220 => (wt (oS rfl (Yk.fieldAt wr11_fo92_7 T3 (oS rfl (Yk.cell1 wr11_ty4 rfl (vr (PQ n79 7) rfl) (cellAt hbn (show (partsC (⟨false, true, false, false, false, false, false, false⟩ : Parts))[7]? = some (.bool (false) : Value) from parts_g7 (⟨false, true, false, false, false, false, false, false⟩ : Parts))) (oZ ?_)))))))))))))
  have hMl : MsgLt (((⟨c1, ((c2 : Nat) : Int), [], l1, l2, 0, 0, zid, [], [], zid, zid, false, 0⟩, ⟨(Value.slice none 0 0), u1, u2, (Value.slice none 0 0)⟩) : MsgV) : MsgV).1 := ⟨by simp, fun u hu => (by cases hu), by have := idsP_lt hPb1; simp only at this ⊢; omega, by have := idsP_lt hPb2; simp only at this ⊢; omega, by simp⟩
  by_cases hj : i2 = b.length
  ·refine tN (hK220 _ _ (wpF_false (vr (.bool (false)) rfl) (wpF_skip (tN (hK219 _ _ (sk fun K221 hK221 => ?_))))))
   refine wpF_draw_endE 14 _ [Is (PQ r 0), Is (PQ r 0), Is (PQ r 1), Is (NI i2), Is (PQ r 0), Is (PQ r 0), Is (PQ r 0), Is (v), Is (NI b.length), Is (.bool (true)), Is (.bool (true)), Is (.agg (msgC ((⟨c1, ((c2 : Nat) : Int), [], l1, l2, 0, 0, zid, [], [], zid, zid, false, 0⟩, ⟨(Value.slice none 0 0), u1, u2, (Value.slice none 0 0)⟩) : MsgV)).toArray), Is (.bool (rightB (((⟨c1, ((c2 : Nat) : Int), [], l1, l2, 0, 0, zid, [], [], zid, zid, false, 0⟩, ⟨(Value.slice none 0 0), u1, u2, (Value.slice none 0 0)⟩) : MsgV) : MsgV).1)), Is (.bool (rightB (((⟨c1, ((c2 : Nat) : Int), [], l1, l2, 0, 0, zid, [], [], zid, zid, false, 0⟩, ⟨(Value.slice none 0 0), u1, u2, (Value.slice none 0 0)⟩) : MsgV) : MsgV).1))] (by kernel_rfl) [79, 80, 81, 82, 83, 84, 85, 86, 87, 88, 89, 90, 91, 92, 93] (by kernel_rfl) (by kernel_rfl) (by kernel_rfl) rfl rfl rfl (fun _ _ => trivial) (si2 (si12 trivial)) ?hs7027 ?hQ7027
   case hs7027 =>
    refine ⟨?_, ?_, ?_, ?_, ?_, ?_, ?_, ?_, ?_, ?_, ?_, ?_, ?_, ?_, ?_, trivial⟩
    ·refine stepFL (stepN rfl fun σ w1 hC h => ?_)
     have e1 := (eqo (h 1 (by decide))).trans T1
     exact Yk.cell1 wr11_ty109 rfl e1 (cellAt (eb hC hbg) (show _ = some (PQ r 0 : Value) from rfl)) ⟨Ext.refl _, rfl⟩
    ·refine stepFL (stepN rfl fun σ w1 hC h => ?_)
     have e79 := eqo (h 79 (by decide))
     exact Yk.nilCheck e79 ⟨Ext.refl _, rfl⟩
    ·refine stepFL (stepN rfl fun σ w1 hC h => ?_)
     have e80 := eqo (h 80 (by decide))
     exact Yk.fieldAt wr11_fo111_1 e80 ⟨Ext.refl _, rfl⟩
    ·refine stepFL (stepN rfl fun σ w1 hC h => ?_)
     have e81 := eqo (h 81 (by decide))
     exact Yk.cell1 wr11_ty3 rfl e81 (cellAt (eb hC hb) (show (rdC (rdX v b (i2)))[1]? = some (NI i2 : Value) from rd_g1 (rdX v b (i2)))) ⟨Ext.refl _, rfl⟩
    ·refine stepFL (stepN rfl fun σ w1 hC h => ?_)
     have e1 := (eqo (h 1 (by decide))).trans T1
     exact Yk.cell1 wr11_ty109 rfl e1 (cellAt (eb hC hbg) (show _ = some (PQ r 0 : Value) from rfl)) ⟨Ext.refl _, rfl⟩
    ·refine stepFL (stepN rfl fun σ w1 hC h => ?_)
     have e83 := eqo (h 83 (by decide))
     exact Yk.nilCheck e83 ⟨Ext.refl _, rfl⟩
    ·refine stepFL (stepN rfl fun σ w1 hC h => ?_)
     have e84 := eqo (h 84 (by decide))
     exact Yk.fieldAt wr11_fo111_0 e84 ⟨Ext.refl _, rfl⟩
    ·refine stepFL (stepN rfl fun σ w1 hC h => ?_)
     have e85 := eqo (h 85 (by decide))
     exact Yk.cell1 wr11_ty26 rfl e85 (cellAt (eb hC hb) (show (rdC (rdX v b (i2)))[0]? = some (v : Value) from rd_g0 (rdX v b (i2)))) ⟨Ext.refl _, rfl⟩
    ·refine stepFL (stepN rfl fun σ w1 hC h => ?_)
     have e86 := eqo (h 86 (by decide))
     exact Yk.lenRB wr11_ty26 (RB.of (hr.keep (hE0.trans hC)) e86) ⟨Ext.refl _, rfl⟩
    ·refine stepFL (stepN rfl fun σ w1 hC h => ?_)
     have e82 := eqo (h 82 (by decide))
     have e87 := eqo (h 87 (by decide))
     exact Yk.eqI (a := (i2 : Nat)) (b := (b.length : Nat)) e82 e87 (k_eql _ _ _ _) ⟨Ext.refl _, (congrArg Value.bool (decide_eq_true (hj)))⟩
    ·refine stepFL (stepN rfl fun σ w1 hC h => ?_)
     have e88 := eqo (h 88 (by decide))
     exact Yk.move e88 ⟨Ext.refl _, rfl⟩
    ·refine stepFL (stepY 10 true 89 rfl rfl (fun _ _ h => h) fun σ w1 hC h => ?_)
     have e2 := (eqo (h 2 (by decide))).trans T2
     exact Yk.loadAll e2 (eb hC hbm) (wr11_ty29).choose_spec rfl (st_isz (msg_len ((⟨c1, ((c2 : Nat) : Int), [], l1, l2, 0, 0, zid, [], [], zid, zid, false, 0⟩, ⟨(Value.slice none 0 0), u1, u2, (Value.slice none 0 0)⟩) : MsgV)) wr11_isz29) ⟨Ext.refl _, rfl⟩
    ·refine stepFL (stepY 10 true 89 rfl rfl (fun _ _ h => h) fun σ w1 hC h => ?_)
     have e90 := eqo (h 90 (by decide))
     refine Yk.callA1 wr11_pl19 e90 ((right_any _ ((⟨c1, ((c2 : Nat) : Int), [], l1, l2, 0, 0, zid, [], [], zid, zid, false, 0⟩, ⟨(Value.slice none 0 0), u1, u2, (Value.slice none 0 0)⟩) : MsgV) (MsgAt.mk (RG.nil _ _ _) (RG.ofOwn (hoq.keep hC)) (RG.ofOwn (ho2.keep hC)) (RB.nil _)) hMl).mono ?_)
     rintro e w2 ⟨rfl, hx⟩
     exact ⟨_, rfl, hx, rfl⟩
    ·refine stepFL (stepN rfl fun σ w1 hC h => ?_)
     have e89 := eqo (h 89 (by decide))
     have e91 := eqo (h 91 (by decide))
     exact Yk.pickT e89 e91 ⟨Ext.refl _, rfl⟩
    ·exact trivial
   intro ρ222 w223 hx224 he hf
   obtain ⟨-, -, -, -, -, -, -, -, -, -, -, -, -, k92, -⟩ := hf
   obtain ⟨T0, T1, T2, T3, T4, T22, T27, T35, T40, T45, T50, T56, T75, -⟩ := he.hold [(0, _), (1, _), (2, _), (3, _), (4, _), (22, .bool (false)), (27, .bool (true)), (35, .bool (false)), (40, .bool (false)), (45, .bool (false)), (50, .bool (false)), (56, .bool (false)), (75, .bool (false))] ⟨T0, T1, T2, T3, T15, rfl, rfl, rfl, rfl, rfl, rfl, rfl, rfl, trivial⟩ rfl
   clear he
   have hE0 := hE0.trans hx224
   have hb := eb hx224 hb
   have hbm := eb hx224 hbm
   have hbg := eb hx224 hbg
   have hbn := eb hx224 hbn
   have ho2 := ho2.keep hx224
   have hoq := hoq.keep hx224
   have T92 : ρ222 92 = .bool (rightB (((⟨c1, ((c2 : Nat) : Int), [], l1, l2, 0, 0, zid, [], [], zid, zid, false, 0⟩, ⟨(Value.slice none 0 0), u1, u2, (Value.slice none 0 0)⟩) : MsgV) : MsgV).1) := k92
   clear k92
   refine Yp.callA1 wr11_pl109 T92 ?_
   refine calls_either (needW_any _ (rightB (((⟨c1, ((c2 : Nat) : Int), [], l1, l2, 0, 0, zid, [], [], zid, zid, false, 0⟩, ⟨(Value.slice none 0 0), u1, u2, (Value.slice none 0 0)⟩) : MsgV) : MsgV).1)) ?_ ?_
   rotate_left
   ·
    rintro ch w227 ⟨rfl, hb, hx⟩
    refine thenF_panic (postP_panic ?_)
    exact .inr ⟨_, rfl, by rw [hD]; simp only [hPb1, hPb2, Option.bind_some]; refine if_neg ?_; rintro ⟨h1, h2⟩; exact Bool.noConfusion (h2.symm.trans hb), rfl, hE0.trans hx⟩
   rintro v_ w228 ⟨rfl, hb225, hx226⟩
   have hE0 := hE0.trans hx226
   have hb := eb hx226 hb
   have hbm := eb hx226 hbm
   have hbg := eb hx226 hbg
   have hbn := eb hx226 hbn
   have ho2 := ho2.keep hx226
   have hoq := hoq.keep hx226
   intro ρ229 hu230
   have T0 : ρ229 0 = (PQ r 0 : Value) := (hu230 0 (by decide)).trans T0
   have T1 : ρ229 1 = (PQ n2 0 : Value) := (hu230 1 (by decide)).trans T1
   have T2 : ρ229 2 = (PQ n16 0 : Value) := (hu230 2 (by decide)).trans T2
   have T3 : ρ229 3 = (PQ n79 0 : Value) := (hu230 3 (by decide)).trans T3
   have T4 : ρ229 4 = (.bool (true) : Value) := (hu230 4 (by decide)).trans T4
   have T22 : ρ229 22 = (.bool (false) : Value) := (hu230 22 (by decide)).trans T22
   have T27 : ρ229 27 = (.bool (true) : Value) := (hu230 27 (by decide)).trans T27
   have T35 : ρ229 35 = (.bool (false) : Value) := (hu230 35 (by decide)).trans T35
   have T40 : ρ229 40 = (.bool (false) : Value) := (hu230 40 (by decide)).trans T40
   have T45 : ρ229 45 = (.bool (false) : Value) := (hu230 45 (by decide)).trans T45
   have T50 : ρ229 50 = (.bool (false) : Value) := (hu230 50 (by decide)).trans T50
   have T56 : ρ229 56 = (.bool (false) : Value) := (hu230 56 (by decide)).trans T56
   have T75 : ρ229 75 = (.bool (false) : Value) := (hu230 75 (by decide)).trans T75
   refine tN (hK221 _ _ (sk fun K231 hK231 => (wt (oS rfl (Yk.loadAll T2 hbm (wr11_ty29).choose_spec rfl (st_isz (msg_len ((⟨c1, ((c2 : Nat) : Int), [], l1, l2, 0, 0, zid, [], [], zid, zid, false, 0⟩, ⟨(Value.slice none 0 0), u1, u2, (Value.slice none 0 0)⟩) : MsgV)) wr11_isz29) (oS rfl (Yk.storeAll T2 (vr (.agg (msgC ((⟨c1, ((c2 : Nat) : Int), [], l1, l2, 0, 0, zid, [], [], zid, zid, false, 0⟩, ⟨(Value.slice none 0 0), u1, u2, (Value.slice none 0 0)⟩) : MsgV)).toArray) rfl) hbm (by simp only [List.size_toArray, msg_len]) (st_isz (msg_len _) wr11_isz29) (msg_one (x := ((⟨c1, ((c2 : Nat) : Int), [], l1, l2, 0, 0, zid, [], [], zid, zid, false, 0⟩, ⟨(Value.slice none 0 0), u1, u2, (Value.slice none 0 0)⟩) : MsgV)) rfl (RG.one (RG.ofOwn hoq)).2 (RG.one (RG.ofOwn ho2)).2 rfl) fun w232 hb233 hg234 hs235 => ?_)))))))
   have hE0 := row_fresh hE0 hg234 (Nat.le_trans (Nat.le_refl _) (by omega))
   have hb := kb hg234 hb (by omega)
   clear hbm
   have hbg := kb hg234 hbg (by omega)
   have hbn := kb hg234 hbn (by omega)
   have ho2 := OG.kept ho2 hg234 ap_u2.m
   have hoq := OG.kept hoq hg234 ap_u1.m
   have hbm : w232.heap[n16]? = some (.cells (msgC ((⟨c1, ((c2 : Nat) : Int), [], l1, l2, 0, 0, zid, [], [], zid, zid, false, 0⟩, ⟨(Value.slice none 0 0), u1, u2, (Value.slice none 0 0)⟩) : MsgV)).toArray 29 (0, 0)) := hb233; clear hb233
   have hl236 := bl hbm
   refine oZ (tN (hK231 _ _ (wpF_ret (postP_ret (fn := Tryd.f67) _ rfl [.agg (msgC ((⟨c1, ((c2 : Nat) : Int), [], l1, l2, 0, 0, zid, [], [], zid, zid, false, 0⟩, ⟨(Value.slice none 0 0), u1, u2, (Value.slice none 0 0)⟩) : MsgV)).toArray] (.agg (msgC ((⟨c1, ((c2 : Nat) : Int), [], l1, l2, 0, 0, zid, [], [], zid, zid, false, 0⟩, ⟨(Value.slice none 0 0), u1, u2, (Value.slice none 0 0)⟩) : MsgV)).toArray) rfl ⟨ResF.row T2 hbm (wr11_ty29).choose_spec rfl (st_isz (msg_len _) wr11_isz29), trivial⟩ ?_))))
   exact .inl ⟨_, rfl, ((⟨c1, ((c2 : Nat) : Int), [], l1, l2, 0, 0, zid, [], [], zid, zid, false, 0⟩, ⟨(Value.slice none 0 0), u1, u2, (Value.slice none 0 0)⟩) : MsgV), by rw [hD]; simp only [hPb1, hPb2, Option.bind_some]; refine if_pos ?_; exact ⟨hj, hb225⟩, rfl, (MsgAt.mk (RG.nil _ _ _) (RG.ofOwn hoq) (RG.ofOwn ho2) (RB.nil _)), ⟨(fun k h => by cases h), (fun k h => (hoq.2.lt k h).1), (fun k h => (ho2.2.lt k h).1), (fun k h => by cases h)⟩, hE0⟩
  refine tN (hK220 _ _ (wpF_false (vr (.bool (false)) rfl) (wpF_skip (tN (hK219 _ _ (sk fun K237 hK237 => ?_))))))
  refine wpF_draw_endE 14 _ [Is (PQ r 0), Is (PQ r 0), Is (PQ r 1), Is (NI i2), Is (PQ r 0), Is (PQ r 0), Is (PQ r 0), Is (v), Is (NI b.length), Is (.bool (false)), Is (.bool (false)), Is undef, Is undef, Is (.bool (false))] (by kernel_rfl) [79, 80, 81, 82, 83, 84, 85, 86, 87, 88, 89, 90, 91, 92, 93] (by kernel_rfl) (by kernel_rfl) (by kernel_rfl) rfl rfl rfl (fun _ _ => trivial) (si2 (si12 trivial)) ?hs8027 ?hQ8027
  case hs8027 =>
   refine ⟨?_, ?_, ?_, ?_, ?_, ?_, ?_, ?_, ?_, ?_, ?_, ?_, ?_, ?_, ?_, trivial⟩
   ·refine stepFL (stepN rfl fun σ w1 hC h => ?_)
    have e1 := (eqo (h 1 (by decide))).trans T1
    exact Yk.cell1 wr11_ty109 rfl e1 (cellAt (eb hC hbg) (show _ = some (PQ r 0 : Value) from rfl)) ⟨Ext.refl _, rfl⟩
   ·refine stepFL (stepN rfl fun σ w1 hC h => ?_)
    have e79 := eqo (h 79 (by decide))
    exact Yk.nilCheck e79 ⟨Ext.refl _, rfl⟩
   ·refine stepFL (stepN rfl fun σ w1 hC h => ?_)
    have e80 := eqo (h 80 (by decide))
    exact Yk.fieldAt wr11_fo111_1 e80 ⟨Ext.refl _, rfl⟩
   ·refine stepFL (stepN rfl fun σ w1 hC h => ?_)
    have e81 := eqo (h 81 (by decide))
    exact Yk.cell1 wr11_ty3 rfl e81 (cellAt (eb hC hb) (show (rdC (rdX v b (i2)))[1]? = some (NI i2 : Value) from rd_g1 (rdX v b (i2)))) ⟨Ext.refl _, rfl⟩
   ·refine stepFL (stepN rfl fun σ w1 hC h => ?_)
    have e1 := (eqo (h 1 (by decide))).trans T1
    exact Yk.cell1 wr11_ty109 rfl e1 (cellAt (eb hC hbg) (show _ = some (PQ r 0 : Value) from rfl)) ⟨Ext.refl _, rfl⟩
   ·refine stepFL (stepN rfl fun σ w1 hC h => ?_)
    have e83 := eqo (h 83 (by decide))
    exact Yk.nilCheck e83 ⟨Ext.refl _, rfl⟩
   ·refine stepFL (stepN rfl fun σ w1 hC h => ?_)
    have e84 := eqo (h 84 (by decide))
    exact Yk.fieldAt wr11_fo111_0 e84 ⟨Ext.refl _, rfl⟩
   ·refine stepFL (stepN rfl fun σ w1 hC h => ?_)
    have e85 := eqo (h 85 (by decide))
    exact Yk.cell1 wr11_ty26 rfl e85 (cellAt (eb hC hb) (show (rdC (rdX v b (i2)))[0]? = some (v : Value) from rd_g0 (rdX v b (i2)))) ⟨Ext.refl _, rfl⟩
   ·refine stepFL (stepN rfl fun σ w1 hC h => ?_)
    have e86 := eqo (h 86 (by decide))
    exact Yk.lenRB wr11_ty26 (RB.of (hr.keep (hE0.trans hC)) e86) ⟨Ext.refl _, rfl⟩
   ·refine stepFL (stepN rfl fun σ w1 hC h => ?_)
    have e82 := eqo (h 82 (by decide))
    have e87 := eqo (h 87 (by decide))
    exact Yk.eqI (a := (i2 : Nat)) (b := (b.length : Nat)) e82 e87 (k_eql _ _ _ _) ⟨Ext.refl _, (congrArg Value.bool (decide_eq_false (hj)))⟩
   ·refine stepFL (stepN rfl fun σ w1 hC h => ?_)
    have e88 := eqo (h 88 (by decide))
    exact Yk.move e88 ⟨Ext.refl _, rfl⟩
   ·refine stepFL (stepX 10 true 89 rfl rfl (fun x _ (h : x = .bool false) => by rw [h]; intro h; cases h) fun _ => rfl)
   ·refine stepFL (stepX 10 true 89 rfl rfl (fun x _ (h : x = .bool false) => by rw [h]; intro h; cases h) fun _ => rfl)
   ·refine stepFL (stepN rfl fun σ w1 hC h => ?_)
    have e89 := eqo (h 89 (by decide))
    exact Yk.pickF e89 (vr (.bool (false)) rfl) ⟨Ext.refl _, rfl⟩
   ·exact trivial
  intro ρ238 w239 hx240 he hf
  obtain ⟨-, -, -, -, -, -, -, -, -, -, -, -, -, k92, -⟩ := hf
  obtain ⟨T0, T1, T2, T3, T4, T22, T27, T35, T40, T45, T50, T56, T75, -⟩ := he.hold [(0, _), (1, _), (2, _), (3, _), (4, _), (22, .bool (false)), (27, .bool (true)), (35, .bool (false)), (40, .bool (false)), (45, .bool (false)), (50, .bool (false)), (56, .bool (false)), (75, .bool (false))] ⟨T0, T1, T2, T3, T15, rfl, rfl, rfl, rfl, rfl, rfl, rfl, rfl, trivial⟩ rfl
  clear he
  have hE0 := hE0.trans hx240
  have hb := eb hx240 hb
  have hbm := eb hx240 hbm
  have hbg := eb hx240 hbg
  have hbn := eb hx240 hbn
  have ho2 := ho2.keep hx240
  have hoq := hoq.keep hx240
  have T92 : ρ238 92 = .bool (false) := k92
  clear k92
  refine Yp.callA1 wr11_pl109 T92 ?_
  refine calls_either (needW_any _ (false)) ?_ ?_
  rotate_left
  ·
   rintro ch w243 ⟨rfl, hb, hx⟩
   refine thenF_panic (postP_panic ?_)
   exact .inr ⟨_, rfl, by rw [hD]; simp only [hPb1, hPb2, Option.bind_some]; refine if_neg ?_; rintro ⟨h1, h2⟩; exact hj h1, rfl, hE0.trans hx⟩
  rintro v_ w244 ⟨rfl, hb241, hx242⟩
  cases hb241
 ·have hD := decP_eq hP1 hK hP2
  rw [restP4 (m := (⟨c1, ((c2 : Nat) : Int), [], [], [], 0, 0, zid, [], [], zid, zid, false, 0⟩ : Msg)) hk] at hD
  refine tN (hK91 _ _ (sk fun K245 hK245 => (sk fun K246 hK246 => (wt (oS rfl (Yk.fieldAt wr11_fo92_0 T3 (oS rfl (Yk.cell1 wr11_ty4 rfl (vr (PQ n79 0) rfl) (cellAt hb82 (show (partsC (⟨false, false, true, false, true, false, false, false⟩ : Parts))[0]? = some (.bool (false) : Value) from parts_g0 (⟨false, false, true, false, true, false, false, false⟩ : Parts))) (oZ (tN (hK246 _ _ (wpF_false (vr (.bool (false)) rfl) (wpF_skip (tN (hK245 _ _ (sk fun K247 hK247 => (sk fun K248 hK248 => (wt (oS rfl (Yk.fieldAt wr11_fo92_1 T3 (oS rfl (Yk.cell1 wr11_ty4 rfl (vr (PQ n79 1) rfl) (cellAt hb82 (show (partsC (⟨false, false, true, false, true, false, false, false⟩ : Parts))[1]? = some (.bool (false) : Value) from parts_g1 (⟨false, false, true, false, true, false, false, false⟩ : Parts))) ?_))))))))))))))))))))))
  refine oZ (tN (hK248 _ _ (wpF_false (vr (.bool (false)) rfl) (wpF_skip (tN (hK247 _ _ (sk fun K249 hK249 => (sk fun K250 hK250 => (wt (oS rfl (Yk.fieldAt wr11_fo92_2 T3 (oS rfl (Yk.cell1 wr11_ty4 rfl (vr (PQ n79 2) rfl) (cellAt hb82 (show (partsC (⟨false, false, true, false, true, false, false, false⟩ : Parts))[2]? = some (.bool (true) : Value) from parts_g2 (⟨false, false, true, false, true, false, false, false⟩ : Parts))) (oZ (tN (hK250 _ _ (wpF_true (vr (.bool (true)) rfl) (wt (oS rfl (Yk.cell1 wr11_ty109 rfl T1 (cellAt hb14 (show _ = some (PQ r 0 : Value) from rfl)) (oP rfl (Yp.callA1 wr11_pl110 (vr (PQ r 0) rfl) ?_))))))))))))))))))))))
  refine calls_either (numberW_any _ r v b j2 hb (hr.keep hE0) hapr hle_j2 hl) ?_ ?_
  rotate_left
  ·
   rintro ch w253 ⟨hPx, rfl, hgx⟩
   refine thenF_panic (postP_panic ?_)
   exact .inr ⟨_, rfl, by rw [hD]; simp only [hPx, Option.bind_some, Option.bind_none], rfl, (row_fresh hE0 hgx lr)⟩
  rintro v_ w255 ⟨d1, i1, hPb1, rfl, hb251, hg252⟩
  have hE0 := row_fresh hE0 hg252 (Nat.le_trans (Nat.le_refl _) lr)
  have hb14 := kb hg252 hb14 (by omega)
  have hb82 := kb hg252 hb82 (by omega)
  clear hb
  have hb31 := kb hg252 hb31 (by omega)
  have hb := hb251; clear hb251
  have hle_i1 := numP_le hle_j2 hPb1
  have hl256 := bl hb
  refine oS rfl (Yk.fieldAt wr11_fo29_5 T2 (oS rfl (Yk.storeC (i := 5) (v := NI d1) (vr (PQ n16 5) rfl) (vr (NI d1) rfl) hb31 (by rw [msg_len]; decide) wr11_isz3 rfl rfl fun w257 hb258 hg259 hs260 => ?_)))
  have hE0 := row_fresh hE0 hg259 (Nat.le_trans (Nat.le_refl _) (by omega))
  have hb14 := kb hg259 hb14 (by omega)
  have hb82 := kb hg259 hb82 (by omega)
  clear hb31
  have hb := kb hg259 hb (by omega)
  have hb31 : w257.heap[n16]? = some (.cells (msgC ((⟨c1, ((c2 : Nat) : Int), [], [], [], ((d1 : Nat) : Int), 0, zid, [], [], zid, zid, false, 0⟩, ⟨(Value.slice none 0 0), (Value.slice none 0 0), (Value.slice none 0 0), (Value.slice none 0 0)⟩) : MsgV)).toArray 29 (0, 0)) := blk_eq hb258 (msg_s5 ((⟨c1, ((c2 : Nat) : Int), [], [], [], 0, 0, zid, [], [], zid, zid, false, 0⟩, ⟨(Value.slice none 0 0), (Value.slice none 0 0), (Value.slice none 0 0), (Value.slice none 0 0)⟩) : MsgV) ((d1 : Nat) : Int)); clear hb258
  have hl261 := bl hb31
  refine oZ (tN (hK249 _ _ (sk fun K262 hK262 => (sk fun K263 hK263 => (wt (oS rfl (Yk.fieldAt wr11_fo92_3 T3 (oS rfl (Yk.cell1 wr11_ty4 rfl (vr (PQ n79 3) rfl) (cellAt hb82 (show (partsC (⟨false, false, true, false, true, false, false, false⟩ : Parts))[3]? = some (.bool (false) : Value) from parts_g3 (⟨false, false, true, false, true, false, false, false⟩ : Parts))) (oZ (tN (hK263 _ _ (wpF_false (vr (.bool (false)) rfl) (wpF_skip (tN (hK262 _ _ (sk fun K264 hK264 => (sk fun K265 hK265 => (wt (oS rfl (Yk.fieldAt wr11_fo92_4 T3 ?_)))))))))))))))))))))
  refine oS rfl (Yk.cell1 wr11_ty4 rfl (vr (PQ n79 4) rfl) (cellAt hb82 (show (partsC (⟨false, false, true, false, true, false, false, false⟩ : Parts))[4]? = some (.bool (true) : Value) from parts_g4 (⟨false, false, true, false, true, false, false, false⟩ : Parts))) (oZ (tN (hK265 _ _ (wpF_true (vr (.bool (true)) rfl) (wt (oS rfl (Yk.cell1 wr11_ty109 rfl T1 (cellAt hb14 (show _ = some (PQ r 0 : Value) from rfl)) (oP rfl (Yp.callA1 wr11_pl114 (vr (PQ r 0) rfl) ?_))))))))))
  refine calls_either (idW_any _ r v b i1 hb (hr.keep hE0) hapr hle_i1 hl) ?_ ?_
  rotate_left
  ·
   rintro ch w268 ⟨hPx, rfl, hgx⟩
   refine thenF_panic (postP_panic ?_)
   exact .inr ⟨_, rfl, by rw [hD]; simp only [hPb1, hPx, Option.bind_some, Option.bind_none], rfl, (row_fresh hE0 hgx lr)⟩
  rintro v_ w270 ⟨d2, i2, hPb2, rfl, hb266, hg267⟩
  have hE0 := row_fresh hE0 hg267 (Nat.le_trans (Nat.le_refl _) lr)
  have hb14 := kb hg267 hb14 (by omega)
  have hb82 := kb hg267 hb82 (by omega)
  clear hb
  have hb31 := kb hg267 hb31 (by omega)
  have hb := hb266; clear hb266
  have hle_i2 := idP_le hPb2
  have hl271 := bl hb
  refine oS rfl (Yk.fieldAt wr11_fo29_7 T2 (oS rfl (Yk.storeMid (a := msg_a7 ((⟨c1, ((c2 : Nat) : Int), [], [], [], ((d1 : Nat) : Int), 0, zid, [], [], zid, zid, false, 0⟩, ⟨(Value.slice none 0 0), (Value.slice none 0 0), (Value.slice none 0 0), (Value.slice none 0 0)⟩) : MsgV)) (m := Lib.byteCells zid.1) (z := msg_z7 ((⟨c1, ((c2 : Nat) : Int), [], [], [], ((d1 : Nat) : Int), 0, zid, [], [], zid, zid, false, 0⟩, ⟨(Value.slice none 0 0), (Value.slice none 0 0), (Value.slice none 0 0), (Value.slice none 0 0)⟩) : MsgV)) (cells := Lib.byteCells d2.1) (vr (PQ n16 7) rfl) (vr (AB d2.1) rfl) (msg_m7 ((⟨c1, ((c2 : Nat) : Int), [], [], [], ((d1 : Nat) : Int), 0, zid, [], [], zid, zid, false, 0⟩, ⟨(Value.slice none 0 0), (Value.slice none 0 0), (Value.slice none 0 0), (Value.slice none 0 0)⟩) : MsgV) ▸ hb31) (msg_n7 ((⟨c1, ((c2 : Nat) : Int), [], [], [], ((d1 : Nat) : Int), 0, zid, [], [], zid, zid, false, 0⟩, ⟨(Value.slice none 0 0), (Value.slice none 0 0), (Value.slice none 0 0), (Value.slice none 0 0)⟩) : MsgV)) (by rw [Lib.byteCells_length, Lib.byteCells_length, zid.2, d2.2]) (by rw [Lib.byteCells_length, d2.2]; exact wr11_isz25) (byteCells_one _) fun w272 hb273 hg274 hs275 => ?_)))
  have hE0 := row_fresh hE0 hg274 (Nat.le_trans (Nat.le_refl _) (by omega))
  have hb14 := kb hg274 hb14 (by omega)
  have hb82 := kb hg274 hb82 (by omega)
  clear hb31
  have hb := kb hg274 hb (by omega)
  have hb31 : w272.heap[n16]? = some (.cells (msgC ((⟨c1, ((c2 : Nat) : Int), [], [], [], ((d1 : Nat) : Int), 0, d2, [], [], zid, zid, false, 0⟩, ⟨(Value.slice none 0 0), (Value.slice none 0 0), (Value.slice none 0 0), (Value.slice none 0 0)⟩) : MsgV)).toArray 29 (0, 0)) := blk_eq hb273 (msg_s7 ((⟨c1, ((c2 : Nat) : Int), [], [], [], ((d1 : Nat) : Int), 0, zid, [], [], zid, zid, false, 0⟩, ⟨(Value.slice none 0 0), (Value.slice none 0 0), (Value.slice none 0 0), (Value.slice none 0 0)⟩) : MsgV) d2); clear hb273
  have hl276 := bl hb31
  refine oZ (tN (hK264 _ _ (sk fun K277 hK277 => (sk fun K278 hK278 => (wt (oS rfl (Yk.fieldAt wr11_fo92_5 T3 (oS rfl (Yk.cell1 wr11_ty4 rfl (vr (PQ n79 5) rfl) (cellAt hb82 (show (partsC (⟨false, false, true, false, true, false, false, false⟩ : Parts))[5]? = some (.bool (false) : Value) from parts_g5 (⟨false, false, true, false, true, false, false, false⟩ : Parts))) (oZ (tN (hK278 _ _ (wpF_false (vr (.bool (false)) rfl) (wpF_skip (tN (hK277 _ _ (sk fun K279 hK279 => (sk fun K280 hK280 => (wt (oS rfl (Yk.fieldAt wr11_fo92_6 T3 ?_)))))))))))))))))))))
  refine oS rfl (Yk.cell1 wr11_ty4 rfl (vr (PQ n79 6) rfl) (cellAt hb82 (show (partsC (⟨false, false, true, false, true, false, false, false⟩ : Parts))[6]? = some (.bool (false) : Value) from parts_g6 (⟨false, false, true, false, true, false, false, false⟩ : Parts))) (oZ (tN (hK280 _ _ (wpF_false (vr (.bool (false)) rfl) (wpF_skip (tN (hK279 _ _ (sk fun K281 hK281 => (sk fun K282 hK282 => (wt (oS rfl (Yk.fieldAt wr11_fo92_7 T3 (oS rfl (Yk.cell1 wr11_ty4 rfl (vr (PQ n79 7) rfl) (cellAt hb82 (show (partsC (⟨false, false, true, false, true, false, false, false⟩ : Parts))[7]? = some (.bool (false) : Value) from parts_g7 (⟨false, false, true, false, true, false, false, false⟩ : Parts))) (oZ ?_))))))))))))))))
  have hMl : MsgLt (((⟨c1, ((c2 : Nat) : Int), [], [], [], ((d1 : Nat) : Int), 0, d2, [], [], zid, zid, false, 0⟩, ⟨(Value.slice none 0 0), (Value.slice none 0 0), (Value.slice none 0 0), (Value.slice none 0 0)⟩) : MsgV) : MsgV).1 := ⟨by simp, fun u hu => (by cases hu), by simp, by simp, by simp⟩
  by_cases hj : i2 = b.length
  ·refine tN (hK282 _ _ (wpF_false (vr (.bool (false)) rfl) (wpF_skip (tN (hK281 _ _ (sk fun K283 hK283 => ?_))))))
   refine wpF_draw_endE 14 _ [Is (PQ r 0), Is (PQ r 0), Is (PQ r 1), Is (NI i2), Is (PQ r 0), Is (PQ r 0), Is (PQ r 0), Is (v), Is (NI b.length), Is (.bool (true)), Is (.bool (true)), Is (.agg (msgC ((⟨c1, ((c2 : Nat) : Int), [], [], [], ((d1 : Nat) : Int), 0, d2, [], [], zid, zid, false, 0⟩, ⟨(Value.slice none 0 0), (Value.slice none 0 0), (Value.slice none 0 0), (Value.slice none 0 0)⟩) : MsgV)).toArray), Is (.bool (rightB (((⟨c1, ((c2 : Nat) : Int), [], [], [], ((d1 : Nat) : Int), 0, d2, [], [], zid, zid, false, 0⟩, ⟨(Value.slice none 0 0), (Value.slice none 0 0), (Value.slice none 0 0), (Value.slice none 0 0)⟩) : MsgV) : MsgV).1)), Is (.bool (rightB (((⟨c1, ((c2 : Nat) : Int), [], [], [], ((d1 : Nat) : Int), 0, d2, [], [], zid, zid, false, 0⟩, ⟨(Value.slice none 0 0), (Value.slice none 0 0), (Value.slice none 0 0), (Value.slice none 0 0)⟩) : MsgV) : MsgV).1))] (by kernel_rfl) [79, 80, 81, 82, 83, 84, 85, 86, 87, 88, 89, 90, 91, 92, 93] (by kernel_rfl) (by kernel_rfl) (by kernel_rfl) rfl rfl rfl (fun _ _ => trivial) (si2 (si12 trivial)) ?hs9027 ?hQ9027
   case hs9027 =>
    refine ⟨?_, ?_, ?_, ?_, ?_, ?_, ?_, ?_, ?_, ?_, ?_, ?_, ?_, ?_, ?_, trivial⟩
    ·refine stepFL (stepN rfl fun σ w1 hC h => ?_)
     have e1 := (eqo (h 1 (by decide))).trans T1
     exact Yk.cell1 wr11_ty109 rfl e1 (cellAt (eb hC hb14) (show _ = some (PQ r 0 : Value) from rfl)) ⟨Ext.refl _, rfl⟩
    ·refine stepFL (stepN rfl fun σ w1 hC h => ?_)
     have e79 := eqo (h 79 (by decide))
     exact Yk.nilCheck e79 ⟨Ext.refl _, rfl⟩
    ·refine stepFL (stepN rfl fun σ w1 hC h => ?_)
     have e80 := eqo (h 80 (by decide))
     exact Yk.fieldAt wr11_fo111_1 e80 ⟨Ext.refl _, rfl⟩
    ·refine stepFL (stepN rfl fun σ w1 hC h => ?_)
     have e81 := eqo (h 81 (by decide))
     exact Yk.cell1 wr11_ty3 rfl e81 (cellAt (eb hC hb) (show (rdC (rdX v b (i2)))[1]? = some (NI i2 : Value) from rd_g1 (rdX v b (i2)))) ⟨Ext.refl _, rfl⟩
    ·refine stepFL (stepN rfl fun σ w1 hC h => ?_)
     have e1 := (eqo (h 1 (by decide))).trans T1
     exact Yk.cell1 wr11_ty109 rfl e1 (cellAt (eb hC hb14) (show _ = some (PQ r 0 : Value) from rfl)) ⟨Ext.refl _, rfl⟩
    ·refine stepFL (stepN rfl fun σ w1 hC h => ?_)
     have e83 := eqo (h 83 (by decide))
     exact Yk.nilCheck e83 ⟨Ext.refl _, rfl⟩
    ·refine stepFL (stepN rfl fun σ w1 hC h => ?_)
     have e84 := eqo (h 84 (by decide))
     exact Yk.fieldAt wr11_fo111_0 e84 ⟨Ext.refl _, rfl⟩
    ·refine stepFL (stepN rfl fun σ w1 hC h => ?_)
     have e85 := eqo (h 85 (by decide))
     exact Yk.cell1 wr11_ty26 rfl e85 (cellAt (eb hC hb) (show (rdC (rdX v b (i2)))[0]? = some (v : Value) from rd_g0 (rdX v b (i2)))) ⟨Ext.refl _, rfl⟩
    ·refine stepFL (stepN rfl fun σ w1 hC h => ?_)
     have e86 := eqo (h 86 (by decide))
     exact Yk.lenRB wr11_ty26 (RB.of (hr.keep (hE0.trans hC)) e86) ⟨Ext.refl _, rfl⟩
    ·refine stepFL (stepN rfl fun σ w1 hC h => ?_)
     have e82 := eqo (h 82 (by decide))
     have e87 := eqo (h 87 (by decide))
     exact Yk.eqI (a := (i2 : Nat)) (b := (b.length : Nat)) e82 e87 (k_eql _ _ _ _) ⟨Ext.refl _, (congrArg Value.bool (decide_eq_true (hj)))⟩
    ·refine stepFL (stepN rfl fun σ w1 hC h => ?_)
     have e88 := eqo (h 88 (by decide))
     exact Yk.move e88 ⟨Ext.refl _, rfl⟩
    ·refine stepFL (stepY 10 true 89 rfl rfl (fun _ _ h => h) fun σ w1 hC h => ?_)
     have e2 := (eqo (h 2 (by decide))).trans T2
     exact Yk.loadAll e2 (eb hC hb31) (wr11_ty29).choose_spec rfl (st_isz (msg_len ((⟨c1, ((c2 : Nat) : Int), [], [], [], ((d1 : Nat) : Int), 0, d2, [], [], zid, zid, false, 0⟩, ⟨(Value.slice none 0 0), (Value.slice none 0 0), (Value.slice none 0 0), (Value.slice none 0 0)⟩) : MsgV)) wr11_isz29) ⟨Ext.refl _, rfl⟩
    ·refine stepFL (stepY 10 true 89 rfl rfl (fun _ _ h => h) fun σ w1 hC h => ?_)
     have e90 := eqo (h 90 (by decide))
     refine Yk.callA1 wr11_pl19 e90 ((right_any _ ((⟨c1, ((c2 : Nat) : Int), [], [], [], ((d1 : Nat) : Int), 0, d2, [], [], zid, zid, false, 0⟩, ⟨(Value.slice none 0 0), (Value.slice none 0 0), (Value.slice none 0 0), (Value.slice none 0 0)⟩) : MsgV) (MsgAt.mk (RG.nil _ _ _) (RG.nil _ _ _) (RG.nil _ _ _) (RB.nil _)) hMl).mono ?_)
     rintro e w2 ⟨rfl, hx⟩
     exact ⟨_, rfl, hx, rfl⟩
    ·refine stepFL (stepN rfl fun σ w1 hC h => ?_)
     have e89 := eqo (h 89 (by decide))
     have e91 := eqo (h 91 (by decide))
     exact Yk.pickT e89 e91 ⟨Ext.refl _, rfl⟩
    ·exact trivial
   intro ρ284 w285 hx286 he hf
   obtain ⟨-, -, -, -, -, -, -, -, -, -, -, -, -, k92, -⟩ := hf
   obtain ⟨T0, T1, T2, T3, T4, T22, T27, T35, T40, T45, T50, T56, T75, -⟩ := he.hold [(0, _), (1, _), (2, _), (3, _), (4, _), (22, .bool (false)), (27, .bool (false)), (35, .bool (true)), (40, .bool (false)), (45, .bool (true)), (50, .bool (false)), (56, .bool (false)), (75, .bool (false))] ⟨T0, T1, T2, T3, T15, rfl, rfl, rfl, rfl, rfl, rfl, rfl, rfl, trivial⟩ rfl
   clear he
   have hE0 := hE0.trans hx286
   have hb14 := eb hx286 hb14
   have hb82 := eb hx286 hb82
   have hb := eb hx286 hb
   have hb31 := eb hx286 hb31
   have T92 : ρ284 92 = .bool (rightB (((⟨c1, ((c2 : Nat) : Int), [], [], [], ((d1 : Nat) : Int), 0, d2, [], [], zid, zid, false, 0⟩, ⟨(Value.slice none 0 0), (Value.slice none 0 0), (Value.slice none 0 0), (Value.slice none 0 0)⟩) : MsgV) : MsgV).1) := k92
   clear k92
   refine Yp.callA1 wr11_pl109 T92 ?_
   refine calls_either (needW_any _ (rightB (((⟨c1, ((c2 : Nat) : Int), [], [], [], ((d1 : Nat) : Int), 0, d2, [], [], zid, zid, false, 0⟩, ⟨(Value.slice none 0 0), (Value.slice none 0 0), (Value.slice none 0 0), (Value.slice none 0 0)⟩) : MsgV) : MsgV).1)) ?_ ?_
   rotate_left
   ·
    rintro ch w289 ⟨rfl, hb, hx⟩
    refine thenF_panic (postP_panic ?_)
    exact .inr ⟨_, rfl, by rw [hD]; simp only [hPb1, hPb2, Option.bind_some]; refine if_neg ?_; rintro ⟨h1, h2⟩; exact Bool.noConfusion (h2.symm.trans hb), rfl, hE0.trans hx⟩
   rintro v_ w290 ⟨rfl, hb287, hx288⟩
   have hE0 := hE0.trans hx288
   have hb14 := eb hx288 hb14
   have hb82 := eb hx288 hb82
   have hb := eb hx288 hb
   have hb31 := eb hx288 hb31
   intro ρ291 hu292
   have T0 : ρ291 0 = (PQ r 0 : Value) := (hu292 0 (by decide)).trans T0
   have T1 : ρ291 1 = (PQ n2 0 : Value) := (hu292 1 (by decide)).trans T1
   have T2 : ρ291 2 = (PQ n16 0 : Value) := (hu292 2 (by decide)).trans T2
   have T3 : ρ291 3 = (PQ n79 0 : Value) := (hu292 3 (by decide)).trans T3
   have T4 : ρ291 4 = (.bool (true) : Value) := (hu292 4 (by decide)).trans T4
   have T22 : ρ291 22 = (.bool (false) : Value) := (hu292 22 (by decide)).trans T22
   have T27 : ρ291 27 = (.bool (false) : Value) := (hu292 27 (by decide)).trans T27
   have T35 : ρ291 35 = (.bool (true) : Value) := (hu292 35 (by decide)).trans T35
   have T40 : ρ291 40 = (.bool (false) : Value) := (hu292 40 (by decide)).trans T40
   have T45 : ρ291 45 = (.bool (true) : Value) := (hu292 45 (by decide)).trans T45
   have T50 : ρ291 50 = (.bool (false) : Value) := (hu292 50 (by decide)).trans T50
   have T56 : ρ291 56 = (.bool (false) : Value) := (hu292 56 (by decide)).trans T56
   have T75 : ρ291 75 = (.bool (false) : Value) := (hu292 75 (by decide)).trans T75
   refine tN (hK283 _ _ (sk fun K293 hK293 => (wt (oS rfl (Yk.loadAll T2 hb31 (wr11_ty29).choose_spec rfl (st_isz (msg_len ((⟨c1, ((c2 : Nat) : Int), [], [], [], ((d1 : Nat) : Int), 0, d2, [], [], zid, zid, false, 0⟩, ⟨(Value.slice none 0 0), (Value.slice none 0 0), (Value.slice none 0 0), (Value.slice none 0 0)⟩) : MsgV)) wr11_isz29) (oS rfl (Yk.storeAll T2 (vr (.agg (msgC ((⟨c1, ((c2 : Nat) : Int), [], [], [], ((d1 : Nat) : Int), 0, d2, [], [], zid, zid, false, 0⟩, ⟨(Value.slice none 0 0), (Value.slice none 0 0), (Value.slice none 0 0), (Value.slice none 0 0)⟩) : MsgV)).toArray) rfl) hb31 (by simp only [List.size_toArray, msg_len]) (st_isz (msg_len _) wr11_isz29) (msg_one (x := ((⟨c1, ((c2 : Nat) : Int), [], [], [], ((d1 : Nat) : Int), 0, d2, [], [], zid, zid, false, 0⟩, ⟨(Value.slice none 0 0), (Value.slice none 0 0), (Value.slice none 0 0), (Value.slice none 0 0)⟩) : MsgV)) rfl rfl rfl rfl) fun w294 hb295 hg296 hs297 => ?_)))))))
   have hE0 := row_fresh hE0 hg296 (Nat.le_trans (Nat.le_refl _) (by omega))
   have hb14 := kb hg296 hb14 (by omega)
   have hb82 := kb hg296 hb82 (by omega)
   have hb := kb hg296 hb (by omega)
   clear hb31
   have hb31 : w294.heap[n16]? = some (.cells (msgC ((⟨c1, ((c2 : Nat) : Int), [], [], [], ((d1 : Nat) : Int), 0, d2, [], [], zid, zid, false, 0⟩, ⟨(Value.slice none 0 0), (Value.slice none 0 0), (Value.slice none 0 0), (Value.slice none 0 0)⟩) : MsgV)).toArray 29 (0, 0)) := hb295; clear hb295
   have hl298 := bl hb31
   refine oZ (tN (hK293 _ _ (wpF_ret (postP_ret (fn := Tryd.f67) _ rfl [.agg (msgC ((⟨c1, ((c2 : Nat) : Int), [], [], [], ((d1 : Nat) : Int), 0, d2, [], [], zid, zid, false, 0⟩, ⟨(Value.slice none 0 0), (Value.slice none 0 0), (Value.slice none 0 0), (Value.slice none 0 0)⟩) : MsgV)).toArray] (.agg (msgC ((⟨c1, ((c2 : Nat) : Int), [], [], [], ((d1 : Nat) : Int), 0, d2, [], [], zid, zid, false, 0⟩, ⟨(Value.slice none 0 0), (Value.slice none 0 0), (Value.slice none 0 0), (Value.slice none 0 0)⟩) : MsgV)).toArray) rfl ⟨ResF.row T2 hb31 (wr11_ty29).choose_spec rfl (st_isz (msg_len _) wr11_isz29), trivial⟩ ?_))))
   exact .inl ⟨_, rfl, ((⟨c1, ((c2 : Nat) : Int), [], [], [], ((d1 : Nat) : Int), 0, d2, [], [], zid, zid, false, 0⟩, ⟨(Value.slice none 0 0), (Value.slice none 0 0), (Value.slice none 0 0), (Value.slice none 0 0)⟩) : MsgV), by rw [hD]; simp only [hPb1, hPb2, Option.bind_some]; refine if_pos ?_; exact ⟨hj, hb287⟩, rfl, (MsgAt.mk (RG.nil _ _ _) (RG.nil _ _ _) (RG.nil _ _ _) (RB.nil _)), ⟨(fun k h => by cases h), (fun k h => by cases h), (fun k h => by cases h), (fun k h => by cases h)⟩, hE0⟩
  refine tN (hK282 _ _ (wpF_false (vr (.bool (false)) rfl) (wpF_skip (tN (hK281 _ _ (sk fun K299 hK299 => ?_))))))
  refine wpF_draw_endE 14 _ [Is (PQ r 0), Is (PQ r 0), Is (PQ r 1), Is (NI i2), Is (PQ r 0), Is (PQ r 0), Is (PQ r 0), Is (v), Is (NI b.length), Is (.bool (false)), Is (.bool (false)), Is undef, Is undef, Is (.bool (false))] (by kernel_rfl) [79, 80, 81, 82, 83, 84, 85, 86, 87, 88, 89, 90, 91, 92, 93] (by kernel_rfl) (by kernel_rfl) (by kernel_rfl) rfl rfl rfl (fun _ _ => trivial) (si2 (si12 trivial)) ?hs10027 ?hQ10027
  case hs10027 =>
   refine ⟨?_, ?_, ?_, ?_, ?_, ?_, ?_, ?_, ?_, ?_, ?_, ?_, ?_, ?_, ?_, trivial⟩
   ·refine stepFL (stepN rfl fun σ w1 hC h => ?_)
    have e1 := (eqo (h 1 (by decide))).trans T1
    exact Yk.cell1 wr11_ty109 rfl e1 (cellAt (eb hC hb14) (show _ = some (PQ r 0 : Value) from rfl)) ⟨Ext.refl _, rfl⟩
   ·refine stepFL (stepN rfl fun σ w1 hC h => ?_)
    have e79 := eqo (h 79 (by decide))
    exact Yk.nilCheck e79 ⟨Ext.refl _, rfl⟩
   ·refine stepFL (stepN rfl fun σ w1 hC h => ?_)
    have e80 := eqo (h 80 (by decide))
    exact Yk.fieldAt wr11_fo111_1 e80 ⟨Ext.refl _, rfl⟩
   ·refine stepFL (stepN rfl fun σ w1 hC h => ?_)
    have e81 := eqo (h 81 (by decide))
    exact Yk.cell1 wr11_ty3 rfl e81 (cellAt (eb hC hb) (show (rdC (rdX v b (i2)))[1]? = some (NI i2 : Value) from rd_g1 (rdX v b (i2)))) ⟨Ext.refl _, rfl⟩
   ·refine stepFL (stepN rfl fun σ w1 hC h => ?_)
    have e1 := (eqo (h 1 (by decide))).trans T1
    exact Yk.cell1 wr11_ty109 rfl e1 (cellAt (eb hC hb14) (show _ = some (PQ r 0 : Value) from rfl)) ⟨Ext.refl _, rfl⟩
   ·refine stepFL (stepN rfl fun σ w1 hC h => ?_)
    have e83 := eqo (h 83 (by decide))
    exact Yk.nilCheck e83 ⟨Ext.refl _, rfl⟩
   ·refine stepFL (stepN rfl fun σ w1 hC h => ?_)
    have e84 := eqo (h 84 (by decide))
    exact Yk.fieldAt wr11_fo111_0 e84 ⟨Ext.refl _, rfl⟩
   ·refine stepFL (stepN rfl fun σ w1 hC h => ?_)
    have e85 := eqo (h 85 (by decide))
    exact Yk.cell1 wr11_ty26 rfl e85 (cellAt (eb hC hb) (show (rdC (rdX v b (i2)))[0]? = some (v : Value) from rd_g0 (rdX v b (i2)))) ⟨Ext.refl _, rfl⟩
   ·refine stepFL (stepN rfl fun σ w1 hC h => ?_)
    have e86 := eqo (h 86 (by decide))
    exact Yk.lenRB wr11_ty26 (RB.of (hr.keep (hE0.trans hC)) e86) ⟨Ext.refl _, rfl⟩
   ·refine stepFL (stepN rfl fun σ w1 hC h => ?_)
    have e82 := eqo (h 82 (by decide))
    have e87 := eqo (h 87 (by decide))
    exact Yk.eqI (a := (i2 : Nat)) (b := (b.length : Nat)) e82 e87 (k_eql _ _ _ _) ⟨Ext.refl _, (congrArg Value.bool (decide_eq_false (hj)))⟩
   ·refine stepFL (stepN rfl fun σ w1 hC h => ?_)
    have e88 := eqo (h 88 (by decide))
    exact Yk.move e88 ⟨Ext.refl _, rfl⟩
   ·refine stepFL (stepX 10 true 89 rfl rfl (fun x _ (h : x = .bool false) => by rw [h]; intro h; cases h) fun _ => rfl)
   ·refine stepFL (stepX 10 true 89 rfl rfl (fun x _ (h : x = .bool false) => by rw [h]; intro h; cases h) fun _ => rfl)
   ·refine stepFL (stepN rfl fun σ w1 hC h => ?_)
    have e89 := eqo (h 89 (by decide))
    exact Yk.pickF e89 (vr (.bool (false)) rfl) ⟨Ext.refl _, rfl⟩
   ·exact trivial
  intro ρ300 w301 hx302 he hf
  obtain ⟨-, -, -, -, -, -, -, -, -, -, -, -, -, k92, -⟩ := hf
  obtain ⟨T0, T1, T2, T3, T4, T22, T27, T35, T40, T45, T50, T56, T75, -⟩ := he.hold [(0, _), (1, _), (2, _), (3, _), (4, _), (22, .bool (false)), (27, .bool (false)), (35, .bool (true)), (40, .bool (false)), (45, .bool (true)), (50, .bool (false)), (56, .bool (false)), (75, .bool (false))] ⟨T0, T1, T2, T3, T15, rfl, rfl, rfl, rfl, rfl, rfl, rfl, rfl, trivial⟩ rfl
  clear he
  have hE0 := hE0.trans hx302
  have hb14 := eb hx302 hb14
  have hb82 := eb hx302 hb82
  have hb := eb hx302 hb
  have hb31 := eb hx302 hb31
  have T92 : ρ300 92 = .bool (false) := k92
  clear k92
  refine Yp.callA1 wr11_pl109 T92 ?_
  refine calls_either (needW_any _ (false)) ?_ ?_
  rotate_left
  ·
   rintro ch w305 ⟨rfl, hb, hx⟩
   refine thenF_panic (postP_panic ?_)
   exact .inr ⟨_, rfl, by rw [hD]; simp only [hPb1, hPb2, Option.bind_some]; refine if_neg ?_; rintro ⟨h1, h2⟩; exact hj h1, rfl, hE0.trans hx⟩
  rintro v_ w306 ⟨rfl, hb303, hx304⟩
  cases hb303
 ·have hD := decP_eq hP1 hK hP2
  rw [restP5 (m := (⟨c1, ((c2 : Nat) : Int), [], [], [], 0, 0, zid, [], [], zid, zid, false, 0⟩ : Msg)) hk] at hD
  refine tN (hK91 _ _ (sk fun K307 hK307 => (sk fun K308 hK308 => (wt (oS rfl (Yk.fieldAt wr11_fo92_0 T3 (oS rfl (Yk.cell1 wr11_ty4 rfl (vr (PQ n79 0) rfl) (cellAt hb82 (show (partsC (⟨false, false, false, true, false, false, false, false⟩ : Parts))[0]? = some (.bool (false) : Value) from parts_g0 (⟨false, false, false, true, false, false, false, false⟩ : Parts))) (oZ (tN (hK308 _ _ (wpF_false (vr (.bool (false)) rfl) (wpF_skip (tN (hK307 _ _ (sk fun K309 hK309 => (sk fun K310 hK310 => (wt (oS rfl (Yk.fieldAt wr11_fo92_1 T3 (oS rfl (Yk.cell1 wr11_ty4 rfl (vr (PQ n79 1) rfl) (cellAt hb82 (show (partsC (⟨false, false, false, true, false, false, false, false⟩ : Parts))[1]? = some (.bool (false) : Value) from parts_g1 (⟨false, false, false, true, false, false, false, false⟩ : Parts))) ?_))))))))))))))))))))))
  refine oZ (tN (hK310 _ _ (wpF_false (vr (.bool (false)) rfl) (wpF_skip (tN (hK309 _ _ (sk fun K311 hK311 => (sk fun K312 hK312 => (wt (oS rfl (Yk.fieldAt wr11_fo92_2 T3 (oS rfl (Yk.cell1 wr11_ty4 rfl (vr (PQ n79 2) rfl) (cellAt hb82 (show (partsC (⟨false, false, false, true, false, false, false, false⟩ : Parts))[2]? = some (.bool (false) : Value) from parts_g2 (⟨false, false, false, true, false, false, false, false⟩ : Parts))) (oZ (tN (hK312 _ _ (wpF_false (vr (.bool (false)) rfl) (wpF_skip (tN (hK311 _ _ (sk fun K313 hK313 => ?_)))))))))))))))))))))
  refine sk fun K314 hK314 => (wt (oS rfl (Yk.fieldAt wr11_fo92_3 T3 (oS rfl (Yk.cell1 wr11_ty4 rfl (vr (PQ n79 3) rfl) (cellAt hb82 (show (partsC (⟨false, false, false, true, false, false, false, false⟩ : Parts))[3]? = some (.bool (true) : Value) from parts_g3 (⟨false, false, false, true, false, false, false, false⟩ : Parts))) (oZ (tN (hK314 _ _ (wpF_true (vr (.bool (true)) rfl) (wt (oS rfl (Yk.cell1 wr11_ty109 rfl T1 (cellAt hb14 (show _ = some (PQ r 0 : Value) from rfl)) (oP rfl (Yp.callA1 wr11_pl110 (vr (PQ r 0) rfl) ?_))))))))))))))
  refine calls_either (numberW_any _ r v b j2 hb (hr.keep hE0) hapr hle_j2 hl) ?_ ?_
  rotate_left
  ·
   rintro ch w317 ⟨hPx, rfl, hgx⟩
   refine thenF_panic (postP_panic ?_)
   exact .inr ⟨_, rfl, by rw [hD]; simp only [hPx, Option.bind_some, Option.bind_none], rfl, (row_fresh hE0 hgx lr)⟩
  rintro v_ w319 ⟨d1, i1, hPb1, rfl, hb315, hg316⟩
  have hE0 := row_fresh hE0 hg316 (Nat.le_trans (Nat.le_refl _) lr)
  have hb14 := kb hg316 hb14 (by omega)
  have hb82 := kb hg316 hb82 (by omega)
  clear hb
  have hb31 := kb hg316 hb31 (by omega)
  have hb := hb315; clear hb315
  have hle_i1 := numP_le hle_j2 hPb1
  have hl320 := bl hb
  refine oS rfl (Yk.fieldAt wr11_fo29_6 T2 (oS rfl (Yk.storeC (i := 6) (v := NI d1) (vr (PQ n16 6) rfl) (vr (NI d1) rfl) hb31 (by rw [msg_len]; decide) wr11_isz3 rfl rfl fun w321 hb322 hg323 hs324 => ?_)))
  have hE0 := row_fresh hE0 hg323 (Nat.le_trans (Nat.le_refl _) (by omega))
  have hb14 := kb hg323 hb14 (by omega)
  have hb82 := kb hg323 hb82 (by omega)
  clear hb31
  have hb := kb hg323 hb (by omega)
  have hb31 : w321.heap[n16]? = some (.cells (msgC ((⟨c1, ((c2 : Nat) : Int), [], [], [], 0, ((d1 : Nat) : Int), zid, [], [], zid, zid, false, 0⟩, ⟨(Value.slice none 0 0), (Value.slice none 0 0), (Value.slice none 0 0), (Value.slice none 0 0)⟩) : MsgV)).toArray 29 (0, 0)) := blk_eq hb322 (msg_s6 ((⟨c1, ((c2 : Nat) : Int), [], [], [], 0, 0, zid, [], [], zid, zid, false, 0⟩, ⟨(Value.slice none 0 0), (Value.slice none 0 0), (Value.slice none 0 0), (Value.slice none 0 0)⟩) : MsgV) ((d1 : Nat) : Int)); clear hb322
  have hl325 := bl hb31
  refine oZ (tN (hK313 _ _ (sk fun K326 hK326 => (sk fun K327 hK327 => (wt (oS rfl (Yk.fieldAt wr11_fo92_4 T3 (oS rfl (Yk.cell1 wr11_ty4 rfl (vr (PQ n79 4) rfl) (cellAt hb82 (show (partsC (⟨false, false, false, true, false, false, false, false⟩ : Parts))[4]? = some (.bool (false) : Value) from parts_g4 (⟨false, false, false, true, false, false, false, false⟩ : Parts))) (oZ (tN (hK327 _ _ (wpF_false (vr (.bool (false)) rfl) (wpF_skip (tN (hK326 _ _ (sk fun K328 hK328 => (sk fun K329 hK329 => (wt (oS rfl (Yk.fieldAt wr11_fo92_5 T3 ?_)))))))))))))))))))))
  refine oS rfl (Yk.cell1 wr11_ty4 rfl (vr (PQ n79 5) rfl) (cellAt hb82 (show (partsC (⟨false, false, false, true, false, false, false, false⟩ : Parts))[5]? = some (.bool (false) : Value) from parts_g5 (⟨false, false, false, true, false, false, false, false⟩ : Parts))) (oZ (tN (hK329 _ _ (wpF_false (vr (.bool (false)) rfl) (wpF_skip (tN (hK328 _ _ (sk fun K330 hK330 => (sk fun K331 hK331 => (wt (oS rfl (Yk.fieldAt wr11_fo92_6 T3 (oS rfl (Yk.cell1 wr11_ty4 rfl (vr (PQ n79 6) rfl) (cellAt hb82 (show (partsC (⟨false, false, false, true, false, false, false, false⟩ : Parts))[6]? = some (.bool (false) : Value) from parts_g6 (⟨false, false, false, true, false, false, false, false⟩ : Parts))) (oZ (tN (hK331 _ _ (wpF_false (vr (.bool (false)) rfl) (wpF_skip (tN (hK330 _ _ ?_))))))))))))))))))))))
  refine sk fun K332 hK332 => (sk fun K333 hK333 => (wt (oS rfl (Yk.fieldAt wr11_fo92_7 T3 (oS rfl (Yk.cell1 wr11_ty4 rfl (vr (PQ n79 7) rfl) (cellAt hb82 (show (partsC (⟨false, false, false, true, false, false, false, false⟩ : Parts))[7]? = some (.bool (false) : Value) from parts_g7 (⟨false, false, false, true, false, false, false, false⟩ : Parts))) (oZ ?_)))))))
  have hMl : MsgLt (((⟨c1, ((c2 : Nat) : Int), [], [], [], 0, ((d1 : Nat) : Int), zid, [], [], zid, zid, false, 0⟩, ⟨(Value.slice none 0 0), (Value.slice none 0 0), (Value.slice none 0 0), (Value.slice none 0 0)⟩) : MsgV) : MsgV).1 := ⟨by simp, fun u hu => (by cases hu), by simp, by simp, by simp⟩
  by_cases hj : i1 = b.length
  ·refine tN (hK333 _ _ (wpF_false (vr (.bool (false)) rfl) (wpF_skip (tN (hK332 _ _ (sk fun K334 hK334 => ?_))))))
   refine wpF_draw_endE 14 _ [Is (PQ r 0), Is (PQ r 0), Is (PQ r 1), Is (NI i1), Is (PQ r 0), Is (PQ r 0), Is (PQ r 0), Is (v), Is (NI b.length), Is (.bool (true)), Is (.bool (true)), Is (.agg (msgC ((⟨c1, ((c2 : Nat) : Int), [], [], [], 0, ((d1 : Nat) : Int), zid, [], [], zid, zid, false, 0⟩, ⟨(Value.slice none 0 0), (Value.slice none 0 0), (Value.slice none 0 0), (Value.slice none 0 0)⟩) : MsgV)).toArray), Is (.bool (rightB (((⟨c1, ((c2 : Nat) : Int), [], [], [], 0, ((d1 : Nat) : Int), zid, [], [], zid, zid, false, 0⟩, ⟨(Value.slice none 0 0), (Value.slice none 0 0), (Value.slice none 0 0), (Value.slice none 0 0)⟩) : MsgV) : MsgV).1)), Is (.bool (rightB (((⟨c1, ((c2 : Nat) : Int), [], [], [], 0, ((d1 : Nat) : Int), zid, [], [], zid, zid, false, 0⟩, ⟨(Value.slice none 0 0), (Value.slice none 0 0), (Value.slice none 0 0), (Value.slice none 0 0)⟩) : MsgV) : MsgV).1))] (by kernel_rfl) [79, 80, 81, 82, 83, 84, 85, 86, 87, 88, 89, 90, 91, 92, 93] (by kernel_rfl) (by kernel_rfl) (by kernel_rfl) rfl rfl rfl (fun _ _ => trivial) (si2 (si12 trivial)) ?hs11027 ?hQ11027
   case hs11027 =>
    refine ⟨?_, ?_, ?_, ?_, ?_, ?_, ?_, ?_, ?_, ?_, ?_, ?_, ?_, ?_, ?_, trivial⟩
    ·refine stepFL (stepN rfl fun σ w1 hC h => ?_)
     have e1 := (eqo (h 1 (by decide))).trans T1
     exact Yk.cell1 wr11_ty109 rfl e1 (cellAt (eb hC hb14) (show _ = some (PQ r 0 : Value) from rfl)) ⟨Ext.refl _, rfl⟩
    ·refine stepFL (stepN rfl fun σ w1 hC h => ?_)
     have e79 := eqo (h 79 (by decide))
     exact Yk.nilCheck e79 ⟨Ext.refl _, rfl⟩
    ·refine stepFL (stepN rfl fun σ w1 hC h => ?_)
     have e80 := eqo (h 80 (by decide))
     exact Yk.fieldAt wr11_fo111_1 e80 ⟨Ext.refl _, rfl⟩
    ·refine stepFL (stepN rfl fun σ w1 hC h => ?_)
     have e81 := eqo (h 81 (by decide))
     exact Yk.cell1 wr11_ty3 rfl e81 (cellAt (eb hC hb) (show (rdC (rdX v b (i1)))[1]? = some (NI i1 : Value) from rd_g1 (rdX v b (i1)))) ⟨Ext.refl _, rfl⟩
    ·refine stepFL (stepN rfl fun σ w1 hC h => ?_)
     have e1 := (eqo (h 1 (by decide))).trans T1
     exact Yk.cell1 wr11_ty109 rfl e1 (cellAt (eb hC hb14) (show _ = some (PQ r 0 : Value) from rfl)) ⟨Ext.refl _, rfl⟩
    ·refine stepFL (stepN rfl fun σ w1 hC h => ?_)
     have e83 := eqo (h 83 (by decide))
     exact Yk.nilCheck e83 ⟨Ext.refl _, rfl⟩
    ·refine stepFL (stepN rfl fun σ w1 hC h => ?_)
     have e84 := eqo (h 84 (by decide))
     exact Yk.fieldAt wr11_fo111_0 e84 ⟨Ext.refl _, rfl⟩
    ·refine stepFL (stepN rfl fun σ w1 hC h => ?_)
     have e85 := eqo (h 85 (by decide))
     exact Yk.cell1 wr11_ty26 rfl e85 (cellAt (eb hC hb) (show (rdC (rdX v b (i1)))[0]? = some (v : Value) from rd_g0 (rdX v b (i1)))) ⟨Ext.refl _, rfl⟩
    ·refine stepFL (stepN rfl fun σ w1 hC h => ?_)
     have e86 := eqo (h 86 (by decide))
     exact Yk.lenRB wr11_ty26 (RB.of (hr.keep (hE0.trans hC)) e86) ⟨Ext.refl _, rfl⟩
    ·refine stepFL (stepN rfl fun σ w1 hC h => ?_)
     have e82 := eqo (h 82 (by decide))
     have e87 := eqo (h 87 (by decide))
     exact Yk.eqI (a := (i1 : Nat)) (b := (b.length : Nat)) e82 e87 (k_eql _ _ _ _) ⟨Ext.refl _, (congrArg Value.bool (decide_eq_true (hj)))⟩
    ·refine stepFL (stepN rfl fun σ w1 hC h => ?_)
     have e88 := eqo (h 88 (by decide))
     exact Yk.move e88 ⟨Ext.refl _, rfl⟩
    ·refine stepFL (stepY 10 true 89 rfl rfl (fun _ _ h => h) fun σ w1 hC h => ?_)
     have e2 := (eqo (h 2 (by decide))).trans T2
     exact Yk.loadAll e2 (eb hC hb31) (wr11_ty29).choose_spec rfl (st_isz (msg_len ((⟨c1, ((c2 : Nat) : Int), [], [], [], 0, ((d1 : Nat) : Int), zid, [], [], zid, zid, false, 0⟩, ⟨(Value.slice none 0 0), (Value.slice none 0 0), (Value.slice none 0 0), (Value.slice none 0 0)⟩) : MsgV)) wr11_isz29) ⟨Ext.refl _, rfl⟩
    ·refine stepFL (stepY 10 true 89 rfl rfl (fun _ _ h => h) fun σ w1 hC h => ?_)
     have e90 := eqo (h 90 (by decide))
     refine Yk.callA1 wr11_pl19 e90 ((right_any _ ((⟨c1, ((c2 : Nat) : Int), [], [], [], 0, ((d1 : Nat) : Int), zid, [], [], zid, zid, false, 0⟩, ⟨(Value.slice none 0 0), (Value.slice none 0 0), (Value.slice none 0 0), (Value.slice none 0 0)⟩) : MsgV) (MsgAt.mk (RG.nil _ _ _) (RG.nil _ _ _) (RG.nil _ _ _) (RB.nil _)) hMl).mono ?_)
     rintro e w2 ⟨rfl, hx⟩
     exact ⟨_, rfl, hx, rfl⟩
    ·refine stepFL (stepN rfl fun σ w1 hC h => ?_)
     have e89 := eqo (h 89 (by decide))
     have e91 := eqo (h 91 (by decide))
     exact Yk.pickT e89 e91 ⟨Ext.refl _, rfl⟩
    ·exact trivial
   intro ρ335 w336 hx337 he hf
   obtain ⟨-, -, -, -, -, -, -, -, -, -, -, -, -, k92, -⟩ := hf
   obtain ⟨T0, T1, T2, T3, T4, T22, T27, T35, T40, T45, T50, T56, T75, -⟩ := he.hold [(0, _), (1, _), (2, _), (3, _), (4, _), (22, .bool (false)), (27, .bool (false)), (35, .bool (false)), (40, .bool (true)), (45, .bool (false)), (50, .bool (false)), (56, .bool (false)), (75, .bool (false))] ⟨T0, T1, T2, T3, T15, rfl, rfl, rfl, rfl, rfl, rfl, rfl, rfl, trivial⟩ rfl
   clear he
   have hE0 := hE0.trans hx337
   have hb14 := eb hx337 hb14
   have hb82 := eb hx337 hb82
   have hb := eb hx337 hb
   have hb31 := eb hx337 hb31
   have T92 : ρ335 92 = .bool (rightB (((⟨c1, ((c2 : Nat) : Int), [], [], [], 0, ((d1 : Nat) : Int), zid, [], [], zid, zid, false, 0⟩, ⟨(Value.slice none 0 0), (Value.slice none 0 0), (Value.slice none 0 0), (Value.slice none 0 0)⟩) : MsgV) : MsgV).1) := k92
   clear k92
   refine Yp.callA1 wr11_pl109 T92 ?_
   refine calls_either (needW_any _ (rightB (((⟨c1, ((c2 : Nat) : Int), [], [], [], 0, ((d1 : Nat) : Int), zid, [], [], zid, zid, false, 0⟩, ⟨(Value.slice none 0 0), (Value.slice none 0 0), (Value.slice none 0 0), (Value.slice none 0 0)⟩) : MsgV) : MsgV).1)) ?_ ?_
   rotate_left
   ·
    rintro ch w340 ⟨rfl, hb, hx⟩
    refine thenF_panic (postP_panic ?_)
    exact .inr ⟨_, rfl, by rw [hD]; simp only [hPb1, Option.bind_some]; refine if_neg ?_; rintro ⟨h1, h2⟩; exact Bool.noConfusion (h2.symm.trans hb), rfl, hE0.trans hx⟩
   rintro v_ w341 ⟨rfl, hb338, hx339⟩
   have hE0 := hE0.trans hx339
   have hb14 := eb hx339 hb14
   have hb82 := eb hx339 hb82
   have hb := eb hx339 hb
   have hb31 := eb hx339 hb31
   intro ρ342 hu343
   have T0 : ρ342 0 = (PQ r 0 : Value) := (hu343 0 (by decide)).trans T0
   have T1 : ρ342 1 = (PQ n2 0 : Value) := (hu343 1 (by decide)).trans T1
   have T2 : ρ342 2 = (PQ n16 0 : Value) := (hu343 2 (by decide)).trans T2
   have T3 : ρ342 3 = (PQ n79 0 : Value) := (hu343 3 (by decide)).trans T3
   have T4 : ρ342 4 = (.bool (true) : Value) := (hu343 4 (by decide)).trans T4
   have T22 : ρ342 22 = (.bool (false) : Value) := (hu343 22 (by decide)).trans T22
   have T27 : ρ342 27 = (.bool (false) : Value) := (hu343 27 (by decide)).trans T27
   have T35 : ρ342 35 = (.bool (false) : Value) := (hu343 35 (by decide)).trans T35
   have T40 : ρ342 40 = (.bool (true) : Value) := (hu343 40 (by decide)).trans T40
   have T45 : ρ342 45 = (.bool (false) : Value) := (hu343 45 (by decide)).trans T45
   have T50 : ρ342 50 = (.bool (false) : Value) := (hu343 50 (by decide)).trans T50
   have T56 : ρ342 56 = (.bool (false) : Value) := (hu343 56 (by decide)).trans T56
   have T75 : ρ342 75 = (.bool (false) : Value) := (hu343 75 (by decide)).trans T75
   refine tN (hK334 _ _ (sk fun K344 hK344 => (wt (oS rfl (Yk.loadAll T2 hb31 (wr11_ty29).choose_spec rfl (st_isz (msg_len ((⟨c1, ((c2 : Nat) : Int), [], [], [], 0, ((d1 : Nat) : Int), zid, [], [], zid, zid, false, 0⟩, ⟨(Value.slice none 0 0), (Value.slice none 0 0), (Value.slice none 0 0), (Value.slice none 0 0)⟩) : MsgV)) wr11_isz29) (oS rfl (Yk.storeAll T2 (vr (.agg (msgC ((⟨c1, ((c2 : Nat) : Int), [], [], [], 0, ((d1 : Nat) : Int), zid, [], [], zid, zid, false, 0⟩, ⟨(Value.slice none 0 0), (Value.slice none 0 0), (Value.slice none 0 0), (Value.slice none 0 0)⟩) : MsgV)).toArray) rfl) hb31 (by simp only [List.size_toArray, msg_len]) (st_isz (msg_len _) wr11_isz29) (msg_one (x := ((⟨c1, ((c2 : Nat) : Int), [], [], [], 0, ((d1 : Nat) : Int), zid, [], [], zid, zid, false, 0⟩, ⟨(Value.slice none 0 0), (Value.slice none 0 0), (Value.slice none 0 0), (Value.slice none 0 0)⟩) : MsgV)) rfl rfl rfl rfl) fun w345 hb346 hg347 hs348 => ?_)))))))
   have hE0 := row_fresh hE0 hg347 (Nat.le_trans (Nat.le_refl _) (by omega))
   have hb14 := kb hg347 hb14 (by omega)
   have hb82 := kb hg347 hb82 (by omega)
   have hb := kb hg347 hb (by omega)
   clear hb31
   have hb31 : w345.heap[n16]? = some (.cells (msgC ((⟨c1, ((c2 : Nat) : Int), [], [], [], 0, ((d1 : Nat) : Int), zid, [], [], zid, zid, false, 0⟩, ⟨(Value.slice none 0 0), (Value.slice none 0 0), (Value.slice none 0 0), (Value.slice none 0 0)⟩) : MsgV)).toArray 29 (0, 0)) := hb346; clear hb346
   have hl349 := bl hb31
   refine oZ (tN (hK344 _ _ (wpF_ret (postP_ret (fn := Tryd.f67) _ rfl [.agg (msgC ((⟨c1, ((c2 : Nat) : Int), [], [], [], 0, ((d1 : Nat) : Int), zid, [], [], zid, zid, false, 0⟩, ⟨(Value.slice none 0 0), (Value.slice none 0 0), (Value.slice none 0 0), (Value.slice none 0 0)⟩) : MsgV)).toArray] (.agg (msgC ((⟨c1, ((c2 : Nat) : Int), [], [], [], 0, ((d1 : Nat) : Int), zid, [], [], zid, zid, false, 0⟩, ⟨(Value.slice none 0 0), (Value.slice none 0 0), (Value.slice none 0 0), (Value.slice none 0 0)⟩) : MsgV)).toArray) rfl ⟨ResF.row T2 hb31 (wr11_ty29).choose_spec rfl (st_isz (msg_len _) wr11_isz29), trivial⟩ ?_))))
   exact .inl ⟨_, rfl, ((⟨c1, ((c2 : Nat) : Int), [], [], [], 0, ((d1 : Nat) : Int), zid, [], [], zid, zid, false, 0⟩, ⟨(Value.slice none 0 0), (Value.slice none 0 0), (Value.slice none 0 0), (Value.slice none 0 0)⟩) : MsgV), by rw [hD]; simp only [hPb1, Option.bind_some]; refine if_pos ?_; exact ⟨hj, hb338⟩, rfl, (MsgAt.mk (RG.nil _ _ _) (RG.nil _ _ _) (RG.nil _ _ _) (RB.nil _)), ⟨(fun k h => by cases h), (fun k h => by cases h), (fun k h => by cases h), (fun k h => by cases h)⟩, hE0⟩
  refine tN (hK333 _ _ (wpF_false (vr (.bool (false)) rfl) (wpF_skip (tN (hK332 _ _ (sk fun K350 hK350 => ?_))))))
  refine wpF_draw_endE 14 _ [Is (PQ r 0), Is (PQ r 0), Is (PQ r 1), Is (NI i1), Is (PQ r 0), Is (PQ r 0), Is (PQ r 0), Is (v), Is (NI b.length), Is (.bool (false)), Is (.bool (false)), Is undef, Is undef, Is (.bool (false))] (by kernel_rfl) [79, 80, 81, 82, 83, 84, 85, 86, 87, 88, 89, 90, 91, 92, 93] (by kernel_rfl) (by kernel_rfl) (by kernel_rfl) rfl rfl rfl (fun _ _ => trivial) (si2 (si12 trivial)) ?hs12027 ?hQ12027
  case hs12027 =>
   refine ⟨?_, ?_, ?_, ?_, ?_, ?_, ?_, ?_, ?_, ?_, ?_, ?_, ?_, ?_, ?_, trivial⟩
   ·refine stepFL (stepN rfl fun σ w1 hC h => ?_)
    have e1 := (eqo (h 1 (by decide))).trans T1
    exact Yk.cell1 wr11_ty109 rfl e1 (cellAt (eb hC hb14) (show _ = some (PQ r 0 : Value) from rfl)) ⟨Ext.refl _, rfl⟩
   ·refine stepFL (stepN rfl fun σ w1 hC h => ?_)
    have e79 := eqo (h 79 (by decide))
    exact Yk.nilCheck e79 ⟨Ext.refl _, rfl⟩
   ·refine stepFL (stepN rfl fun σ w1 hC h => ?_)
    have e80 := eqo (h 80 (by decide))
    exact Yk.fieldAt wr11_fo111_1 e80 ⟨Ext.refl _, rfl⟩
   ·refine stepFL (stepN rfl fun σ w1 hC h => ?_)
    have e81 := eqo (h 81 (by decide))
    exact Yk.cell1 wr11_ty3 rfl e81 (cellAt (eb hC hb) (show (rdC (rdX v b (i1)))[1]? = some (NI i1 : Value) from rd_g1 (rdX v b (i1)))) ⟨Ext.refl _, rfl⟩
   ·refine stepFL (stepN rfl fun σ w1 hC h => ?_)
    have e1 := (eqo (h 1 (by decide))).trans T1
    exact Yk.cell1 wr11_ty109 rfl e1 (cellAt (eb hC hb14) (show _ = some (PQ r 0 : Value) from rfl)) ⟨Ext.refl _, rfl⟩
   ·refine stepFL (stepN rfl fun σ w1 hC h => ?_)
    have e83 := eqo (h 83 (by decide))
    exact Yk.nilCheck e83 ⟨Ext.refl _, rfl⟩
   ·refine stepFL (stepN rfl fun σ w1 hC h => ?_)
    have e84 := eqo (h 84 (by decide))
    exact Yk.fieldAt wr11_fo111_0 e84 ⟨Ext.refl _, rfl⟩
   ·refine stepFL (stepN rfl fun σ w1 hC h => ?_)
    have e85 := eqo (h 85 (by decide))
    exact Yk.cell1 wr11_ty26 rfl e85 (cellAt (eb hC hb) (show (rdC (rdX v b (i1)))[0]? = some (v : Value) from rd_g0 (rdX v b (i1)))) ⟨Ext.refl _, rfl⟩
   ·refine stepFL (stepN rfl fun σ w1 hC h => ?_)
    have e86 := eqo (h 86 (by decide))
    exact Yk.lenRB wr11_ty26 (RB.of (hr.keep (hE0.trans hC)) e86) ⟨Ext.refl _, rfl⟩
   ·refine stepFL (stepN rfl fun σ w1 hC h => ?_)
    have e82 := eqo (h 82 (by decide))
    have e87 := eqo (h 87 (by decide))
    exact Yk.eqI (a := (i1 : Nat)) (b := (b.length : Nat)) e82 e87 (k_eql _ _ _ _) ⟨Ext.refl _, (congrArg Value.bool (decide_eq_false (hj)))⟩
   ·refine stepFL (stepN rfl fun σ w1 hC h => ?_)
    have e88 := eqo (h 88 (by decide))
    exact Yk.move e88 ⟨Ext.refl _, rfl⟩
   ·refine stepFL (stepX 10 true 89 rfl rfl (fun x _ (h : x = .bool false) => by rw [h]; intro h; cases h) fun _ => rfl)
   ·refine stepFL (stepX 10 true 89 rfl rfl (fun x _ (h : x = .bool false) => by rw [h]; intro h; cases h) fun _ => rfl)
   ·refine stepFL (stepN rfl fun σ w1 hC h => ?_)
    have e89 := eqo (h 89 (by decide))
    exact Yk.pickF e89 (vr (.bool (false)) rfl) ⟨Ext.refl _, rfl⟩
   ·exact trivial
  intro ρ351 w352 hx353 he hf
  obtain ⟨-, -, -, -, -, -, -, -, -, -, -, -, -, k92, -⟩ := hf
  obtain ⟨T0, T1, T2, T3, T4, T22, T27, T35, T40, T45, T50, T56, T75, -⟩ := he.hold [(0, _), (1, _), (2, _), (3, _), (4, _), (22, .bool (false)), (27, .bool (false)), (35, .bool (false)), (40, .bool (true)), (45, .bool (false)), (50, .bool (false)), (56, .bool (false)), (75, .bool (false))] ⟨T0, T1, T2, T3, T15, rfl, rfl, rfl, rfl, rfl, rfl, rfl, rfl, trivial⟩ rfl
  clear he
  have hE0 := hE0.trans hx353
  have hb14 := eb hx353 hb14
  have hb82 := eb hx353 hb82
  have hb := eb hx353 hb
  have hb31 := eb hx353 hb31
  have T92 : ρ351 92 = .bool (false) := k92
  clear k92
  refine Yp.callA1 wr11_pl109 T92 ?_
  refine calls_either (needW_any _ (false)) ?_ ?_
  rotate_left
  ·
   rintro ch w356 ⟨rfl, hb, hx⟩
   refine thenF_panic (postP_panic ?_)
   exact .inr ⟨_, rfl, by rw [hD]; simp only [hPb1, Option.bind_some]; refine if_neg ?_; rintro ⟨h1, h2⟩; exact hj h1, rfl, hE0.trans hx⟩
  rintro v_ w357 ⟨rfl, hb354, hx355⟩
  cases hb354
 ·have hD := decP_eq hP1 hK hP2
  rw [restP6 (m := (⟨c1, ((c2 : Nat) : Int), [], [], [], 0, 0, zid, [], [], zid, zid, false, 0⟩ : Msg)) hk] at hD
  refine tN (hK91 _ _ (sk fun K358 hK358 => (sk fun K359 hK359 => (wt (oS rfl (Yk.fieldAt wr11_fo92_0 T3 (oS rfl (Yk.cell1 wr11_ty4 rfl (vr (PQ n79 0) rfl) (cellAt hb82 (show (partsC (⟨false, false, false, true, false, true, false, false⟩ : Parts))[0]? = some (.bool (false) : Value) from parts_g0 (⟨false, false, false, true, false, true, false, false⟩ : Parts))) (oZ (tN (hK359 _ _ (wpF_false (vr (.bool (false)) rfl) (wpF_skip (tN (hK358 _ _ (sk fun K360 hK360 => (sk fun K361 hK361 => (wt (oS rfl (Yk.fieldAt wr11_fo92_1 T3 (oS rfl (Yk.cell1 wr11_ty4 rfl (vr (PQ n79 1) rfl) (cellAt hb82 (show (partsC (⟨false, false, false, true, false, true, false, false⟩ : Parts))[1]? = some (.bool (false) : Value) from parts_g1 (⟨false, false, false, true, false, true, false, false⟩ : Parts))) ?_))))))))))))))))))))))
  refine oZ (tN (hK361 _ _ (wpF_false (vr (.bool (false)) rfl) (wpF_skip (tN (hK360 _ _ (sk fun K362 hK362 => (sk fun K363 hK363 => (wt (oS rfl (Yk.fieldAt wr11_fo92_2 T3 (oS rfl (Yk.cell1 wr11_ty4 rfl (vr (PQ n79 2) rfl) (cellAt hb82 (show (partsC (⟨false, false, false, true, false, true, false, false⟩ : Parts))[2]? = some (.bool (false) : Value) from parts_g2 (⟨false, false, false, true, false, true, false, false⟩ : Parts))) (oZ (tN (hK363 _ _ (wpF_false (vr (.bool (false)) rfl) (wpF_skip (tN (hK362 _ _ (sk fun K364 hK364 => ?_)))))))))))))))))))))
  refine sk fun K365 hK365 => (wt (oS rfl (Yk.fieldAt wr11_fo92_3 T3 (oS rfl (Yk.cell1 wr11_ty4 rfl (vr (PQ n79 3) rfl) (cellAt hb82 (show (partsC (⟨false, false, false, true, false, true, false, false⟩ : Parts))[3]? = some (.bool (true) : Value) from parts_g3 (⟨false, false, false, true, false, true, false, false⟩ : Parts))) (oZ (tN (hK365 _ _ (wpF_true (vr (.bool (true)) rfl) (wt (oS rfl (Yk.cell1 wr11_ty109 rfl T1 (cellAt hb14 (show _ = some (PQ r 0 : Value) from rfl)) (oP rfl (Yp.callA1 wr11_pl110 (vr (PQ r 0) rfl) ?_))))))))))))))
  refine calls_either (numberW_any _ r v b j2 hb (hr.keep hE0) hapr hle_j2 hl) ?_ ?_
  rotate_left
  ·
   rintro ch w368 ⟨hPx, rfl, hgx⟩
   refine thenF_panic (postP_panic ?_)
   exact .inr ⟨_, rfl, by rw [hD]; simp only [hPx, Option.bind_some, Option.bind_none], rfl, (row_fresh hE0 hgx lr)⟩
  rintro v_ w370 ⟨d1, i1, hPb1, rfl, hb366, hg367⟩
  have hE0 := row_fresh hE0 hg367 (Nat.le_trans (Nat.le_refl _) lr)
  have hb14 := kb hg367 hb14 (by omega)
  have hb82 := kb hg367 hb82 (by omega)
  clear hb
  have hb31 := kb hg367 hb31 (by omega)
  have hb := hb366; clear hb366
  have hle_i1 := numP_le hle_j2 hPb1
  have hl371 := bl hb
  refine oS rfl (Yk.fieldAt wr11_fo29_6 T2 (oS rfl (Yk.storeC (i := 6) (v := NI d1) (vr (PQ n16 6) rfl) (vr (NI d1) rfl) hb31 (by rw [msg_len]; decide) wr11_isz3 rfl rfl fun w372 hb373 hg374 hs375 => ?_)))
  have hE0 := row_fresh hE0 hg374 (Nat.le_trans (Nat.le_refl _) (by omega))
  have hb14 := kb hg374 hb14 (by omega)
  have hb82 := kb hg374 hb82 (by omega)
  clear hb31
  have hb := kb hg374 hb (by omega)
  have hb31 : w372.heap[n16]? = some (.cells (msgC ((⟨c1, ((c2 : Nat) : Int), [], [], [], 0, ((d1 : Nat) : Int), zid, [], [], zid, zid, false, 0⟩, ⟨(Value.slice none 0 0), (Value.slice none 0 0), (Value.slice none 0 0), (Value.slice none 0 0)⟩) : MsgV)).toArray 29 (0, 0)) := blk_eq hb373 (msg_s6 ((⟨c1, ((c2 : Nat) : Int), [], [], [], 0, 0, zid, [], [], zid, zid, false, 0⟩, ⟨(Value.slice none 0 0), (Value.slice none 0 0), (Value.slice none 0 0), (Value.slice none 0 0)⟩) : MsgV) ((d1 : Nat) : Int)); clear hb373
  have hl376 := bl hb31
  refine oZ (tN (hK364 _ _ (sk fun K377 hK377 => (sk fun K378 hK378 => (wt (oS rfl (Yk.fieldAt wr11_fo92_4 T3 (oS rfl (Yk.cell1 wr11_ty4 rfl (vr (PQ n79 4) rfl) (cellAt hb82 (show (partsC (⟨false, false, false, true, false, true, false, false⟩ : Parts))[4]? = some (.bool (false) : Value) from parts_g4 (⟨false, false, false, true, false, true, false, false⟩ : Parts))) (oZ (tN (hK378 _ _ (wpF_false (vr (.bool (false)) rfl) (wpF_skip (tN (hK377 _ _ (sk fun K379 hK379 => (sk fun K380 hK380 => (wt (oS rfl (Yk.fieldAt wr11_fo92_5 T3 ?_)))))))))))))))))))))
  refine oS rfl (Yk.cell1 wr11_ty4 rfl (vr (PQ n79 5) rfl) (cellAt hb82 (show (partsC (⟨false, false, false, true, false, true, false, false⟩ : Parts))[5]? = some (.bool (true) : Value) from parts_g5 (⟨false, false, false, true, false, true, false, false⟩ : Parts))) (oZ (tN (hK380 _ _ (wpF_true (vr (.bool (true)) rfl) (wt (oS rfl (Yk.cell1 wr11_ty109 rfl T1 (cellAt hb14 (show _ = some (PQ r 0 : Value) from rfl)) (oP rfl (Yp.callA2 wr11_pl113 (vr (PQ r 0) rfl) (vr (NI 256) rfl) ?_))))))))))
  refine calls_either (textW_any _ r v b i1 hb (hr.keep hE0) hapr hle_i1 hl 256) ?_ ?_
  rotate_left
  ·
   rintro ch w383 ⟨hPx, rfl, hgx⟩
   refine thenF_panic (postP_panic ?_)
   exact .inr ⟨_, rfl, by rw [hD]; simp only [hPb1, hPx, Option.bind_some, Option.bind_none], rfl, (row_fresh hE0 hgx lr)⟩
  rintro v_ w385 ⟨d2, i2, hPb2, rfl, hb381, hg382⟩
  have hE0 := row_fresh hE0 hg382 (Nat.le_trans (Nat.le_refl _) lr)
  have hb14 := kb hg382 hb14 (by omega)
  have hb82 := kb hg382 hb82 (by omega)
  clear hb
  have hb31 := kb hg382 hb31 (by omega)
  have hb := hb381; clear hb381
  have hle_i2 :=   (txtP_le hPb2).1
  have hl386 := bl hb
  refine oS rfl (Yk.convStr wr11_ty9 wr11_ty26 wr11_ty5 (vr (St (d2)) rfl) (by have := (txtP_le hPb2).2; omega) fun v387 w388 hr389 hx390 hq391 => ?_)
  have hap392 : OB v387 n2 := fun e => by have := (hq391 _ e).1; have := (bl hb14); omega
  have hap393 : OB v387 n79 := fun e => by have := (hq391 _ e).1; have := (bl hb82); omega
  have hap394 : OB v387 n16 := fun e => by have := (hq391 _ e).1; have := (bl hb31); omega
  have hap395 : OB v387 r := fun e => by have := (hq391 _ e).1; have := (bl hb); omega
  have hzq := hE0.size
  have hE0 := hE0.trans hx390
  have hb14 := eb hx390 hb14
  have hb82 := eb hx390 hb82
  have hb31 := eb hx390 hb31
  have hb := eb hx390 hb
  refine oS rfl (Yk.fieldAt wr11_fo29_8 T2 (oS rfl (Yk.storeC (i := 39) (v := v387) (vr (PQ n16 39) rfl) (vr v387 rfl) hb31 (by rw [msg_len]; decide) wr11_isz26 (RB.one hr389).1 (RB.one hr389).2 fun w396 hb397 hg398 hs399 => ?_)))
  have hE0 := row_fresh hE0 hg398 (Nat.le_trans (Nat.le_refl _) (by omega))
  have hb14 := kb hg398 hb14 (by omega)
  have hb82 := kb hg398 hb82 (by omega)
  clear hb31
  have hb := kb hg398 hb (by omega)
  have hr389 := RB.kept hr389 hg398 (.inr hap394)
  have hb31 : w396.heap[n16]? = some (.cells (msgC ((⟨c1, ((c2 : Nat) : Int), [], [], [], 0, ((d1 : Nat) : Int), zid, d2, [], zid, zid, false, 0⟩, ⟨(Value.slice none 0 0), (Value.slice none 0 0), (Value.slice none 0 0), v387⟩) : MsgV)).toArray 29 (0, 0)) := blk_eq hb397 (msg_s8 ((⟨c1, ((c2 : Nat) : Int), [], [], [], 0, ((d1 : Nat) : Int), zid, [], [], zid, zid, false, 0⟩, ⟨(Value.slice none 0 0), (Value.slice none 0 0), (Value.slice none 0 0), (Value.slice none 0 0)⟩) : MsgV) v387 (d2)); clear hb397
  have hl400 := bl hb31
  refine oZ (tN (hK379 _ _ (sk fun K401 hK401 => (sk fun K402 hK402 => (wt (oS rfl (Yk.fieldAt wr11_fo92_6 T3 (oS rfl (Yk.cell1 wr11_ty4 rfl (vr (PQ n79 6) rfl) (cellAt hb82 (show (partsC (⟨false, false, false, true, false, true, false, false⟩ : Parts))[6]? = some (.bool (false) : Value) from parts_g6 (⟨false, false, false, true, false, true, false, false⟩ : Parts))) (oZ (tN (hK402 _ _ (wpF_false (vr (.bool (false)) rfl) (wpF_skip (tN (hK401 _ _ (sk fun K403 hK403 => (sk fun K404 hK404 => (wt (oS rfl (Yk.fieldAt wr11_fo92_7 T3 ?_)))))))))))))))))))))
  refine oS rfl (Yk.cell1 wr11_ty4 rfl (vr (PQ n79 7) rfl) (cellAt hb82 (show (partsC (⟨false, false, false, true, false, true, false, false⟩ : Parts))[7]? = some (.bool (false) : Value) from parts_g7 (⟨false, false, false, true, false, true, false, false⟩ : Parts))) (oZ ?_))
  have hMl : MsgLt (((⟨c1, ((c2 : Nat) : Int), [], [], [], 0, ((d1 : Nat) : Int), zid, d2, [], zid, zid, false, 0⟩, ⟨(Value.slice none 0 0), (Value.slice none 0 0), (Value.slice none 0 0), v387⟩) : MsgV) : MsgV).1 := ⟨by simp, fun u hu => (by cases hu), by simp, by simp, by simp⟩
  by_cases hj : i2 = b.length
  ·refine tN (hK404 _ _ (wpF_false (vr (.bool (false)) rfl) (wpF_skip (tN (hK403 _ _ (sk fun K405 hK405 => ?_))))))
   refine wpF_draw_endE 14 _ [Is (PQ r 0), Is (PQ r 0), Is (PQ r 1), Is (NI i2), Is (PQ r 0), Is (PQ r 0), Is (PQ r 0), Is (v), Is (NI b.length), Is (.bool (true)), Is (.bool (true)), Is (.agg (msgC ((⟨c1, ((c2 : Nat) : Int), [], [], [], 0, ((d1 : Nat) : Int), zid, d2, [], zid, zid, false, 0⟩, ⟨(Value.slice none 0 0), (Value.slice none 0 0), (Value.slice none 0 0), v387⟩) : MsgV)).toArray), Is (.bool (rightB (((⟨c1, ((c2 : Nat) : Int), [], [], [], 0, ((d1 : Nat) : Int), zid, d2, [], zid, zid, false, 0⟩, ⟨(Value.slice none 0 0), (Value.slice none 0 0), (Value.slice none 0 0), v387⟩) : MsgV) : MsgV).1)), Is (.bool (rightB (((⟨c1, ((c2 : Nat) : Int), [], [], [], 0, ((d1 : Nat) : Int), zid, d2, [], zid, zid, false, 0⟩, ⟨(Value.slice none 0 0), (Value.slice none 0 0), (Value.slice none 0 0), v387⟩) : MsgV) : MsgV).1))] (by kernel_rfl) [79, 80, 81, 82, 83, 84, 85, 86, 87, 88, 89, 90, 91, 92, 93] (by kernel_rfl) (by kernel_rfl) (by kernel_rfl) rfl rfl rfl (fun _ _ => trivial) (si2 (si12 trivial)) ?hs13027 ?hQ13027
   case hs13027 =>
    refine ⟨?_, ?_, ?_, ?_, ?_, ?_, ?_, ?_, ?_, ?_, ?_, ?_, ?_, ?_, ?_, trivial⟩
    ·refine stepFL (stepN rfl fun σ w1 hC h => ?_)
     have e1 := (eqo (h 1 (by decide))).trans T1
     exact Yk.cell1 wr11_ty109 rfl e1 (cellAt (eb hC hb14) (show _ = some (PQ r 0 : Value) from rfl)) ⟨Ext.refl _, rfl⟩
    ·refine stepFL (stepN rfl fun σ w1 hC h => ?_)
     have e79 := eqo (h 79 (by decide))
     exact Yk.nilCheck e79 ⟨Ext.refl _, rfl⟩
    ·refine stepFL (stepN rfl fun σ w1 hC h => ?_)
     have e80 := eqo (h 80 (by decide))
     exact Yk.fieldAt wr11_fo111_1 e80 ⟨Ext.refl _, rfl⟩
    ·refine stepFL (stepN rfl fun σ w1 hC h => ?_)
     have e81 := eqo (h 81 (by decide))
     exact Yk.cell1 wr11_ty3 rfl e81 (cellAt (eb hC hb) (show (rdC (rdX v b (i2)))[1]? = some (NI i2 : Value) from rd_g1 (rdX v b (i2)))) ⟨Ext.refl _, rfl⟩
    ·refine stepFL (stepN rfl fun σ w1 hC h => ?_)
     have e1 := (eqo (h 1 (by decide))).trans T1
     exact Yk.cell1 wr11_ty109 rfl e1 (cellAt (eb hC hb14) (show _ = some (PQ r 0 : Value) from rfl)) ⟨Ext.refl _, rfl⟩
    ·refine stepFL (stepN rfl fun σ w1 hC h => ?_)
     have e83 := eqo (h 83 (by decide))
     exact Yk.nilCheck e83 ⟨Ext.refl _, rfl⟩
    ·refine stepFL (stepN rfl fun σ w1 hC h => ?_)
     have e84 := eqo (h 84 (by decide))
     exact Yk.fieldAt wr11_fo111_0 e84 ⟨Ext.refl _, rfl⟩
    ·refine stepFL (stepN rfl fun σ w1 hC h => ?_)
     have e85 := eqo (h 85 (by decide))
     exact Yk.cell1 wr11_ty26 rfl e85 (cellAt (eb hC hb) (show (rdC (rdX v b (i2)))[0]? = some (v : Value) from rd_g0 (rdX v b (i2)))) ⟨Ext.refl _, rfl⟩
    ·refine stepFL (stepN rfl fun σ w1 hC h => ?_)
     have e86 := eqo (h 86 (by decide))
     exact Yk.lenRB wr11_ty26 (RB.of (hr.keep (hE0.trans hC)) e86) ⟨Ext.refl _, rfl⟩
    ·refine stepFL (stepN rfl fun σ w1 hC h => ?_)
     have e82 := eqo (h 82 (by decide))
     have e87 := eqo (h 87 (by decide))
     exact Yk.eqI (a := (i2 : Nat)) (b := (b.length : Nat)) e82 e87 (k_eql _ _ _ _) ⟨Ext.refl _, (congrArg Value.bool (decide_eq_true (hj)))⟩
    ·refine stepFL (stepN rfl fun σ w1 hC h => ?_)
     have e88 := eqo (h 88 (by decide))
     exact Yk.move e88 ⟨Ext.refl _, rfl⟩
    ·refine stepFL (stepY 10 true 89 rfl rfl (fun _ _ h => h) fun σ w1 hC h => ?_)
     have e2 := (eqo (h 2 (by decide))).trans T2
     exact Yk.loadAll e2 (eb hC hb31) (wr11_ty29).choose_spec rfl (st_isz (msg_len ((⟨c1, ((c2 : Nat) : Int), [], [], [], 0, ((d1 : Nat) : Int), zid, d2, [], zid, zid, false, 0⟩, ⟨(Value.slice none 0 0), (Value.slice none 0 0), (Value.slice none 0 0), v387⟩) : MsgV)) wr11_isz29) ⟨Ext.refl _, rfl⟩
    ·refine stepFL (stepY 10 true 89 rfl rfl (fun _ _ h => h) fun σ w1 hC h => ?_)
     have e90 := eqo (h 90 (by decide))
     refine Yk.callA1 wr11_pl19 e90 ((right_any _ ((⟨c1, ((c2 : Nat) : Int), [], [], [], 0, ((d1 : Nat) : Int), zid, d2, [], zid, zid, false, 0⟩, ⟨(Value.slice none 0 0), (Value.slice none 0 0), (Value.slice none 0 0), v387⟩) : MsgV) (MsgAt.mk (RG.nil _ _ _) (RG.nil _ _ _) (RG.nil _ _ _) (hr389.keep hC)) hMl).mono ?_)
     rintro e w2 ⟨rfl, hx⟩
     exact ⟨_, rfl, hx, rfl⟩
    ·refine stepFL (stepN rfl fun σ w1 hC h => ?_)
     have e89 := eqo (h 89 (by decide))
     have e91 := eqo (h 91 (by decide))
     exact Yk.pickT e89 e91 ⟨Ext.refl _, rfl⟩
    ·exact trivial
   intro ρ406 w407 hx408 he hf
   obtain ⟨-, -, -, -, -, -, -, -, -, -, -, -, -, k92, -⟩ := hf
   obtain ⟨T0, T1, T2, T3, T4, T22, T27, T35, T40, T45, T50, T56, T75, -⟩ := he.hold [(0, _), (1, _), (2, _), (3, _), (4, _), (22, .bool (false)), (27, .bool (false)), (35, .bool (false)), (40, .bool (true)), (45, .bool (false)), (50, .bool (true)), (56, .bool (false)), (75, .bool (false))] ⟨T0, T1, T2, T3, T15, rfl, rfl, rfl, rfl, rfl, rfl, rfl, rfl, trivial⟩ rfl
   clear he
   have hE0 := hE0.trans hx408
   have hb14 := eb hx408 hb14
   have hb82 := eb hx408 hb82
   have hb := eb hx408 hb
   have hr389 := hr389.keep hx408
   have hb31 := eb hx408 hb31
   have T92 : ρ406 92 = .bool (rightB (((⟨c1, ((c2 : Nat) : Int), [], [], [], 0, ((d1 : Nat) : Int), zid, d2, [], zid, zid, false, 0⟩, ⟨(Value.slice none 0 0), (Value.slice none 0 0), (Value.slice none 0 0), v387⟩) : MsgV) : MsgV).1) := k92
   clear k92
   refine Yp.callA1 wr11_pl109 T92 ?_
   refine calls_either (needW_any _ (rightB (((⟨c1, ((c2 : Nat) : Int), [], [], [], 0, ((d1 : Nat) : Int), zid, d2, [], zid, zid, false, 0⟩, ⟨(Value.slice none 0 0), (Value.slice none 0 0), (Value.slice none 0 0), v387⟩) : MsgV) : MsgV).1)) ?_ ?_
   rotate_left
   ·
    rintro ch w411 ⟨rfl, hb, hx⟩
    refine thenF_panic (postP_panic ?_)
    exact .inr ⟨_, rfl, by rw [hD]; simp only [hPb1, hPb2, Option.bind_some]; refine if_neg ?_; rintro ⟨h1, h2⟩; exact Bool.noConfusion (h2.symm.trans hb), rfl, hE0.trans hx⟩
   rintro v_ w412 ⟨rfl, hb409, hx410⟩
   have hE0 := hE0.trans hx410
   have hb14 := eb hx410 hb14
   have hb82 := eb hx410 hb82
   have hb := eb hx410 hb
   have hr389 := hr389.keep hx410
   have hb31 := eb hx410 hb31
   intro ρ413 hu414
   have T0 : ρ413 0 = (PQ r 0 : Value) := (hu414 0 (by decide)).trans T0
   have T1 : ρ413 1 = (PQ n2 0 : Value) := (hu414 1 (by decide)).trans T1
   have T2 : ρ413 2 = (PQ n16 0 : Value) := (hu414 2 (by decide)).trans T2
   have T3 : ρ413 3 = (PQ n79 0 : Value) := (hu414 3 (by decide)).trans T3
   have T4 : ρ413 4 = (.bool (true) : Value) := (hu414 4 (by decide)).trans T4
   have T22 : ρ413 22 = (.bool (false) : Value) := (hu414 22 (by decide)).trans T22
   have T27 : ρ413 27 = (.bool (false) : Value) := (hu414 27 (by decide)).trans T27
   have T35 : ρ413 35 = (.bool (false) : Value) := (hu414 35 (by decide)).trans T35
   have T40 : ρ413 40 = (.bool (true) : Value) := (hu414 40 (by decide)).trans T40
   have T45 : ρ413 45 = (.bool (false) : Value) := (hu414 45 (by decide)).trans T45
   have T50 : ρ413 50 = (.bool (true) : Value) := (hu414 50 (by decide)).trans T50
   have T56 : ρ413 56 = (.bool (false) : Value) := (hu414 56 (by decide)).trans T56
   have T75 : ρ413 75 = (.bool (false) : Value) := (hu414 75 (by decide)).trans T75
   refine tN (hK405 _ _ (sk fun K415 hK415 => (wt (oS rfl (Yk.loadAll T2 hb31 (wr11_ty29).choose_spec rfl (st_isz (msg_len ((⟨c1, ((c2 : Nat) : Int), [], [], [], 0, ((d1 : Nat) : Int), zid, d2, [], zid, zid, false, 0⟩, ⟨(Value.slice none 0 0), (Value.slice none 0 0), (Value.slice none 0 0), v387⟩) : MsgV)) wr11_isz29) (oS rfl (Yk.storeAll T2 (vr (.agg (msgC ((⟨c1, ((c2 : Nat) : Int), [], [], [], 0, ((d1 : Nat) : Int), zid, d2, [], zid, zid, false, 0⟩, ⟨(Value.slice none 0 0), (Value.slice none 0 0), (Value.slice none 0 0), v387⟩) : MsgV)).toArray) rfl) hb31 (by simp only [List.size_toArray, msg_len]) (st_isz (msg_len _) wr11_isz29) (msg_one (x := ((⟨c1, ((c2 : Nat) : Int), [], [], [], 0, ((d1 : Nat) : Int), zid, d2, [], zid, zid, false, 0⟩, ⟨(Value.slice none 0 0), (Value.slice none 0 0), (Value.slice none 0 0), v387⟩) : MsgV)) rfl rfl rfl (RB.one hr389).2) fun w416 hb417 hg418 hs419 => ?_)))))))
   have hE0 := row_fresh hE0 hg418 (Nat.le_trans (Nat.le_refl _) (by omega))
   have hb14 := kb hg418 hb14 (by omega)
   have hb82 := kb hg418 hb82 (by omega)
   have hb := kb hg418 hb (by omega)
   have hr389 := RB.kept hr389 hg418 (.inr hap394)
   clear hb31
   have hb31 : w416.heap[n16]? = some (.cells (msgC ((⟨c1, ((c2 : Nat) : Int), [], [], [], 0, ((d1 : Nat) : Int), zid, d2, [], zid, zid, false, 0⟩, ⟨(Value.slice none 0 0), (Value.slice none 0 0), (Value.slice none 0 0), v387⟩) : MsgV)).toArray 29 (0, 0)) := hb417; clear hb417
   have hl420 := bl hb31
   refine oZ (tN (hK415 _ _ (wpF_ret (postP_ret (fn := Tryd.f67) _ rfl [.agg (msgC ((⟨c1, ((c2 : Nat) : Int), [], [], [], 0, ((d1 : Nat) : Int), zid, d2, [], zid, zid, false, 0⟩, ⟨(Value.slice none 0 0), (Value.slice none 0 0), (Value.slice none 0 0), v387⟩) : MsgV)).toArray] (.agg (msgC ((⟨c1, ((c2 : Nat) : Int), [], [], [], 0, ((d1 : Nat) : Int), zid, d2, [], zid, zid, false, 0⟩, ⟨(Value.slice none 0 0), (Value.slice none 0 0), (Value.slice none 0 0), v387⟩) : MsgV)).toArray) rfl ⟨ResF.row T2 hb31 (wr11_ty29).choose_spec rfl (st_isz (msg_len _) wr11_isz29), trivial⟩ ?_))))
   exact .inl ⟨_, rfl, ((⟨c1, ((c2 : Nat) : Int), [], [], [], 0, ((d1 : Nat) : Int), zid, d2, [], zid, zid, false, 0⟩, ⟨(Value.slice none 0 0), (Value.slice none 0 0), (Value.slice none 0 0), v387⟩) : MsgV), by rw [hD]; simp only [hPb1, hPb2, Option.bind_some]; refine if_pos ?_; exact ⟨hj, hb409⟩, rfl, (MsgAt.mk (RG.nil _ _ _) (RG.nil _ _ _) (RG.nil _ _ _) hr389), ⟨(fun k h => by cases h), (fun k h => by cases h), (fun k h => by cases h), (fun k h => by have := (hq391 k h).1; omega)⟩, hE0⟩
  refine tN (hK404 _ _ (wpF_false (vr (.bool (false)) rfl) (wpF_skip (tN (hK403 _ _ (sk fun K421 hK421 => ?_))))))
  refine wpF_draw_endE 14 _ [Is (PQ r 0), Is (PQ r 0), Is (PQ r 1), Is (NI i2), Is (PQ r 0), Is (PQ r 0), Is (PQ r 0), Is (v), Is (NI b.length), Is (.bool (false)), Is (.bool (false)), Is undef, Is undef, Is (.bool (false))] (by kernel_rfl) [79, 80, 81, 82, 83, 84, 85, 86, 87, 88, 89, 90, 91, 92, 93] (by kernel_rfl) (by kernel_rfl) (by kernel_rfl) rfl rfl rfl (fun _ _ => trivial) (si2 (si12 trivial)) ?hs14027 ?hQ14027
  case hs14027 =>
   refine ⟨?_, ?_, ?_, ?_, ?_, ?_, ?_, ?_, ?_, ?_, ?_, ?_, ?_, ?_, ?_, trivial⟩
   ·refine stepFL (stepN rfl fun σ w1 hC h => ?_)
    have e1 := (eqo (h 1 (by decide))).trans T1
    exact Yk.cell1 wr11_ty109 rfl e1 (cellAt (eb hC hb14) (show _ = some (PQ r 0 : Value) from rfl)) ⟨Ext.refl _, rfl⟩
   ·refine stepFL (stepN rfl fun σ w1 hC h => ?_)
    have e79 := eqo (h 79 (by decide))
    exact Yk.nilCheck e79 ⟨Ext.refl _, rfl⟩
   ·refine stepFL (stepN rfl fun σ w1 hC h => ?_)
    have e80 := eqo (h 80 (by decide))
    exact Yk.fieldAt wr11_fo111_1 e80 ⟨Ext.refl _, rfl⟩
   ·refine stepFL (stepN rfl fun σ w1 hC h => ?_)
    have e81 := eqo (h 81 (by decide))
    exact Yk.cell1 wr11_ty3 rfl e81 (cellAt (eb hC hb) (show (rdC (rdX v b (i2)))[1]? = some (NI i2 : Value) from rd_g1 (rdX v b (i2)))) ⟨Ext.refl _, rfl⟩
   ·refine stepFL (stepN rfl fun σ w1 hC h => ?_)
    have e1 := (eqo (h 1 (by decide))).trans T1
    exact Yk.cell1 wr11_ty109 rfl e1 (cellAt (eb hC hb14) (show _ = some (PQ r 0 : Value) from rfl)) ⟨Ext.refl _, rfl⟩
   ·refine stepFL (stepN rfl fun σ w1 hC h => ?_)
    have e83 := eqo (h 83 (by decide))
    exact Yk.nilCheck e83 ⟨Ext.refl _, rfl⟩
   ·refine stepFL (stepN rfl fun σ w1 hC h => ?_)
    have e84 := eqo (h 84 (by decide))
    exact Yk.fieldAt wr11_fo111_0 e84 ⟨Ext.refl _, rfl⟩
   ·refine stepFL (stepN rfl fun σ w1 hC h => ?_)
    have e85 := eqo (h 85 (by decide))
    exact Yk.cell1 wr11_ty26 rfl e85 (cellAt (eb hC hb) (show (rdC (rdX v b (i2)))[0]? = some (v : Value) from rd_g0 (rdX v b (i2)))) ⟨Ext.refl _, rfl⟩
   ·refine stepFL (stepN rfl fun σ w1 hC h => ?_)
    have e86 := eqo (h 86 (by decide))
    exact Yk.lenRB wr11_ty26 (RB.of (hr.keep (hE0.trans hC)) e86) ⟨Ext.refl _, rfl⟩
   ·refine stepFL (stepN rfl fun σ w1 hC h => ?_)
    have e82 := eqo (h 82 (by decide))
    have e87 := eqo (h 87 (by decide))
    exact Yk.eqI (a := (i2 : Nat)) (b := (b.length : Nat)) e82 e87 (k_eql _ _ _ _) ⟨Ext.refl _, (congrArg Value.bool (decide_eq_false (hj)))⟩
   ·refine stepFL (stepN rfl fun σ w1 hC h => ?_)
    have e88 := eqo (h 88 (by decide))
    exact Yk.move e88 ⟨Ext.refl _, rfl⟩
   ·refine stepFL (stepX 10 true 89 rfl rfl (fun x _ (h : x = .bool false) => by rw [h]; intro h; cases h) fun _ => rfl)
   ·refine stepFL (stepX 10 true 89 rfl rfl (fun x _ (h : x = .bool false) => by rw [h]; intro h; cases h) fun _ => rfl)
   ·refine stepFL (stepN rfl fun σ w1 hC h => ?_)
    have e89 := eqo (h 89 (by decide))
    exact Yk.pickF e89 (vr (.bool (false)) rfl) ⟨Ext.refl _, rfl⟩
   ·exact trivial
  intro ρ422 w423 hx424 he hf
  obtain ⟨-, -, -, -, -, -, -, -, -, -, -, -, -, k92, -⟩ := hf
  obtain ⟨T0, T1, T2, T3, T4, T22, T27, T35, T40, T45, T50, T56, T75, -⟩ := he.hold [(0, _), (1, _), (2, _), (3, _), (4, _), (22, .bool (false)), (27, .bool (false)), (35, .bool (false)), (40, .bool (true)), (45, .bool (false)), (50, .bool (true)), (56, .bool (false)), (75, .bool (false))] ⟨T0, T1, T2, T3, T15, rfl, rfl, rfl, rfl, rfl, rfl, rfl, rfl, trivial⟩ rfl
  clear he
  have hE0 := hE0.trans hx424
  have hb14 := eb hx424 hb14
  have hb82 := eb hx424 hb82
  have hb := eb hx424 hb
  have hr389 := hr389.keep hx424
  have hb31 := eb hx424 hb31
  have T92 : ρ422 92 = .bool (false) := k92
  clear k92
  refine Yp.callA1 wr11_pl109 T92 ?_
  refine calls_either (needW_any _ (false)) ?_ ?_
  rotate_left
  ·
   rintro ch w427 ⟨rfl, hb, hx⟩
   refine thenF_panic (postP_panic ?_)
   exact .inr ⟨_, rfl, by rw [hD]; simp only [hPb1, hPb2, Option.bind_some]; refine if_neg ?_; rintro ⟨h1, h2⟩; exact hj h1, rfl, hE0.trans hx⟩
  rintro v_ w428 ⟨rfl, hb425, hx426⟩
  cases hb425
 ·have hD := decP_eq hP1 hK hP2
  rw [restP7 (m := (⟨c1, ((c2 : Nat) : Int), [], [], [], 0, 0, zid, [], [], zid, zid, false, 0⟩ : Msg)) hk] at hD
  refine tN (hK91 _ _ (sk fun K429 hK429 => (sk fun K430 hK430 => (wt (oS rfl (Yk.fieldAt wr11_fo92_0 T3 (oS rfl (Yk.cell1 wr11_ty4 rfl (vr (PQ n79 0) rfl) (cellAt hb82 (show (partsC (⟨false, false, true, false, true, false, true, false⟩ : Parts))[0]? = some (.bool (false) : Value) from parts_g0 (⟨false, false, true, false, true, false, true, false⟩ : Parts))) (oZ (tN (hK430 _ _ (wpF_false (vr (.bool (false)) rfl) (wpF_skip (tN (hK429 _ _ (sk fun K431 hK431 => (sk fun K432 hK432 => (wt (oS rfl (Yk.fieldAt wr11_fo92_1 T3 (oS rfl (Yk.cell1 wr11_ty4 rfl (vr (PQ n79 1) rfl) (cellAt hb82 (show (partsC (⟨false, false, true, false, true, false, true, false⟩ : Parts))[1]? = some (.bool (false) : Value) from parts_g1 (⟨false, false, true, false, true, false, true, false⟩ : Parts))) ?_))))))))))))))))))))))
  refine oZ (tN (hK432 _ _ (wpF_false (vr (.bool (false)) rfl) (wpF_skip (tN (hK431 _ _ (sk fun K433 hK433 => (sk fun K434 hK434 => (wt (oS rfl (Yk.fieldAt wr11_fo92_2 T3 (oS rfl (Yk.cell1 wr11_ty4 rfl (vr (PQ n79 2) rfl) (cellAt hb82 (show (partsC (⟨false, false, true, false, true, false, true, false⟩ : Parts))[2]? = some (.bool (true) : Value) from parts_g2 (⟨false, false, true, false, true, false, true, false⟩ : Parts))) (oZ (tN (hK434 _ _ (wpF_true (vr (.bool (true)) rfl) (wt (oS rfl (Yk.cell1 wr11_ty109 rfl T1 (cellAt hb14 (show _ = some (PQ r 0 : Value) from rfl)) (oP rfl (Yp.callA1 wr11_pl110 (vr (PQ r 0) rfl) ?_))))))))))))))))))))))
  refine calls_either (numberW_any _ r v b j2 hb (hr.keep hE0) hapr hle_j2 hl) ?_ ?_
  rotate_left
  ·
   rintro ch w437 ⟨hPx, rfl, hgx⟩
   refine thenF_panic (postP_panic ?_)
   exact .inr ⟨_, rfl, by rw [hD]; simp only [hPx, Option.bind_some, Option.bind_none], rfl, (row_fresh hE0 hgx lr)⟩
  rintro v_ w439 ⟨d1, i1, hPb1, rfl, hb435, hg436⟩
  have hE0 := row_fresh hE0 hg436 (Nat.le_trans (Nat.le_refl _) lr)
  have hb14 := kb hg436 hb14 (by omega)
  have hb82 := kb hg436 hb82 (by omega)
  clear hb
  have hb31 := kb hg436 hb31 (by omega)
  have hb := hb435; clear hb435
  have hle_i1 := numP_le hle_j2 hPb1
  have hl440 := bl hb
  refine oS rfl (Yk.fieldAt wr11_fo29_5 T2 (oS rfl (Yk.storeC (i := 5) (v := NI d1) (vr (PQ n16 5) rfl) (vr (NI d1) rfl) hb31 (by rw [msg_len]; decide) wr11_isz3 rfl rfl fun w441 hb442 hg443 hs444 => ?_)))
  have hE0 := row_fresh hE0 hg443 (Nat.le_trans (Nat.le_refl _) (by omega))
  have hb14 := kb hg443 hb14 (by omega)
  have hb82 := kb hg443 hb82 (by omega)
  clear hb31
  have hb := kb hg443 hb (by omega)
  have hb31 : w441.heap[n16]? = some (.cells (msgC ((⟨c1, ((c2 : Nat) : Int), [], [], [], ((d1 : Nat) : Int), 0, zid, [], [], zid, zid, false, 0⟩, ⟨(Value.slice none 0 0), (Value.slice none 0 0), (Value.slice none 0 0), (Value.slice none 0 0)⟩) : MsgV)).toArray 29 (0, 0)) := blk_eq hb442 (msg_s5 ((⟨c1, ((c2 : Nat) : Int), [], [], [], 0, 0, zid, [], [], zid, zid, false, 0⟩, ⟨(Value.slice none 0 0), (Value.slice none 0 0), (Value.slice none 0 0), (Value.slice none 0 0)⟩) : MsgV) ((d1 : Nat) : Int)); clear hb442
  have hl445 := bl hb31
  refine oZ (tN (hK433 _ _ (sk fun K446 hK446 => (sk fun K447 hK447 => (wt (oS rfl (Yk.fieldAt wr11_fo92_3 T3 (oS rfl (Yk.cell1 wr11_ty4 rfl (vr (PQ n79 3) rfl) (cellAt hb82 (show (partsC (⟨false, false, true, false, true, false, true, false⟩ : Parts))[3]? = some (.bool (false) : Value) from parts_g3 (⟨false, false, true, false, true, false, true, false⟩ : Parts))) (oZ (tN (hK447 _ _ (wpF_false (vr (.bool (false)) rfl) (wpF_skip (tN (hK446 _ _ (sk fun K448 hK448 => (sk fun K449 hK449 => (wt (oS rfl (Yk.fieldAt wr11_fo92_4 T3 ?_)))))))))))))))))))))
  refine oS rfl (Yk.cell1 wr11_ty4 rfl (vr (PQ n79 4) rfl) (cellAt hb82 (show (partsC (⟨false, false, true, false, true, false, true, false⟩ : Parts))[4]? = some (.bool (true) : Value) from parts_g4 (⟨false, false, true, false, true, false, true, false⟩ : Parts))) (oZ (tN (hK449 _ _ (wpF_true (vr (.bool (true)) rfl) (wt (oS rfl (Yk.cell1 wr11_ty109 rfl T1 (cellAt hb14 (show _ = some (PQ r 0 : Value) from rfl)) (oP rfl (Yp.callA1 wr11_pl114 (vr (PQ r 0) rfl) ?_))))))))))
  refine calls_either (idW_any _ r v b i1 hb (hr.keep hE0) hapr hle_i1 hl) ?_ ?_
  rotate_left
  ·
   rintro ch w452 ⟨hPx, rfl, hgx⟩
   refine thenF_panic (postP_panic ?_)
   exact .inr ⟨_, rfl, by rw [hD]; simp only [hPb1, hPx, Option.bind_some, Option.bind_none], rfl, (row_fresh hE0 hgx lr)⟩
  rintro v_ w454 ⟨d2, i2, hPb2, rfl, hb450, hg451⟩
  have hE0 := row_fresh hE0 hg451 (Nat.le_trans (Nat.le_refl _) lr)
  have hb14 := kb hg451 hb14 (by omega)
  have hb82 := kb hg451 hb82 (by omega)
  clear hb
  have hb31 := kb hg451 hb31 (by omega)
  have hb := hb450; clear hb450
  have hle_i2 := idP_le hPb2
  have hl455 := bl hb
  refine oS rfl (Yk.fieldAt wr11_fo29_7 T2 (oS rfl (Yk.storeMid (a := msg_a7 ((⟨c1, ((c2 : Nat) : Int), [], [], [], ((d1 : Nat) : Int), 0, zid, [], [], zid, zid, false, 0⟩, ⟨(Value.slice none 0 0), (Value.slice none 0 0), (Value.slice none 0 0), (Value.slice none 0 0)⟩) : MsgV)) (m := Lib.byteCells zid.1) (z := msg_z7 ((⟨c1, ((c2 : Nat) : Int), [], [], [], ((d1 : Nat) : Int), 0, zid, [], [], zid, zid, false, 0⟩, ⟨(Value.slice none 0 0), (Value.slice none 0 0), (Value.slice none 0 0), (Value.slice none 0 0)⟩) : MsgV)) (cells := Lib.byteCells d2.1) (vr (PQ n16 7) rfl) (vr (AB d2.1) rfl) (msg_m7 ((⟨c1, ((c2 : Nat) : Int), [], [], [], ((d1 : Nat) : Int), 0, zid, [], [], zid, zid, false, 0⟩, ⟨(Value.slice none 0 0), (Value.slice none 0 0), (Value.slice none 0 0), (Value.slice none 0 0)⟩) : MsgV) ▸ hb31) (msg_n7 ((⟨c1, ((c2 : Nat) : Int), [], [], [], ((d1 : Nat) : Int), 0, zid, [], [], zid, zid, false, 0⟩, ⟨(Value.slice none 0 0), (Value.slice none 0 0), (Value.slice none 0 0), (Value.slice none 0 0)⟩) : MsgV)) (by rw [Lib.byteCells_length, Lib.byteCells_length, zid.2, d2.2]) (by rw [Lib.byteCells_length, d2.2]; exact wr11_isz25) (byteCells_one _) fun w456 hb457 hg458 hs459 => ?_)))
  have hE0 := row_fresh hE0 hg458 (Nat.le_trans (Nat.le_refl _) (by omega))
  have hb14 := kb hg458 hb14 (by omega)
  have hb82 := kb hg458 hb82 (by omega)
  clear hb31
  have hb := kb hg458 hb (by omega)
  have hb31 : w456.heap[n16]? = some (.cells (msgC ((⟨c1, ((c2 : Nat) : Int), [], [], [], ((d1 : Nat) : Int), 0, d2, [], [], zid, zid, false, 0⟩, ⟨(Value.slice none 0 0), (Value.slice none 0 0), (Value.slice none 0 0), (Value.slice none 0 0)⟩) : MsgV)).toArray 29 (0, 0)) := blk_eq hb457 (msg_s7 ((⟨c1, ((c2 : Nat) : Int), [], [], [], ((d1 : Nat) : Int), 0, zid, [], [], zid, zid, false, 0⟩, ⟨(Value.slice none 0 0), (Value.slice none 0 0), (Value.slice none 0 0), (Value.slice none 0 0)⟩) : MsgV) d2); clear hb457
  have hl460 := bl hb31
  refine oZ (tN (hK448 _ _ (sk fun K461 hK461 => (sk fun K462 hK462 => (wt (oS rfl (Yk.fieldAt wr11_fo92_5 T3 (oS rfl (Yk.cell1 wr11_ty4 rfl (vr (PQ n79 5) rfl) (cellAt hb82 (show (partsC (⟨false, false, true, false, true, false, true, false⟩ : Parts))[5]? = some (.bool (false) : Value) from parts_g5 (⟨false, false, true, false, true, false, true, false⟩ : Parts))) (oZ (tN (hK462 _ _ (wpF_false (vr (.bool (false)) rfl) (wpF_skip (tN (hK461 _ _ (sk fun K463 hK463 => (sk fun K464 hK464 => (wt (oS rfl (Yk.fieldAt wr11_fo92_6 T3 ?_)))))))))))))))))))))
  refine oS rfl (Yk.cell1 wr11_ty4 rfl (vr (PQ n79 6) rfl) (cellAt hb82 (show (partsC (⟨false, false, true, false, true, false, true, false⟩ : Parts))[6]? = some (.bool (true) : Value) from parts_g6 (⟨false, false, true, false, true, false, true, false⟩ : Parts))) (oZ (tN (hK464 _ _ (wpF_true (vr (.bool (true)) rfl) (sk fun K465 hK465 => (wt (oS rfl (Yk.cell1 wr11_ty109 rfl T1 (cellAt hb14 (show _ = some (PQ r 0 : Value) from rfl)) (oP rfl (Yp.callA2 wr11_pl113 (vr (PQ r 0) rfl) (vr (NI 32) rfl) ?_)))))))))))
  refine calls_either (textW_any _ r v b i2 hb (hr.keep hE0) hapr hle_i2 hl 32) ?_ ?_
  rotate_left
  ·
   rintro ch w468 ⟨hPx, rfl, hgx⟩
   refine thenF_panic (thenF_panic (postP_panic ?_))
   exact .inr ⟨_, rfl, by rw [hD]; simp only [hPb1, hPb2, hPx, Option.bind_some, Option.bind_none], rfl, (row_fresh hE0 hgx lr)⟩
  rintro v_ w470 ⟨d3, i3, hPb3, rfl, hb466, hg467⟩
  have hE0 := row_fresh hE0 hg467 (Nat.le_trans (Nat.le_refl _) lr)
  have hb14 := kb hg467 hb14 (by omega)
  have hb82 := kb hg467 hb82 (by omega)
  clear hb
  have hb31 := kb hg467 hb31 (by omega)
  have hb := hb466; clear hb466
  have hle_i3 :=   (txtP_le hPb3).1
  have hl471 := bl hb
  refine oS rfl (Yk.fieldAt wr11_fo29_9 T2 (oS rfl (Yk.storeC (i := 40) (v := St (d3)) (vr (PQ n16 40) rfl) (vr (St (d3)) rfl) hb31 (by rw [msg_len]; decide) wr11_isz9 rfl rfl fun w472 hb473 hg474 hs475 => ?_)))
  have hE0 := row_fresh hE0 hg474 (Nat.le_trans (Nat.le_refl _) (by omega))
  have hb14 := kb hg474 hb14 (by omega)
  have hb82 := kb hg474 hb82 (by omega)
  clear hb31
  have hb := kb hg474 hb (by omega)
  have hb31 : w472.heap[n16]? = some (.cells (msgC ((⟨c1, ((c2 : Nat) : Int), [], [], [], ((d1 : Nat) : Int), 0, d2, [], d3, zid, zid, false, 0⟩, ⟨(Value.slice none 0 0), (Value.slice none 0 0), (Value.slice none 0 0), (Value.slice none 0 0)⟩) : MsgV)).toArray 29 (0, 0)) := blk_eq hb473 (msg_s9 ((⟨c1, ((c2 : Nat) : Int), [], [], [], ((d1 : Nat) : Int), 0, d2, [], [], zid, zid, false, 0⟩, ⟨(Value.slice none 0 0), (Value.slice none 0 0), (Value.slice none 0 0), (Value.slice none 0 0)⟩) : MsgV) d3); clear hb473
  have hl476 := bl hb31
  refine oZ (tN (hK465 _ _ (sk fun K477 hK477 => (wt (oS rfl (Yk.cell1 wr11_ty109 rfl T1 (cellAt hb14 (show _ = some (PQ r 0 : Value) from rfl)) (oP rfl (Yp.callA1 wr11_pl114 (vr (PQ r 0) rfl) ?_))))))))
  refine calls_either (idW_any _ r v b i3 hb (hr.keep hE0) hapr hle_i3 hl) ?_ ?_
  rotate_left
  ·
   rintro ch w480 ⟨hPx, rfl, hgx⟩
   refine thenF_panic (thenF_panic (postP_panic ?_))
   exact .inr ⟨_, rfl, by rw [hD]; simp only [hPb1, hPb2, hPb3, hPx, Option.bind_some, Option.bind_none], rfl, (row_fresh hE0 hgx lr)⟩
  rintro v_ w482 ⟨d4, i4, hPb4, rfl, hb478, hg479⟩
  have hE0 := row_fresh hE0 hg479 (Nat.le_trans (Nat.le_refl _) lr)
  have hb14 := kb hg479 hb14 (by omega)
  have hb82 := kb hg479 hb82 (by omega)
  clear hb
  have hb31 := kb hg479 hb31 (by omega)
  have hb := hb478; clear hb478
  have hle_i4 := idP_le hPb4
  have hl483 := bl hb
  refine oS rfl (Yk.fieldAt wr11_fo29_10 T2 (oS rfl (Yk.storeMid (a := msg_a10 ((⟨c1, ((c2 : Nat) : Int), [], [], [], ((d1 : Nat) : Int), 0, d2, [], d3, zid, zid, false, 0⟩, ⟨(Value.slice none 0 0), (Value.slice none 0 0), (Value.slice none 0 0), (Value.slice none 0 0)⟩) : MsgV)) (m := Lib.byteCells zid.1) (z := msg_z10 ((⟨c1, ((c2 : Nat) : Int), [], [], [], ((d1 : Nat) : Int), 0, d2, [], d3, zid, zid, false, 0⟩, ⟨(Value.slice none 0 0), (Value.slice none 0 0), (Value.slice none 0 0), (Value.slice none 0 0)⟩) : MsgV)) (cells := Lib.byteCells d4.1) (vr (PQ n16 41) rfl) (vr (AB d4.1) rfl) (msg_m10 ((⟨c1, ((c2 : Nat) : Int), [], [], [], ((d1 : Nat) : Int), 0, d2, [], d3, zid, zid, false, 0⟩, ⟨(Value.slice none 0 0), (Value.slice none 0 0), (Value.slice none 0 0), (Value.slice none 0 0)⟩) : MsgV) ▸ hb31) (msg_n10 ((⟨c1, ((c2 : Nat) : Int), [], [], [], ((d1 : Nat) : Int), 0, d2, [], d3, zid, zid, false, 0⟩, ⟨(Value.slice none 0 0), (Value.slice none 0 0), (Value.slice none 0 0), (Value.slice none 0 0)⟩) : MsgV)) (by rw [Lib.byteCells_length, Lib.byteCells_length, zid.2, d4.2]) (by rw [Lib.byteCells_length, d4.2]; exact wr11_isz25) (byteCells_one _) fun w484 hb485 hg486 hs487 => ?_)))
  have hE0 := row_fresh hE0 hg486 (Nat.le_trans (Nat.le_refl _) (by omega))
  have hb14 := kb hg486 hb14 (by omega)
  have hb82 := kb hg486 hb82 (by omega)
  clear hb31
  have hb := kb hg486 hb (by omega)
  have hb31 : w484.heap[n16]? = some (.cells (msgC ((⟨c1, ((c2 : Nat) : Int), [], [], [], ((d1 : Nat) : Int), 0, d2, [], d3, d4, zid, false, 0⟩, ⟨(Value.slice none 0 0), (Value.slice none 0 0), (Value.slice none 0 0), (Value.slice none 0 0)⟩) : MsgV)).toArray 29 (0, 0)) := blk_eq hb485 (msg_s10 ((⟨c1, ((c2 : Nat) : Int), [], [], [], ((d1 : Nat) : Int), 0, d2, [], d3, zid, zid, false, 0⟩, ⟨(Value.slice none 0 0), (Value.slice none 0 0), (Value.slice none 0 0), (Value.slice none 0 0)⟩) : MsgV) d4); clear hb485
  have hl488 := bl hb31
  refine oL_ [(0, PQ r 0), (1, PQ n2 0), (2, PQ n16 0), (3, PQ n79 0), (4, .bool (true)), (22, .bool (false)), (27, .bool (false)), (35, .bool (true)), (40, .bool (false)), (45, .bool (true)), (50, .bool (false)), (56, .bool (true))] ⟨T0, T1, T2, T3, T15, rfl, rfl, rfl, rfl, rfl, rfl, rfl, trivial⟩ fun ρ489 ⟨T0, T1, T2, T3, T4, T22, T27, T35, T40, T45, T50, T56, _⟩ => (tN (hK477 _ _ (sk fun K490 hK490 => (wt (oS rfl (Yk.cell1 wr11_ty109 rfl T1 (cellAt hb14 (show _ = some (PQ r 0 : Value) from rfl)) (oP rfl (Yp.callA1 wr11_pl114 (vr (PQ r 0) rfl) ?_))))))))
  refine calls_either (idW_any _ r v b i4 hb (hr.keep hE0) hapr hle_i4 hl) ?_ ?_
  rotate_left
  ·
   rintro ch w493 ⟨hPx, rfl, hgx⟩
   refine thenF_panic (thenF_panic (postP_panic ?_))
   exact .inr ⟨_, rfl, by rw [hD]; simp only [hPb1, hPb2, hPb3, hPb4, hPx, Option.bind_some, Option.bind_none], rfl, (row_fresh hE0 hgx lr)⟩
  rintro v_ w495 ⟨d5, i5, hPb5, rfl, hb491, hg492⟩
  have hE0 := row_fresh hE0 hg492 (Nat.le_trans (Nat.le_refl _) lr)
  have hb14 := kb hg492 hb14 (by omega)
  have hb82 := kb hg492 hb82 (by omega)
  clear hb
  have hb31 := kb hg492 hb31 (by omega)
  have hb := hb491; clear hb491
  have hle_i5 := idP_le hPb5
  have hl496 := bl hb
  refine oS rfl (Yk.fieldAt wr11_fo29_11 T2 (oS rfl (Yk.storeMid (a := msg_a11 ((⟨c1, ((c2 : Nat) : Int), [], [], [], ((d1 : Nat) : Int), 0, d2, [], d3, d4, zid, false, 0⟩, ⟨(Value.slice none 0 0), (Value.slice none 0 0), (Value.slice none 0 0), (Value.slice none 0 0)⟩) : MsgV)) (m := Lib.byteCells zid.1) (z := msg_z11 ((⟨c1, ((c2 : Nat) : Int), [], [], [], ((d1 : Nat) : Int), 0, d2, [], d3, d4, zid, false, 0⟩, ⟨(Value.slice none 0 0), (Value.slice none 0 0), (Value.slice none 0 0), (Value.slice none 0 0)⟩) : MsgV)) (cells := Lib.byteCells d5.1) (vr (PQ n16 73) rfl) (vr (AB d5.1) rfl) (msg_m11 ((⟨c1, ((c2 : Nat) : Int), [], [], [], ((d1 : Nat) : Int), 0, d2, [], d3, d4, zid, false, 0⟩, ⟨(Value.slice none 0 0), (Value.slice none 0 0), (Value.slice none 0 0), (Value.slice none 0 0)⟩) : MsgV) ▸ hb31) (msg_n11 ((⟨c1, ((c2 : Nat) : Int), [], [], [], ((d1 : Nat) : Int), 0, d2, [], d3, d4, zid, false, 0⟩, ⟨(Value.slice none 0 0), (Value.slice none 0 0), (Value.slice none 0 0), (Value.slice none 0 0)⟩) : MsgV)) (by rw [Lib.byteCells_length, Lib.byteCells_length, zid.2, d5.2]) (by rw [Lib.byteCells_length, d5.2]; exact wr11_isz25) (byteCells_one _) fun w497 hb498 hg499 hs500 => ?_)))
  have hE0 := row_fresh hE0 hg499 (Nat.le_trans (Nat.le_refl _) (by omega))
  have hb14 := kb hg499 hb14 (by omega)
  have hb82 := kb hg499 hb82 (by omega)
  clear hb31
  have hb := kb hg499 hb (by omega)
  have hb31 : w497.heap[n16]? = some (.cells (msgC ((⟨c1, ((c2 : Nat) : Int), [], [], [], ((d1 : Nat) : Int), 0, d2, [], d3, d4, d5, false, 0⟩, ⟨(Value.slice none 0 0), (Value.slice none 0 0), (Value.slice none 0 0), (Value.slice none 0 0)⟩) : MsgV)).toArray 29 (0, 0)) := blk_eq hb498 (msg_s11 ((⟨c1, ((c2 : Nat) : Int), [], [], [], ((d1 : Nat) : Int), 0, d2, [], d3, d4, zid, false, 0⟩, ⟨(Value.slice none 0 0), (Value.slice none 0 0), (Value.slice none 0 0), (Value.slice none 0 0)⟩) : MsgV) d5); clear hb498
  have hl501 := bl hb31
  refine oZ (tN (hK490 _ _ (sk fun K502 hK502 => (wt (oS rfl (Yk.cell1 wr11_ty109 rfl T1 (cellAt hb14 (show _ = some (PQ r 0 : Value) from rfl)) (oP rfl (Yp.callA1 wr11_pl108 (vr (PQ r 0) rfl) ?_))))))))
  refine calls_either (byte_any _ r v b i5 hb (hr.keep hE0) hapr hle_i5 hl) ?_ ?_
  rotate_left
  ·
   rintro ch w505 ⟨hPx, rfl, hgx⟩
   refine thenF_panic (thenF_panic (postP_panic ?_))
   exact .inr ⟨_, rfl, by rw [hD]; simp only [hPb1, hPb2, hPb3, hPb4, hPb5, hPx, Option.bind_some, Option.bind_none], rfl, (row_fresh hE0 hgx lr)⟩
  rintro v_ w507 ⟨d6, i6, hPb6, rfl, hb503, hg504⟩
  have hE0 := row_fresh hE0 hg504 (Nat.le_trans (Nat.le_refl _) lr)
  have hb14 := kb hg504 hb14 (by omega)
  have hb82 := kb hg504 hb82 (by omega)
  clear hb
  have hb31 := kb hg504 hb31 (by omega)
  have hb := hb503; clear hb503
  have hle_i6 := byteP_le hPb6
  have hl508 := bl hb
  refine oA rfl (oZ (tN (hK502 _ _ (sk fun K509 hK509 => (wt (oM rfl (oS rfl (Yk.eqI (a := ((d6).toNat : Nat)) (b := (1 : Nat)) rfl rfl (k_leq _ _ _ _) (oP rfl (Yp.callA1 wr11_pl109 (vr (.bool (decide (((d6).toNat) ≤ (1)))) rfl) ?_))))))))))
  refine calls_either (needW_any _ (decide (((d6).toNat) ≤ (1)))) ?_ ?_
  rotate_left
  ·
   rintro ch w512 ⟨rfl, hb, hx⟩
   refine thenF_panic (thenF_panic (postP_panic ?_))
   have hno := of_decide_eq_false hb
   exact .inr ⟨_, rfl, by rw [hD]; simp only [hPb1, hPb2, hPb3, hPb4, hPb5, hPb6, Option.bind_some]; rw [if_neg hno]; rfl, rfl, hE0.trans hx⟩
  rintro v_ w514 ⟨rfl, hb510, hx511⟩
  have hE0 := hE0.trans hx511
  have hb14 := eb hx511 hb14
  have hb82 := eb hx511 hb82
  have hb31 := eb hx511 hb31
  have hb := eb hx511 hb
  have hn515 := of_decide_eq_true hb510
  refine oZ (tN (hK509 _ _ (wt (oM rfl (oS rfl (Yk.eqI (a := ((d6).toNat : Nat)) (b := (1 : Nat)) rfl rfl (k_eql _ _ _ _) (oS rfl (Yk.fieldAt wr11_fo29_12 T2 (oS rfl (Yk.storeC (i := 105) (v := .bool (decide (((d6).toNat : Nat) = (1)))) (vr (PQ n16 105) rfl) (vr (.bool (decide (((d6).toNat : Nat) = (1)))) rfl) hb31 (by rw [msg_len]; decide) wr11_isz4 rfl rfl fun w516 hb517 hg518 hs519 => ?_))))))))))
  have hE0 := row_fresh hE0 hg518 (Nat.le_trans (Nat.le_refl _) (by omega))
  have hb14 := kb hg518 hb14 (by omega)
  have hb82 := kb hg518 hb82 (by omega)
  clear hb31
  have hb := kb hg518 hb (by omega)
  have hb31 : w516.heap[n16]? = some (.cells (msgC ((⟨c1, ((c2 : Nat) : Int), [], [], [], ((d1 : Nat) : Int), 0, d2, [], d3, d4, d5, (decide (((d6).toNat : Nat) = (1))), 0⟩, ⟨(Value.slice none 0 0), (Value.slice none 0 0), (Value.slice none 0 0), (Value.slice none 0 0)⟩) : MsgV)).toArray 29 (0, 0)) := blk_eq hb517 (msg_s12 ((⟨c1, ((c2 : Nat) : Int), [], [], [], ((d1 : Nat) : Int), 0, d2, [], d3, d4, d5, false, 0⟩, ⟨(Value.slice none 0 0), (Value.slice none 0 0), (Value.slice none 0 0), (Value.slice none 0 0)⟩) : MsgV) (decide (((d6).toNat : Nat) = (1)))); clear hb517
  have hl520 := bl hb31
  refine oZ (tN (hK463 _ _ (sk fun K521 hK521 => (sk fun K522 hK522 => (wt (oS rfl (Yk.fieldAt wr11_fo92_7 T3 (oS rfl (Yk.cell1 wr11_ty4 rfl (vr (PQ n79 7) rfl) (cellAt hb82 (show (partsC (⟨false, false, true, false, true, false, true, false⟩ : Parts))[7]? = some (.bool (false) : Value) from parts_g7 (⟨false, false, true, false, true, false, true, false⟩ : Parts))) (oZ ?_))))))))))
  have hMl : MsgLt (((⟨c1, ((c2 : Nat) : Int), [], [], [], ((d1 : Nat) : Int), 0, d2, [], d3, d4, d5, (decide (((d6).toNat : Nat) = (1))), 0⟩, ⟨(Value.slice none 0 0), (Value.slice none 0 0), (Value.slice none 0 0), (Value.slice none 0 0)⟩) : MsgV) : MsgV).1 := ⟨by simp, fun u hu => (by cases hu), by simp, by simp, by have := (txtP_le hPb3).2; simp only; omega⟩
  by_cases hj : i6 = b.length
  ·refine tN (hK522 _ _ (wpF_false (vr (.bool (false)) rfl) (wpF_skip (tN (hK521 _ _ (sk fun K523 hK523 => ?_))))))
   refine wpF_draw_endE 14 _ [Is (PQ r 0), Is (PQ r 0), Is (PQ r 1), Is (NI i6), Is (PQ r 0), Is (PQ r 0), Is (PQ r 0), Is (v), Is (NI b.length), Is (.bool (true)), Is (.bool (true)), Is (.agg (msgC ((⟨c1, ((c2 : Nat) : Int), [], [], [], ((d1 : Nat) : Int), 0, d2, [], d3, d4, d5, (decide (((d6).toNat : Nat) = (1))), 0⟩, ⟨(Value.slice none 0 0), (Value.slice none 0 0), (Value.slice none 0 0), (Value.slice none 0 0)⟩) : MsgV)).toArray), Is (.bool (rightB (((⟨c1, ((c2 : Nat) : Int), [], [], [], ((d1 : Nat) : Int), 0, d2, [], d3, d4, d5, (decide (((d6).toNat : Nat) = (1))), 0⟩, ⟨(Value.slice none 0 0), (Value.slice none 0 0), (Value.slice none 0 0), (Value.slice none 0 0)⟩) : MsgV) : MsgV).1)), Is (.bool (rightB (((⟨c1, ((c2 : Nat) : Int), [], [], [], ((d1 : Nat) : Int), 0, d2, [], d3, d4, d5, (decide (((d6).toNat : Nat) = (1))), 0⟩, ⟨(Value.slice none 0 0), (Value.slice none 0 0), (Value.slice none 0 0), (Value.slice none 0 0)⟩) : MsgV) : MsgV).1))] (by kernel_rfl) [79, 80, 81, 82, 83, 84, 85, 86, 87, 88, 89, 90, 91, 92, 93] (by kernel_rfl) (by kernel_rfl) (by kernel_rfl) rfl rfl rfl (fun _ _ => trivial) (si2 (si12 trivial)) ?hs15027 ?hQ15027
   case hs15027 =>
    refine ⟨?_, ?_, ?_, ?_, ?_, ?_, ?_, ?_, ?_, ?_, ?_, ?_, ?_, ?_, ?_, trivial⟩
    ·refine stepFL (stepN rfl fun σ w1 hC h => ?_)
     have e1 := (eqo (h 1 (by decide))).trans T1
     exact Yk.cell1 wr11_ty109 rfl e1 (cellAt (eb hC hb14) (show _ = some (PQ r 0 : Value) from rfl)) ⟨Ext.refl _, rfl⟩
    ·refine stepFL (stepN rfl fun σ w1 hC h => ?_)
     have e79 := eqo (h 79 (by decide))
     exact Yk.nilCheck e79 ⟨Ext.refl _, rfl⟩
    ·refine stepFL (stepN rfl fun σ w1 hC h => ?_)
     have e80 := eqo (h 80 (by decide))
     exact Yk.fieldAt wr11_fo111_1 e80 ⟨Ext.refl _, rfl⟩
    ·refine stepFL (stepN rfl fun σ w1 hC h => ?_)
     have e81 := eqo (h 81 (by decide))
     exact Yk.cell1 wr11_ty3 rfl e81 (cellAt (eb hC hb) (show (rdC (rdX v b (i6)))[1]? = some (NI i6 : Value) from rd_g1 (rdX v b (i6)))) ⟨Ext.refl _, rfl⟩
    ·refine stepFL (stepN rfl fun σ w1 hC h => ?_)
     have e1 := (eqo (h 1 (by decide))).trans T1
     exact Yk.cell1 wr11_ty109 rfl e1 (cellAt (eb hC hb14) (show _ = some (PQ r 0 : Value) from rfl)) ⟨Ext.refl _, rfl⟩
    ·refine stepFL (stepN rfl fun σ w1 hC h => ?_)
     have e83 := eqo (h 83 (by decide))
     exact Yk.nilCheck e83 ⟨Ext.refl _, rfl⟩
    ·refine stepFL (stepN rfl fun σ w1 hC h => ?_)
     have e84 := eqo (h 84 (by decide))
     exact Yk.fieldAt wr11_fo111_0 e84 ⟨Ext.refl _, rfl⟩
    ·refine stepFL (stepN rfl fun σ w1 hC h => ?_)
     have e85 := eqo (h 85 (by decide))
     exact Yk.cell1 wr11_ty26 rfl e85 (cellAt (eb hC hb) (show (rdC (rdX v b (i6)))[0]? = some (v : Value) from rd_g0 (rdX v b (i6)))) ⟨Ext.refl _, rfl⟩
    ·refine stepFL (stepN rfl fun σ w1 hC h => ?_)
     have e86 := eqo (h 86 (by decide))
     exact Yk.lenRB wr11_ty26 (RB.of (hr.keep (hE0.trans hC)) e86) ⟨Ext.refl _, rfl⟩
    ·refine stepFL (stepN rfl fun σ w1 hC h => ?_)
     have e82 := eqo (h 82 (by decide))
     have e87 := eqo (h 87 (by decide))
     exact Yk.eqI (a := (i6 : Nat)) (b := (b.length : Nat)) e82 e87 (k_eql _ _ _ _) ⟨Ext.refl _, (congrArg Value.bool (decide_eq_true (hj)))⟩
    ·refine stepFL (stepN rfl fun σ w1 hC h => ?_)
     have e88 := eqo (h 88 (by decide))
     exact Yk.move e88 ⟨Ext.refl _, rfl⟩
    ·refine stepFL (stepY 10 true 89 rfl rfl (fun _ _ h => h) fun σ w1 hC h => ?_)
     have e2 := (eqo (h 2 (by decide))).trans T2
     exact Yk.loadAll e2 (eb hC hb31) (wr11_ty29).choose_spec rfl (st_isz (msg_len ((⟨c1, ((c2 : Nat) : Int), [], [], [], ((d1 : Nat) : Int), 0, d2, [], d3, d4, d5, (decide (((d6).toNat : Nat) = (1))), 0⟩, ⟨(Value.slice none 0 0), (Value.slice none 0 0), (Value.slice none 0 0), (Value.slice none 0 0)⟩) : MsgV)) wr11_isz29) ⟨Ext.refl _, rfl⟩
    ·refine stepFL (stepY 10 true 89 rfl rfl (fun _ _ h => h) fun σ w1 hC h => ?_)
     have e90 := eqo (h 90 (by decide))
     refine Yk.callA1 wr11_pl19 e90 ((right_any _ ((⟨c1, ((c2 : Nat) : Int), [], [], [], ((d1 : Nat) : Int), 0, d2, [], d3, d4, d5, (decide (((d6).toNat : Nat) = (1))), 0⟩, ⟨(Value.slice none 0 0), (Value.slice none 0 0), (Value.slice none 0 0), (Value.slice none 0 0)⟩) : MsgV) (MsgAt.mk (RG.nil _ _ _) (RG.nil _ _ _) (RG.nil _ _ _) (RB.nil _)) hMl).mono ?_)
     rintro e w2 ⟨rfl, hx⟩
     exact ⟨_, rfl, hx, rfl⟩
    ·refine stepFL (stepN rfl fun σ w1 hC h => ?_)
     have e89 := eqo (h 89 (by decide))
     have e91 := eqo (h 91 (by decide))
     exact Yk.pickT e89 e91 ⟨Ext.refl _, rfl⟩
    ·exact trivial
   intro ρ524 w525 hx526 he hf
   obtain ⟨-, -, -, -, -, -, -, -, -, -, -, -, -, k92, -⟩ := hf
   obtain ⟨T0, T1, T2, T3, T4, T5, T22, T27, T35, T40, T45, T50, T56, T75, -⟩ := he.hold [(0, _), (1, _), (2, _), (3, _), (4, _), (5, B8 (d6)), (22, _), (27, _), (35, _), (40, _), (45, _), (50, _), (56, _), (75, .bool (false))] ⟨T0, T1, T2, T3, T4, rfl, T22, T27, T35, T40, T45, T50, T56, rfl, trivial⟩ rfl
   clear he
   have hE0 := hE0.trans hx526
   have hb14 := eb hx526 hb14
   have hb82 := eb hx526 hb82
   have hb := eb hx526 hb
   have hb31 := eb hx526 hb31
   have T92 : ρ524 92 = .bool (rightB (((⟨c1, ((c2 : Nat) : Int), [], [], [], ((d1 : Nat) : Int), 0, d2, [], d3, d4, d5, (decide (((d6).toNat : Nat) = (1))), 0⟩, ⟨(Value.slice none 0 0), (Value.slice none 0 0), (Value.slice none 0 0), (Value.slice none 0 0)⟩) : MsgV) : MsgV).1) := k92
   clear k92
   refine Yp.callA1 wr11_pl109 T92 ?_
   refine calls_either (needW_any _ (rightB (((⟨c1, ((c2 : Nat) : Int), [], [], [], ((d1 : Nat) : Int), 0, d2, [], d3, d4, d5, (decide (((d6).toNat : Nat) = (1))), 0⟩, ⟨(Value.slice none 0 0), (Value.slice none 0 0), (Value.slice none 0 0), (Value.slice none 0 0)⟩) : MsgV) : MsgV).1)) ?_ ?_
   rotate_left
   ·
    rintro ch w529 ⟨rfl, hb, hx⟩
    refine thenF_panic (postP_panic ?_)
    exact .inr ⟨_, rfl, by rw [hD]; simp only [hPb1, hPb2, hPb3, hPb4, hPb5, hPb6, if_pos hn515, Option.bind_some]; refine if_neg ?_; rintro ⟨h1, h2⟩; exact Bool.noConfusion (h2.symm.trans hb), rfl, hE0.trans hx⟩
   rintro v_ w530 ⟨rfl, hb527, hx528⟩
   have hE0 := hE0.trans hx528
   have hb14 := eb hx528 hb14
   have hb82 := eb hx528 hb82
   have hb := eb hx528 hb
   have hb31 := eb hx528 hb31
   intro ρ531 hu532
   have T0 : ρ531 0 = (PQ r 0 : Value) := (hu532 0 (by decide)).trans T0
   have T1 : ρ531 1 = (PQ n2 0 : Value) := (hu532 1 (by decide)).trans T1
   have T2 : ρ531 2 = (PQ n16 0 : Value) := (hu532 2 (by decide)).trans T2
   have T3 : ρ531 3 = (PQ n79 0 : Value) := (hu532 3 (by decide)).trans T3
   have T4 : ρ531 4 = (.bool (true) : Value) := (hu532 4 (by decide)).trans T4
   have T5 : ρ531 5 = (B8 (d6) : Value) := (hu532 5 (by decide)).trans T5
   have T22 : ρ531 22 = (.bool (false) : Value) := (hu532 22 (by decide)).trans T22
   have T27 : ρ531 27 = (.bool (false) : Value) := (hu532 27 (by decide)).trans T27
   have T35 : ρ531 35 = (.bool (true) : Value) := (hu532 35 (by decide)).trans T35
   have T40 : ρ531 40 = (.bool (false) : Value) := (hu532 40 (by decide)).trans T40
   have T45 : ρ531 45 = (.bool (true) : Value) := (hu532 45 (by decide)).trans T45
   have T50 : ρ531 50 = (.bool (false) : Value) := (hu532 50 (by decide)).trans T50
   have T56 : ρ531 56 = (.bool (true) : Value) := (hu532 56 (by decide)).trans T56
   have T75 : ρ531 75 = (.bool (false) : Value) := (hu532 75 (by decide)).trans T75
   refine tN (hK523 _ _ (sk fun K533 hK533 => (wt (oS rfl (Yk.loadAll T2 hb31 (wr11_ty29).choose_spec rfl (st_isz (msg_len ((⟨c1, ((c2 : Nat) : Int), [], [], [], ((d1 : Nat) : Int), 0, d2, [], d3, d4, d5, (decide (((d6).toNat : Nat) = (1))), 0⟩, ⟨(Value.slice none 0 0), (Value.slice none 0 0), (Value.slice none 0 0), (Value.slice none 0 0)⟩) : MsgV)) wr11_isz29) (oS rfl (Yk.storeAll T2 (vr (.agg (msgC ((⟨c1, ((c2 : Nat) : Int), [], [], [], ((d1 : Nat) : Int), 0, d2, [], d3, d4, d5, (decide (((d6).toNat : Nat) = (1))), 0⟩, ⟨(Value.slice none 0 0), (Value.slice none 0 0), (Value.slice none 0 0), (Value.slice none 0 0)⟩) : MsgV)).toArray) rfl) hb31 (by simp only [List.size_toArray, msg_len]) (st_isz (msg_len _) wr11_isz29) (msg_one (x := ((⟨c1, ((c2 : Nat) : Int), [], [], [], ((d1 : Nat) : Int), 0, d2, [], d3, d4, d5, (decide (((d6).toNat : Nat) = (1))), 0⟩, ⟨(Value.slice none 0 0), (Value.slice none 0 0), (Value.slice none 0 0), (Value.slice none 0 0)⟩) : MsgV)) rfl rfl rfl rfl) fun w534 hb535 hg536 hs537 => ?_)))))))
   have hE0 := row_fresh hE0 hg536 (Nat.le_trans (Nat.le_refl _) (by omega))
   have hb14 := kb hg536 hb14 (by omega)
   have hb82 := kb hg536 hb82 (by omega)
   have hb := kb hg536 hb (by omega)
   clear hb31
   have hb31 : w534.heap[n16]? = some (.cells (msgC ((⟨c1, ((c2 : Nat) : Int), [], [], [], ((d1 : Nat) : Int), 0, d2, [], d3, d4, d5, (decide (((d6).toNat : Nat) = (1))), 0⟩, ⟨(Value.slice none 0 0), (Value.slice none 0 0), (Value.slice none 0 0), (Value.slice none 0 0)⟩) : MsgV)).toArray 29 (0, 0)) := hb535; clear hb535
   have hl538 := bl hb31
   refine oZ (tN (hK533 _ _ (wpF_ret (postP_ret (fn := Tryd.f67) _ rfl [.agg (msgC ((⟨c1, ((c2 : Nat) : Int), [], [], [], ((d1 : Nat) : Int), 0, d2, [], d3, d4, d5, (decide (((d6).toNat : Nat) = (1))), 0⟩, ⟨(Value.slice none 0 0), (Value.slice none 0 0), (Value.slice none 0 0), (Value.slice none 0 0)⟩) : MsgV)).toArray] (.agg (msgC ((⟨c1, ((c2 : Nat) : Int), [], [], [], ((d1 : Nat) : Int), 0, d2, [], d3, d4, d5, (decide (((d6).toNat : Nat) = (1))), 0⟩, ⟨(Value.slice none 0 0), (Value.slice none 0 0), (Value.slice none 0 0), (Value.slice none 0 0)⟩) : MsgV)).toArray) rfl ⟨ResF.row T2 hb31 (wr11_ty29).choose_spec rfl (st_isz (msg_len _) wr11_isz29), trivial⟩ ?_))))
   exact .inl ⟨_, rfl, ((⟨c1, ((c2 : Nat) : Int), [], [], [], ((d1 : Nat) : Int), 0, d2, [], d3, d4, d5, (decide (((d6).toNat : Nat) = (1))), 0⟩, ⟨(Value.slice none 0 0), (Value.slice none 0 0), (Value.slice none 0 0), (Value.slice none 0 0)⟩) : MsgV), by rw [hD]; simp only [hPb1, hPb2, hPb3, hPb4, hPb5, hPb6, if_pos hn515, Option.bind_some]; refine if_pos ?_; exact ⟨hj, hb527⟩, rfl, (MsgAt.mk (RG.nil _ _ _) (RG.nil _ _ _) (RG.nil _ _ _) (RB.nil _)), ⟨(fun k h => by cases h), (fun k h => by cases h), (fun k h => by cases h), (fun k h => by cases h)⟩, hE0⟩
  refine tN (hK522 _ _ (wpF_false (vr (.bool (false)) rfl) (wpF_skip (tN (hK521 _ _ (sk fun K539 hK539 => ?_))))))
  refine wpF_draw_endE 14 _ [Is (PQ r 0), Is (PQ r 0), Is (PQ r 1), Is (NI i6), Is (PQ r 0), Is (PQ r 0), Is (PQ r 0), Is (v), Is (NI b.length), Is (.bool (false)), Is (.bool (false)), Is undef, Is undef, Is (.bool (false))] (by kernel_rfl) [79, 80, 81, 82, 83, 84, 85, 86, 87, 88, 89, 90, 91, 92, 93] (by kernel_rfl) (by kernel_rfl) (by kernel_rfl) rfl rfl rfl (fun _ _ => trivial) (si2 (si12 trivial)) ?hs16027 ?hQ16027
  case hs16027 =>
   refine ⟨?_, ?_, ?_, ?_, ?_, ?_, ?_, ?_, ?_, ?_, ?_, ?_, ?_, ?_, ?_, trivial⟩
   ·refine stepFL (stepN rfl fun σ w1 hC h => ?_)
    have e1 := (eqo (h 1 (by decide))).trans T1
    exact Yk.cell1 wr11_ty109 rfl e1 (cellAt (eb hC hb14) (show _ = some (PQ r 0 : Value) from rfl)) ⟨Ext.refl _, rfl⟩
   ·refine stepFL (stepN rfl fun σ w1 hC h => ?_)
    have e79 := eqo (h 79 (by decide))
    exact Yk.nilCheck e79 ⟨Ext.refl _, rfl⟩
   ·refine stepFL (stepN rfl fun σ w1 hC h => ?_)
    have e80 := eqo (h 80 (by decide))
    exact Yk.fieldAt wr11_fo111_1 e80 ⟨Ext.refl _, rfl⟩
   ·refine stepFL (stepN rfl fun σ w1 hC h => ?_)
    have e81 := eqo (h 81 (by decide))
    exact Yk.cell1 wr11_ty3 rfl e81 (cellAt (eb hC hb) (show (rdC (rdX v b (i6)))[1]? = some (NI i6 : Value) from rd_g1 (rdX v b (i6)))) ⟨Ext.refl _, rfl⟩
   ·refine stepFL (stepN rfl fun σ w1 hC h => ?_)
    have e1 := (eqo (h 1 (by decide))).trans T1
    exact Yk.cell1 wr11_ty109 rfl e1 (cellAt (eb hC hb14) (show _ = some (PQ r 0 : Value) from rfl)) ⟨Ext.refl _, rfl⟩
   ·refine stepFL (stepN rfl fun σ w1 hC h => ?_)
    have e83 := eqo (h 83 (by decide))
    exact Yk.nilCheck e83 ⟨Ext.refl _, rfl⟩
   ·refine stepFL (stepN rfl fun σ w1 hC h => ?_)
    have e84 := eqo (h 84 (by decide))
    exact Yk.fieldAt wr11_fo111_0 e84 ⟨Ext.refl _, rfl⟩
   ·refine stepFL (stepN rfl fun σ w1 hC h => ?_)
    have e85 := eqo (h 85 (by decide))
    exact Yk.cell1 wr11_ty26 rfl e85 (cellAt (eb hC hb) (show (rdC (rdX v b (i6)))[0]? = some (v : Value) from rd_g0 (rdX v b (i6)))) ⟨Ext.refl _, rfl⟩
   ·refine stepFL (stepN rfl fun σ w1 hC h => ?_)
    have e86 := eqo (h 86 (by decide))
    exact Yk.lenRB wr11_ty26 (RB.of (hr.keep (hE0.trans hC)) e86) ⟨Ext.refl _, rfl⟩
   ·refine stepFL (stepN rfl fun σ w1 hC h => ?_)
    have e82 := eqo (h 82 (by decide))
    have e87 := eqo (h 87 (by decide))
    exact Yk.eqI (a := (i6 : Nat)) (b := (b.length : Nat)) e82 e87 (k_eql _ _ _ _) ⟨Ext.refl _, (congrArg Value.bool (decide_eq_false (hj)))⟩
   ·refine stepFL (stepN rfl fun σ w1 hC h => ?_)
    have e88 := eqo (h 88 (by decide))
    exact Yk.move e88 ⟨Ext.refl _, rfl⟩
   ·refine stepFL (stepX 10 true 89 rfl rfl (fun x _ (h : x = .bool false) => by rw [h]; intro h; cases h) fun _ => rfl)
   ·refine stepFL (stepX 10 true 89 rfl rfl (fun x _ (h : x = .bool false) => by rw [h]; intro h; cases h) fun _ => rfl)
   ·refine stepFL (stepN rfl fun σ w1 hC h => ?_)
    have e89 := eqo (h 89 (by decide))
    exact Yk.pickF e89 (vr (.bool (false)) rfl) ⟨Ext.refl _, rfl⟩
   ·exact trivial
  intro ρ540 w541 hx542 he hf
  obtain ⟨-, -, -, -, -, -, -, -, -, -, -, -, -, k92, -⟩ := hf
  obtain ⟨T0, T1, T2, T3, T4, T5, T22, T27, T35, T40, T45, T50, T56, T75, -⟩ := he.hold [(0, _), (1, _), (2, _), (3, _), (4, _), (5, B8 (d6)), (22, _), (27, _), (35, _), (40, _), (45, _), (50, _), (56, _), (75, .bool (false))] ⟨T0, T1, T2, T3, T4, rfl, T22, T27, T35, T40, T45, T50, T56, rfl, trivial⟩ rfl
  clear he
  have hE0 := hE0.trans hx542
  have hb14 := eb hx542 hb14
  have hb82 := eb hx542 hb82
  have hb := eb hx542 hb
  have hb31 := eb hx542 hb31
  have T92 : ρ540 92 = .bool (false) := k92
  clear k92
  refine Yp.callA1 wr11_pl109 T92 ?_
  refine calls_either (needW_any _ (false)) ?_ ?_
  rotate_left
  ·
   rintro ch w545 ⟨rfl, hb, hx⟩
   refine thenF_panic (postP_panic ?_)
   exact .inr ⟨_, rfl, by rw [hD]; simp only [hPb1, hPb2, hPb3, hPb4, hPb5, hPb6, if_pos hn515, Option.bind_some]; refine if_neg ?_; rintro ⟨h1, h2⟩; exact hj h1, rfl, hE0.trans hx⟩
  rintro v_ w546 ⟨rfl, hb543, hx544⟩
  cases hb543
 have hD := decP_eq hP1 hK hP2
 rw [restP8 (m := (⟨c1, ((c2 : Nat) : Int), [], [], [], 0, 0, zid, [], [], zid, zid, false, 0⟩ : Msg)) hk] at hD
 refine tN (hK91 _ _ (sk fun K547 hK547 => (sk fun K548 hK548 => (wt (oS rfl (Yk.fieldAt wr11_fo92_0 T3 (oS rfl (Yk.cell1 wr11_ty4 rfl (vr (PQ n79 0) rfl) (cellAt hb82 (show (partsC (⟨false, false, false, false, false, false, false, true⟩ : Parts))[0]? = some (.bool (false) : Value) from parts_g0 (⟨false, false, false, false, false, false, false, true⟩ : Parts))) (oZ (tN (hK548 _ _ (wpF_false (vr (.bool (false)) rfl) (wpF_skip (tN (hK547 _ _ (sk fun K549 hK549 => (sk fun K550 hK550 => (wt (oS rfl (Yk.fieldAt wr11_fo92_1 T3 (oS rfl (Yk.cell1 wr11_ty4 rfl (vr (PQ n79 1) rfl) (cellAt hb82 (show (partsC (⟨false, false, false, false, false, false, false, true⟩ : Parts))[1]? = some (.bool (false) : Value) from parts_g1 (⟨false, false, false, false, false, false, false, true⟩ : Parts))) ?_))))))))))))))))))))))
 refine oZ (tN (hK550 _ _ (wpF_false (vr (.bool (false)) rfl) (wpF_skip (tN (hK549 _ _ (sk fun K551 hK551 => (sk fun K552 hK552 => (wt (oS rfl (Yk.fieldAt wr11_fo92_2 T3 (oS rfl (Yk.cell1 wr11_ty4 rfl (vr (PQ n79 2) rfl) (cellAt hb82 (show (partsC (⟨false, false, false, false, false, false, false, true⟩ : Parts))[2]? = some (.bool (false) : Value) from parts_g2 (⟨false, false, false, false, false, false, false, true⟩ : Parts))) (oZ (tN (hK552 _ _ (wpF_false (vr (.bool (false)) rfl) (wpF_skip (tN (hK551 _ _ (sk fun K553 hK553 => ?_)))))))))))))))))))))
 refine sk fun K554 hK554 => (wt (oS rfl (Yk.fieldAt wr11_fo92_3 T3 (oS rfl (Yk.cell1 wr11_ty4 rfl (vr (PQ n79 3) rfl) (cellAt hb82 (show (partsC (⟨false, false, false, false, false, false, false, true⟩ : Parts))[3]? = some (.bool (false) : Value) from parts_g3 (⟨false, false, false, false, false, false, false, true⟩ : Parts))) (oZ (tN (hK554 _ _ (wpF_false (vr (.bool (false)) rfl) (wpF_skip (tN (hK553 _ _ (sk fun K555 hK555 => (sk fun K556 hK556 => (wt (oS rfl (Yk.fieldAt wr11_fo92_4 T3 (oS rfl (Yk.cell1 wr11_ty4 rfl (vr (PQ n79 4) rfl) (cellAt hb82 (show (partsC (⟨false, false, false, false, false, false, false, true⟩ : Parts))[4]? = some (.bool (false) : Value) from parts_g4 (⟨false, false, false, false, false, false, false, true⟩ : Parts))) (oZ (tN (hK556 _ _ ?_))))))))))))))))))))))
 refine wpF_false (vr (.bool (false)) rfl) (wpF_skip (tN (hK555 _ _ (sk fun K557 hK557 => (sk fun K558 hK558 => (wt (oS rfl (Yk.fieldAt wr11_fo92_5 T3 (oS rfl (Yk.cell1 wr11_ty4 rfl (vr (PQ n79 5) rfl) (cellAt hb82 (show (partsC (⟨false, false, false, false, false, false, false, true⟩ : Parts))[5]? = some (.bool (false) : Value) from parts_g5 (⟨false, false, false, false, false, false, false, true⟩ : Parts))) (oZ (tN (hK558 _ _ (wpF_false (vr (.bool (false)) rfl) (wpF_skip (tN (hK557 _ _ (sk fun K559 hK559 => (sk fun K560 hK560 => (wt ?_))))))))))))))))))))
 refine oS rfl (Yk.fieldAt wr11_fo92_6 T3 (oS rfl (Yk.cell1 wr11_ty4 rfl (vr (PQ n79 6) rfl) (cellAt hb82 (show (partsC (⟨false, false, false, false, false, false, false, true⟩ : Parts))[6]? = some (.bool (false) : Value) from parts_g6 (⟨false, false, false, false, false, false, false, true⟩ : Parts))) (oZ (tN (hK560 _ _ (wpF_false (vr (.bool (false)) rfl) (wpF_skip (tN (hK559 _ _ (sk fun K561 hK561 => (sk fun K562 hK562 => (wt (oS rfl (Yk.fieldAt wr11_fo92_7 T3 (oS rfl (Yk.cell1 wr11_ty4 rfl (vr (PQ n79 7) rfl) (cellAt hb82 (show (partsC (⟨false, false, false, false, false, false, false, true⟩ : Parts))[7]? = some (.bool (true) : Value) from parts_g7 (⟨false, false, false, false, false, false, false, true⟩ : Parts))) (oZ (tN (hK562 _ _ (wpF_true (vr (.bool (true)) rfl) (wt ?_))))))))))))))))))))))
 refine oS rfl (Yk.cell1 wr11_ty109 rfl T1 (cellAt hb14 (show _ = some (PQ r 0 : Value) from rfl)) (oP rfl (Yp.callA1 wr11_pl110 (vr (PQ r 0) rfl) ?_)))
 refine calls_either (numberW_any _ r v b j2 hb (hr.keep hE0) hapr hle_j2 hl) ?_ ?_
 rotate_left
 ·
  rintro ch w565 ⟨hPx, rfl, hgx⟩
  refine thenF_panic (postP_panic ?_)
  exact .inr ⟨_, rfl, by rw [hD]; simp only [hPx, Option.bind_some, Option.bind_none], rfl, (row_fresh hE0 hgx lr)⟩
 rintro v_ w567 ⟨d1, i1, hPb1, rfl, hb563, hg564⟩
 have hE0 := row_fresh hE0 hg564 (Nat.le_trans (Nat.le_refl _) lr)
 have hb14 := kb hg564 hb14 (by omega)
 have hb82 := kb hg564 hb82 (by omega)
 clear hb
 have hb31 := kb hg564 hb31 (by omega)
 have hb := hb563; clear hb563
 have hle_i1 := numP_le hle_j2 hPb1
 have hl568 := bl hb
 refine oS rfl (Yk.fieldAt wr11_fo29_13 T2 (oS rfl (Yk.storeC (i := 106) (v := NI d1) (vr (PQ n16 106) rfl) (vr (NI d1) rfl) hb31 (by rw [msg_len]; decide) wr11_isz27 rfl rfl fun w569 hb570 hg571 hs572 => ?_)))
 have hE0 := row_fresh hE0 hg571 (Nat.le_trans (Nat.le_refl _) (by omega))
 have hb14 := kb hg571 hb14 (by omega)
 have hb82 := kb hg571 hb82 (by omega)
 clear hb31
 have hb := kb hg571 hb (by omega)
 have hb31 : w569.heap[n16]? = some (.cells (msgC ((⟨c1, ((c2 : Nat) : Int), [], [], [], 0, 0, zid, [], [], zid, zid, false, ((d1 : Nat) : Int)⟩, ⟨(Value.slice none 0 0), (Value.slice none 0 0), (Value.slice none 0 0), (Value.slice none 0 0)⟩) : MsgV)).toArray 29 (0, 0)) := blk_eq hb570 (msg_s13 ((⟨c1, ((c2 : Nat) : Int), [], [], [], 0, 0, zid, [], [], zid, zid, false, 0⟩, ⟨(Value.slice none 0 0), (Value.slice none 0 0), (Value.slice none 0 0), (Value.slice none 0 0)⟩) : MsgV) ((d1 : Nat) : Int)); clear hb570
 have hl573 := bl hb31
 refine oZ ?_
 have hMl : MsgLt (((⟨c1, ((c2 : Nat) : Int), [], [], [], 0, 0, zid, [], [], zid, zid, false, ((d1 : Nat) : Int)⟩, ⟨(Value.slice none 0 0), (Value.slice none 0 0), (Value.slice none 0 0), (Value.slice none 0 0)⟩) : MsgV) : MsgV).1 := ⟨by simp, fun u hu => (by cases hu), by simp, by simp, by simp⟩
 by_cases hj : i1 = b.length
 ·refine tN (hK561 _ _ (sk fun K574 hK574 => ?_))
  refine wpF_draw_endE 14 _ [Is (PQ r 0), Is (PQ r 0), Is (PQ r 1), Is (NI i1), Is (PQ r 0), Is (PQ r 0), Is (PQ r 0), Is (v), Is (NI b.length), Is (.bool (true)), Is (.bool (true)), Is (.agg (msgC ((⟨c1, ((c2 : Nat) : Int), [], [], [], 0, 0, zid, [], [], zid, zid, false, ((d1 : Nat) : Int)⟩, ⟨(Value.slice none 0 0), (Value.slice none 0 0), (Value.slice none 0 0), (Value.slice none 0 0)⟩) : MsgV)).toArray), Is (.bool (rightB (((⟨c1, ((c2 : Nat) : Int), [], [], [], 0, 0, zid, [], [], zid, zid, false, ((d1 : Nat) : Int)⟩, ⟨(Value.slice none 0 0), (Value.slice none 0 0), (Value.slice none 0 0), (Value.slice none 0 0)⟩) : MsgV) : MsgV).1)), Is (.bool (rightB (((⟨c1, ((c2 : Nat) : Int), [], [], [], 0, 0, zid, [], [], zid, zid, false, ((d1 : Nat) : Int)⟩, ⟨(Value.slice none 0 0), (Value.slice none 0 0), (Value.slice none 0 0), (Value.slice none 0 0)⟩) : MsgV) : MsgV).1))] (by kernel_rfl) [79, 80, 81, 82, 83, 84, 85, 86, 87, 88, 89, 90, 91, 92, 93] (by kernel_rfl) (by kernel_rfl) (by kernel_rfl) rfl rfl rfl (fun _ _ => trivial) (si2 (si12 trivial)) ?hs17027 ?hQ17027
  case hs17027 =>
   refine ⟨?_, ?_, ?_, ?_, ?_, ?_, ?_, ?_, ?_, ?_, ?_, ?_, ?_, ?_, ?_, trivial⟩
   ·refine stepFL (stepN rfl fun σ w1 hC h => ?_)
    have e1 := (eqo (h 1 (by decide))).trans T1
    exact Yk.cell1 wr11_ty109 rfl e1 (cellAt (eb hC hb14) (show _ = some (PQ r 0 : Value) from rfl)) ⟨Ext.refl _, rfl⟩
   ·refine stepFL (stepN rfl fun σ w1 hC h => ?_)
    have e79 := eqo (h 79 (by decide))
    exact Yk.nilCheck e79 ⟨Ext.refl _, rfl⟩
   ·refine stepFL (stepN rfl fun σ w1 hC h => ?_)
    have e80 := eqo (h 80 (by decide))
    exact Yk.fieldAt wr11_fo111_1 e80 ⟨Ext.refl _, rfl⟩
   ·refine stepFL (stepN rfl fun σ w1 hC h => ?_)
    have e81 := eqo (h 81 (by decide))
    exact Yk.cell1 wr11_ty3 rfl e81 (cellAt (eb hC hb) (show (rdC (rdX v b (i1)))[1]? = some (NI i1 : Value) from rd_g1 (rdX v b (i1)))) ⟨Ext.refl _, rfl⟩
   ·refine stepFL (stepN rfl fun σ w1 hC h => ?_)
    have e1 := (eqo (h 1 (by decide))).trans T1
    exact Yk.cell1 wr11_ty109 rfl e1 (cellAt (eb hC hb14) (show _ = some (PQ r 0 : Value) from rfl)) ⟨Ext.refl _, rfl⟩
   ·refine stepFL (stepN rfl fun σ w1 hC h => ?_)
    have e83 := eqo (h 83 (by decide))
    exact Yk.nilCheck e83 ⟨Ext.refl _, rfl⟩
   ·refine stepFL (stepN rfl fun σ w1 hC h => ?_)
    have e84 := eqo (h 84 (by decide))
    exact Yk.fieldAt wr11_fo111_0 e84 ⟨Ext.refl _, rfl⟩
   ·refine stepFL (stepN rfl fun σ w1 hC h => ?_)
    have e85 := eqo (h 85 (by decide))
    exact Yk.cell1 wr11_ty26 rfl e85 (cellAt (eb hC hb) (show (rdC (rdX v b (i1)))[0]? = some (v : Value) from rd_g0 (rdX v b (i1)))) ⟨Ext.refl _, rfl⟩
   ·refine stepFL (stepN rfl fun σ w1 hC h => ?_)
    have e86 := eqo (h 86 (by decide))
    exact Yk.lenRB wr11_ty26 (RB.of (hr.keep (hE0.trans hC)) e86) ⟨Ext.refl _, rfl⟩
   ·refine stepFL (stepN rfl fun σ w1 hC h => ?_)
    have e82 := eqo (h 82 (by decide))
    have e87 := eqo (h 87 (by decide))
    exact Yk.eqI (a := (i1 : Nat)) (b := (b.length : Nat)) e82 e87 (k_eql _ _ _ _) ⟨Ext.refl _, (congrArg Value.bool (decide_eq_true (hj)))⟩
   ·refine stepFL (stepN rfl fun σ w1 hC h => ?_)
    have e88 := eqo (h 88 (by decide))
    exact Yk.move e88 ⟨Ext.refl _, rfl⟩
   ·refine stepFL (stepY 10 true 89 rfl rfl (fun _ _ h => h) fun σ w1 hC h => ?_)
    have e2 := (eqo (h 2 (by decide))).trans T2
    exact Yk.loadAll e2 (eb hC hb31) (wr11_ty29).choose_spec rfl (st_isz (msg_len ((⟨c1, ((c2 : Nat) : Int), [], [], [], 0, 0, zid, [], [], zid, zid, false, ((d1 : Nat) : Int)⟩, ⟨(Value.slice none 0 0), (Value.slice none 0 0), (Value.slice none 0 0), (Value.slice none 0 0)⟩) : MsgV)) wr11_isz29) ⟨Ext.refl _, rfl⟩
   ·refine stepFL (stepY 10 true 89 rfl rfl (fun _ _ h => h) fun σ w1 hC h => ?_)
    have e90 := eqo (h 90 (by decide))
    refine Yk.callA1 wr11_pl19 e90 ((right_any _ ((⟨c1, ((c2 : Nat) : Int), [], [], [], 0, 0, zid, [], [], zid, zid, false, ((d1 : Nat) : Int)⟩, ⟨(Value.slice none 0 0), (Value.slice none 0 0), (Value.slice none 0 0), (Value.slice none 0 0)⟩) : MsgV) (MsgAt.mk (RG.nil _ _ _) (RG.nil _ _ _) (RG.nil _ _ _) (RB.nil _)) hMl).mono ?_)
    rintro e w2 ⟨rfl, hx⟩
    exact ⟨_, rfl, hx, rfl⟩
   ·refine stepFL (stepN rfl fun σ w1 hC h => ?_)
    have e89 := eqo (h 89 (by decide))
    have e91 := eqo (h 91 (by decide))
    exact Yk.pickT e89 e91 ⟨Ext.refl _, rfl⟩
   ·exact trivial
  intro ρ575 w576 hx577 he hf
  obtain ⟨-, -, -, -, -, -, -, -, -, -, -, -, -, k92, -⟩ := hf
  obtain ⟨T0, T1, T2, T3, T4, T22, T27, T35, T40, T45, T50, T56, T75, -⟩ := he.hold [(0, _), (1, _), (2, _), (3, _), (4, _), (22, .bool (false)), (27, .bool (false)), (35, .bool (false)), (40, .bool (false)), (45, .bool (false)), (50, .bool (false)), (56, .bool (false)), (75, .bool (true))] ⟨T0, T1, T2, T3, T15, rfl, rfl, rfl, rfl, rfl, rfl, rfl, rfl, trivial⟩ rfl
  clear he
  have hE0 := hE0.trans hx577
  have hb14 := eb hx577 hb14
  have hb82 := eb hx577 hb82
  have hb := eb hx577 hb
  have hb31 := eb hx577 hb31
  have T92 : ρ575 92 = .bool (rightB (((⟨c1, ((c2 : Nat) : Int), [], [], [], 0, 0, zid, [], [], zid, zid, false, ((d1 : Nat) : Int)⟩, ⟨(Value.slice none 0 0), (Value.slice none 0 0), (Value.slice none 0 0), (Value.slice none 0 0)⟩) : MsgV) : MsgV).1) := k92
  clear k92
  refine Yp.callA1 wr11_pl109 T92 ?_
  refine calls_either (needW_any _ (rightB (((⟨c1, ((c2 : Nat) : Int), [], [], [], 0, 0, zid, [], [], zid, zid, false, ((d1 : Nat) : Int)⟩, ⟨(Value.slice none 0 0), (Value.slice none 0 0), (Value.slice none 0 0), (Value.slice none 0 0)⟩) : MsgV) : MsgV).1)) ?_ ?_
  rotate_left
  ·
   rintro ch w580 ⟨rfl, hb, hx⟩
   refine thenF_panic (postP_panic ?_)
   exact .inr ⟨_, rfl, by rw [hD]; simp only [hPb1, Option.bind_some]; refine if_neg ?_; rintro ⟨h1, h2⟩; exact Bool.noConfusion (h2.symm.trans hb), rfl, hE0.trans hx⟩
  rintro v_ w581 ⟨rfl, hb578, hx579⟩
  have hE0 := hE0.trans hx579
  have hb14 := eb hx579 hb14
  have hb82 := eb hx579 hb82
  have hb := eb hx579 hb
  have hb31 := eb hx579 hb31
  intro ρ582 hu583
  have T0 : ρ582 0 = (PQ r 0 : Value) := (hu583 0 (by decide)).trans T0
  have T1 : ρ582 1 = (PQ n2 0 : Value) := (hu583 1 (by decide)).trans T1
  have T2 : ρ582 2 = (PQ n16 0 : Value) := (hu583 2 (by decide)).trans T2
  have T3 : ρ582 3 = (PQ n79 0 : Value) := (hu583 3 (by decide)).trans T3
  have T4 : ρ582 4 = (.bool (true) : Value) := (hu583 4 (by decide)).trans T4
  have T22 : ρ582 22 = (.bool (false) : Value) := (hu583 22 (by decide)).trans T22
  have T27 : ρ582 27 = (.bool (false) : Value) := (hu583 27 (by decide)).trans T27
  have T35 : ρ582 35 = (.bool (false) : Value) := (hu583 35 (by decide)).trans T35
  have T40 : ρ582 40 = (.bool (false) : Value) := (hu583 40 (by decide)).trans T40
  have T45 : ρ582 45 = (.bool (false) : Value) := (hu583 45 (by decide)).trans T45
  have T50 : ρ582 50 = (.bool (false) : Value) := (hu583 50 (by decide)).trans T50
  have T56 : ρ582 56 = (.bool (false) : Value) := (hu583 56 (by decide)).trans T56
  have T75 : ρ582 75 = (.bool (true) : Value) := (hu583 75 (by decide)).trans T75
  refine tN (hK574 _ _ (sk fun K584 hK584 => (wt (oS rfl (Yk.loadAll T2 hb31 (wr11_ty29).choose_spec rfl (st_isz (msg_len ((⟨c1, ((c2 : Nat) : Int), [], [], [], 0, 0, zid, [], [], zid, zid, false, ((d1 : Nat) : Int)⟩, ⟨(Value.slice none 0 0), (Value.slice none 0 0), (Value.slice none 0 0), (Value.slice none 0 0)⟩) : MsgV)) wr11_isz29) (oS rfl (Yk.storeAll T2 (vr (.agg (msgC ((⟨c1, ((c2 : Nat) : Int), [], [], [], 0, 0, zid, [], [], zid, zid, false, ((d1 : Nat) : Int)⟩, ⟨(Value.slice none 0 0), (Value.slice none 0 0), (Value.slice none 0 0), (Value.slice none 0 0)⟩) : MsgV)).toArray) rfl) hb31 (by simp only [List.size_toArray, msg_len]) (st_isz (msg_len _) wr11_isz29) (msg_one (x := ((⟨c1, ((c2 : Nat) : Int), [], [], [], 0, 0, zid, [], [], zid, zid, false, ((d1 : Nat) : Int)⟩, ⟨(Value.slice none 0 0), (Value.slice none 0 0), (Value.slice none 0 0), (Value.slice none 0 0)⟩) : MsgV)) rfl rfl rfl rfl) fun w585 hb586 hg587 hs588 => ?_)))))))
  have hE0 := row_fresh hE0 hg587 (Nat.le_trans (Nat.le_refl _) (by omega))
  have hb14 := kb hg587 hb14 (by omega)
  have hb82 := kb hg587 hb82 (by omega)
  have hb := kb hg587 hb (by omega)
  clear hb31
  have hb31 : w585.heap[n16]? = some (.cells (msgC ((⟨c1, ((c2 : Nat) : Int), [], [], [], 0, 0, zid, [], [], zid, zid, false, ((d1 : Nat) : Int)⟩, ⟨(Value.slice none 0 0), (Value.slice none 0 0), (Value.slice none 0 0), (Value.slice none 0 0)⟩) : MsgV)).toArray 29 (0, 0)) := hb586; clear hb586
  have hl589 := bl hb31
  refine oZ (tN (hK584 _ _ (wpF_ret (postP_ret (fn := Tryd.f67) _ rfl [.agg (msgC ((⟨c1, ((c2 : Nat) : Int), [], [], [], 0, 0, zid, [], [], zid, zid, false, ((d1 : Nat) : Int)⟩, ⟨(Value.slice none 0 0), (Value.slice none 0 0), (Value.slice none 0 0), (Value.slice none 0 0)⟩) : MsgV)).toArray] (.agg (msgC ((⟨c1, ((c2 : Nat) : Int), [], [], [], 0, 0, zid, [], [], zid, zid, false, ((d1 : Nat) : Int)⟩, ⟨(Value.slice none 0 0), (Value.slice none 0 0), (Value.slice none 0 0), (Value.slice none 0 0)⟩) : MsgV)).toArray) rfl ⟨ResF.row T2 hb31 (wr11_ty29).choose_spec rfl (st_isz (msg_len _) wr11_isz29), trivial⟩ ?_))))
  exact .inl ⟨_, rfl, ((⟨c1, ((c2 : Nat) : Int), [], [], [], 0, 0, zid, [], [], zid, zid, false, ((d1 : Nat) : Int)⟩, ⟨(Value.slice none 0 0), (Value.slice none 0 0), (Value.slice none 0 0), (Value.slice none 0 0)⟩) : MsgV), by rw [hD]; simp only [hPb1, Option.bind_some]; refine if_pos ?_; exact ⟨hj, hb578⟩, rfl, (MsgAt.mk (RG.nil _ _ _) (RG.nil _ _ _) (RG.nil _ _ _) (RB.nil _)), ⟨(fun k h => by cases h), (fun k h => by cases h), (fun k h => by cases h), (fun k h => by cases h)⟩, hE0⟩
 refine tN (hK561 _ _ (sk fun K590 hK590 => ?_))
 refine wpF_draw_endE 14 _ [Is (PQ r 0), Is (PQ r 0), Is (PQ r 1), Is (NI i1), Is (PQ r 0), Is (PQ r 0), Is (PQ r 0), Is (v), Is (NI b.length), Is (.bool (false)), Is (.bool (false)), Is undef, Is undef, Is (.bool (false))] (by kernel_rfl) [79, 80, 81, 82, 83, 84, 85, 86, 87, 88, 89, 90, 91, 92, 93] (by kernel_rfl) (by kernel_rfl) (by kernel_rfl) rfl rfl rfl (fun _ _ => trivial) (si2 (si12 trivial)) ?hs18027 ?hQ18027
 case hs18027 =>
  refine ⟨?_, ?_, ?_, ?_, ?_, ?_, ?_, ?_, ?_, ?_, ?_, ?_, ?_, ?_, ?_, trivial⟩
  ·refine stepFL (stepN rfl fun σ w1 hC h => ?_)
   have e1 := (eqo (h 1 (by decide))).trans T1
   exact Yk.cell1 wr11_ty109 rfl e1 (cellAt (eb hC hb14) (show _ = some (PQ r 0 : Value) from rfl)) ⟨Ext.refl _, rfl⟩
  ·refine stepFL (stepN rfl fun σ w1 hC h => ?_)
   have e79 := eqo (h 79 (by decide))
   exact Yk.nilCheck e79 ⟨Ext.refl _, rfl⟩
  ·refine stepFL (stepN rfl fun σ w1 hC h => ?_)
   have e80 := eqo (h 80 (by decide))
   exact Yk.fieldAt wr11_fo111_1 e80 ⟨Ext.refl _, rfl⟩
  ·refine stepFL (stepN rfl fun σ w1 hC h => ?_)
   have e81 := eqo (h 81 (by decide))
   exact Yk.cell1 wr11_ty3 rfl e81 (cellAt (eb hC hb) (show (rdC (rdX v b (i1)))[1]? = some (NI i1 : Value) from rd_g1 (rdX v b (i1)))) ⟨Ext.refl _, rfl⟩
  ·refine stepFL (stepN rfl fun σ w1 hC h => ?_)
   have e1 := (eqo (h 1 (by decide))).trans T1
   exact Yk.cell1 wr11_ty109 rfl e1 (cellAt (eb hC hb14) (show _ = some (PQ r 0 : Value) from rfl)) ⟨Ext.refl _, rfl⟩
  ·refine stepFL (stepN rfl fun σ w1 hC h => ?_)
   have e83 := eqo (h 83 (by decide))
   exact Yk.nilCheck e83 ⟨Ext.refl _, rfl⟩
  ·refine stepFL (stepN rfl fun σ w1 hC h => ?_)
   have e84 := eqo (h 84 (by decide))
   exact Yk.fieldAt wr11_fo111_0 e84 ⟨Ext.refl _, rfl⟩
  ·refine stepFL (stepN rfl fun σ w1 hC h => ?_)
   have e85 := eqo (h 85 (by decide))
   exact Yk.cell1 wr11_ty26 rfl e85 (cellAt (eb hC hb) (show (rdC (rdX v b (i1)))[0]? = some (v : Value) from rd_g0 (rdX v b (i1)))) ⟨Ext.refl _, rfl⟩
  ·refine stepFL (stepN rfl fun σ w1 hC h => ?_)
   have e86 := eqo (h 86 (by decide))
   exact Yk.lenRB wr11_ty26 (RB.of (hr.keep (hE0.trans hC)) e86) ⟨Ext.refl _, rfl⟩
  ·refine stepFL (stepN rfl fun σ w1 hC h => ?_)
   have e82 := eqo (h 82 (by decide))
   have e87 := eqo (h 87 (by decide))
   exact Yk.eqI (a := (i1 : Nat)) (b := (b.length : Nat)) e82 e87 (k_eql _ _ _ _) ⟨Ext.refl _, (congrArg Value.bool (decide_eq_false (hj)))⟩
  ·refine stepFL (stepN rfl fun σ w1 hC h => ?_)
   have e88 := eqo (h 88 (by decide))
   exact Yk.move e88 ⟨Ext.refl _, rfl⟩
  ·refine stepFL (stepX 10 true 89 rfl rfl (fun x _ (h : x = .bool false) => by rw [h]; intro h; cases h) fun _ => rfl)
  ·refine stepFL (stepX 10 true 89 rfl rfl (fun x _ (h : x = .bool false) => by rw [h]; intro h; cases h) fun _ => rfl)
  ·refine stepFL (stepN rfl fun σ w1 hC h => ?_)
   have e89 := eqo (h 89 (by decide))
   exact Yk.pickF e89 (vr (.bool (false)) rfl) ⟨Ext.refl _, rfl⟩
  ·exact trivial
 intro ρ591 w592 hx593 he hf
 obtain ⟨-, -, -, -, -, -, -, -, -, -, -, -, -, k92, -⟩ := hf
 obtain ⟨T0, T1, T2, T3, T4, T22, T27, T35, T40, T45, T50, T56, T75, -⟩ := he.hold [(0, _), (1, _), (2, _), (3, _), (4, _), (22, .bool (false)), (27, .bool (false)), (35, .bool (false)), (40, .bool (false)), (45, .bool (false)), (50, .bool (false)), (56, .bool (false)), (75, .bool (true))] ⟨T0, T1, T2, T3, T15, rfl, rfl, rfl, rfl, rfl, rfl, rfl, rfl, trivial⟩ rfl
 clear he
 have hE0 := hE0.trans hx593
 have hb14 := eb hx593 hb14
 have hb82 := eb hx593 hb82
 have hb := eb hx593 hb
 have hb31 := eb hx593 hb31
 have T92 : ρ591 92 = .bool (false) := k92
 clear k92
 refine Yp.callA1 wr11_pl109 T92 ?_
 refine calls_either (needW_any _ (false)) ?_ ?_
 rotate_left
 ·
  rintro ch w596 ⟨rfl, hb, hx⟩
  refine thenF_panic (postP_panic ?_)
  exact .inr ⟨_, rfl, by rw [hD]; simp only [hPb1, Option.bind_some]; refine if_neg ?_; rintro ⟨h1, h2⟩; exact hj h1, rfl, hE0.trans hx⟩
 rintro v_ w597 ⟨rfl, hb594, hx595⟩
 cases hb594
open Go.RowKit
structure FitsD (n : Nat) (D : List Deferred) (ρ : Slots) (a : Act) : Prop where
  size : a.tmps.size = n
  defers : a.defers = D
  get : ∀ t, a.tmps.getD t undef = ρ t
theorem FitsD.fits {n : Nat} {D : List Deferred} {ρ : Slots} {a : Act} (h : FitsD n D ρ a) : Fits n ρ { a with defers := [] } := ⟨h.size, rfl, h.get⟩
theorem FitsD.ofFits {n : Nat} {ρ : Slots} {a : Act} (h : Fits n ρ a) : FitsD n [] ρ a := ⟨h.size, h.defers, h.get⟩
theorem FitsD.toFits {n : Nat} {ρ : Slots} {a : Act} (h : FitsD n [] ρ a) : Fits n ρ a := ⟨h.size, h.defers, h.get⟩
theorem FitsD.eval {n : Nat} {D : List Deferred} {ρ : Slots} {a : Act} (h : FitsD n D ρ a) : a.eval = evalR ρ := by
  funext x
  cases x with
  | tmp t => exact h.get t
  | _ => rfl
theorem FitsD.put {n : Nat} {D : List Deferred} {ρ : Slots} {a : Act} (h : FitsD n D ρ a) (d : Option Tmp) (hd : ∀ t, d = some t → t < n) (v : Value) : FitsD n D (updO ρ d v) (a.put d v) := by
  have hf := h.fits.put d hd v
  cases d with
  | none => exact h
  | some d => exact ⟨hf.size, h.defers, hf.get⟩
def wpR (P : Program) (n : Nat) (D : List Deferred) (c : Code) (QQ : Exit → Act → World → Prop) (ρ : Slots) (w : World) : Prop := ∀ a, FitsD n D ρ a → c.wp P QQ a w
def opsR (P : Program) (ops : Array Oper) (n : Nat) (D : List Deferred) (QQ : Exit → Act → World → Prop) (l : List Oper) (ρ : Slots) (w : World) : Prop := ∀ a, FitsD n D ρ a → wpList P ops QQ l a w
section
variable {P : Program} {n : Nat} {D : List Deferred} {QQ : Exit → Act → World → Prop} {ρ : Slots} {w : World}
theorem wpR_seq_k {x y : Code} (QR : PostF) (hq : ∀ e ρ a w, e ≠ .normal → Fits n ρ a → QR e ρ w → QQ e a w) (h : ∀ K : Slots → World → Prop, (∀ ρ w, wpR P n [] y QQ ρ w → K ρ w) → wpF P n x (thenF K QR) ρ w) : wpR P n [] (.seq x y) QQ ρ w := fun a ha =>
  wp_seq (wp_mono (h (fun ρ w => wpR P n [] y QQ ρ w) (fun _ _ h => h) a ha.toFits) fun e a' w' ⟨ρ', hf, hQ⟩ => by
    cases e with
    | normal => exact hQ a' (FitsD.ofFits hf)
    | exit _ => exact hq _ ρ' a' w' (by simp) hf hQ
    | goto _ => exact hq _ ρ' a' w' (by simp) hf hQ
    | ret => exact hq _ ρ' a' w' (by simp) hf hQ
    | panic _ => exact hq _ ρ' a' w' (by simp) hf hQ
    | outgrown => exact hq _ ρ' a' w' (by simp) hf hQ)
theorem wpR_seq_text {id : Nat} {l : List Oper} {y : Code} (h : opsR P l.toArray n D (Exit.then (y.wp P QQ) QQ) l ρ w) : wpR P n D (.seq (.region id l.toArray false) y) QQ ρ w := fun a ha => wp_seq (wp_region_lit (h a ha))
theorem wpR_ret (h : ∀ a, FitsD n D ρ a → QQ .ret a w) : wpR P n D .ret QQ ρ w := fun a ha => wp_ret (h a ha)
theorem opsR_end {ops : Array Oper} {y : Code} (I : Slots → Prop) (hI : I ρ) (h : ∀ ρ', I ρ' → wpR P n D y QQ ρ' w) : opsR P ops n D (Exit.then (y.wp P QQ) QQ) [] ρ w := fun a ha => h ρ hI a ha
theorem opsR_stepP {ops : Array Oper} {rest : List Oper} {dst : Option Tmp} {op : Op} {ty : TypeId} {pos : String} {af : Array Edge} (hd : (match dst with | some d => Nat.blt d n | none => true) = true)
    (h : Yp P (fun v w' => opsR P ops n D QQ rest (updO ρ dst v) w') (fun ch w' => ∀ a, FitsD n D ρ a → QQ (.panic ch) a w') ((execOp (evalR ρ) ⟨dst, op, ty, pos, af, none⟩).run P w)) : opsR P ops n D QQ (⟨dst, op, ty, pos, af, none⟩ :: rest) ρ w := by
  intro a ha
  have hdn : ∀ t, dst = some t → t < n := fun t ht => by subst ht; exact Nat.le_of_ble_eq_true hd
  refine wpList_plain rfl fun K hK => ?_
  unfold Oper.wp Oper.upon
  rw [ha.eval]
  have hput := fun v => ha.put dst hdn v
  revert h
  generalize (execOp (evalR ρ) ⟨dst, op, ty, pos, af, none⟩).run P w = r
  intro h
  match r, h with
  | .ok (.value v) w', h => exact hK _ _ (h _ (hput v))
  | .ok .skip w', h => exact hK _ _ (h _ (hput undef))
  | .halt (.panic v) w', h => exact h a ha
  | .ok (.enter f args) w', h =>
    refine Calls.mono h ?_
    intro e w'' hx
    match e, hx with
    | .returned v, hx => exact hK _ _ (hx _ (hput v))
    | .panicked ch, hx => exact hx a ha
theorem opsR_step {ops : Array Oper} {rest : List Oper} {dst : Option Tmp} {op : Op} {ty : TypeId} {pos : String} {af : Array Edge} (hd : (match dst with | some d => Nat.blt d n | none => true) = true)
    (h : Yk P (fun v w' => opsR P ops n D QQ rest (updO ρ dst v) w') ((execOp (evalR ρ) ⟨dst, op, ty, pos, af, none⟩).run P w)) : opsR P ops n D QQ (⟨dst, op, ty, pos, af, none⟩ :: rest) ρ w :=
  opsR_stepP hd (Yp.ofK h)
theorem opsR_defer {ops : Array Oper} {rest : List Oper} {x : Operand} {ty : TypeId} {pos : String} {af : Array Edge} {fv : Fn} {first cap : Array Value} (hx : evalR ρ x = .func fv first cap)
    (hr : (execOp (evalR ρ) ⟨none, .defer ⟨.value x, #[], #[]⟩, ty, pos, af, none⟩).run P w = .ok (.defer ⟨.fn fv cap, first⟩) w)
    (h : opsR P ops n (⟨.fn fv cap, first⟩ :: D) QQ rest ρ w) : opsR P ops n D QQ (⟨none, .defer ⟨.value x, #[], #[]⟩, ty, pos, af, none⟩ :: rest) ρ w := by
  intro a ha
  refine wpList_plain rfl fun K hK => ?_
  unfold Oper.wp Oper.upon
  rw [ha.eval, hr]
  refine hK _ _ (h _ ⟨ha.size, ?_, ha.get⟩)
  show _ :: a.defers = _
  rw [ha.defers]
theorem postP_bodyD {fn : Func} {R : Ending → World → Prop} : ∀ e ρ a w, e ≠ .normal → Fits n ρ a → postP P fn R e ρ w → bodyPostD P fn R e a w := fun e ρ a w he ha h => by
  cases e with
  | normal => exact absurd rfl he
  | ret =>
    show Leaves P fn a.tmps R a.defers .returning w
    rw [ha.defers]
    exact h a.tmps ha.get
  | panic ch =>
    show Leaves P fn a.tmps R a.defers (.panicking ch) w
    rw [ha.defers]
    exact h
  | exit _ => exact h.elim
  | goto _ => exact h.elim
  | outgrown => exact h.elim
theorem calls_of_wpR {f : FuncId} {fn : Func} {c : Code} {args : List Value} {R : Ending → World → Prop} (hf : P.funcs[f]? = some fn) (hb : fn.body = some c) (m : Nat) (hm : fn.ntmps = m) (hn : args.length ≤ m)
    (h : ∀ ρ, Begun args ρ → wpR P m [] c (bodyPostD P fn R) ρ w) : Calls P f args.toArray w R := by
  subst hm
  refine calls_of_wp_defers hf hb ?_
  have hget : ∀ t, (args.toArray ++ Array.replicate (fn.ntmps - args.toArray.size) undef).getD t undef = args.getD t undef := fun t => by
    simp only [Array.getD_eq_getD_getElem?, List.getD_eq_getElem?_getD, Array.getElem?_append, List.size_toArray, List.getElem?_toArray]
    by_cases ht : t < args.length
    · rw [if_pos ht]
    · rw [if_neg ht, List.getElem?_eq_none (by omega), Array.getElem?_replicate]
      split <;> rfl
  refine h (fun t => args.getD t undef) ⟨fun _ => rfl⟩ _ ⟨?_, rfl, hget⟩
  simp
  omega
end
open Go.RowKit
section
variable {P : Program} {n : Nat}
theorem wp_of_wpF {c : Code} {QF : PostF} {Q : Exit → Act → World → Prop} {ρ : Slots} {a : Act} {w : World} (h : wpF P n c QF ρ w) (ha : Fits n ρ a) (hq : ∀ e ρ' a' w', Fits n ρ' a' → QF e ρ' w' → Q e a' w') : c.wp P Q a w :=
  wp_mono (h a ha) fun e a' w' ⟨ρ', hf, hQ⟩ => hq e ρ' a' w' hf hQ
def askD : FrameMode → Value × FrameMode
  | .panicking ({ v, recovered := false, goexit := false } :: older) => (v, .panicking ({ v, recovered := true } :: older))
  | u => (.nilIface, u)
theorem recover_ask (c₀ : Frame) (cs : List Frame) (u : FrameMode) (hu : c₀.mode = u) (K : Value → List Frame → Prop) (h : K (askD u).1 ({ c₀ with mode := (askD u).2 } :: cs)) :
    match recoverD (c₀ :: cs) with
    | some (v, cs') => K v cs'
    | none => K .nilIface (c₀ :: cs) := by
  subst hu
  obtain ⟨cf, ct, ctodo, cd, cm, ck, cr⟩ := c₀
  match cm, h with
  | .run, h => exact h
  | .returning, h => exact h
  | .panicking [], h => exact h
  | .panicking ({ v, recovered := true, goexit := g } :: older), h => exact h
  | .panicking ({ v, recovered := false, goexit := true } :: older), h => exact h
  | .panicking ({ v, recovered := false, goexit := false } :: older), h => exact h
theorem callsD_of_rest {f : FuncId} {fn : Func} {c : Code} {args : List Value} {u : FrameMode} {w : World} {R : Ending → World → Prop} {id : Nat} {d0 d1 : Tmp} {ty0 ty1 : TypeId} {p0 p1 : String} {af0 af1 : Array Edge}
    (hf : P.funcs[f]? = some fn) (hb : fn.body = some (.seq (.region id #[⟨some d0, .call ⟨.builtin .recover, #[], #[]⟩, ty0, p0, af0, none⟩, ⟨some d1, .assign (.tmp d0), ty1, p1, af1, none⟩] false) c)) (m : Nat) (hm : fn.ntmps = m) (hn : args.length ≤ m) (h0 : Nat.blt d0 m = true) (h1 : Nat.blt d1 m = true)
    (h : ∀ ρ0, Begun args ρ0 → wpF P m c (postP P fn R) (updO (updO ρ0 (some d0) (askD u).1) (some d1) (askD u).1) w) :
    CallsD P f args.toArray u w fun e u' w' => u' = (askD u).2 ∧ R e w' := by
  subst hm
  refine callsD_of_wpS hf hb fun c₀ cs hu => ?_
  have hget : ∀ t, (args.toArray ++ Array.replicate (fn.ntmps - args.toArray.size) undef).getD t undef = args.getD t undef := fun t => by
    simp only [Array.getD_eq_getD_getElem?, List.getD_eq_getElem?_getD, Array.getElem?_append, List.size_toArray, List.getElem?_toArray]
    by_cases ht : t < args.length
    · rw [if_pos ht]
    · rw [if_neg ht, List.getElem?_eq_none (by omega), Array.getElem?_replicate]
      split <;> rfl
  have hF : Fits fn.ntmps (fun t => args.getD t undef) { tmps := args.toArray ++ Array.replicate (fn.ntmps - args.toArray.size) undef, defers := [] } := ⟨by simp; omega, rfl, hget⟩
  generalize ({ tmps := args.toArray ++ Array.replicate (fn.ntmps - args.toArray.size) undef, defers := [] } : Act) = a at hF ⊢
  have hd0 : ∀ t, some d0 = some t → t < fn.ntmps := fun t ht => by cases ht; exact Nat.le_of_ble_eq_true h0
  have hd1 : ∀ t, some d1 = some t → t < fn.ntmps := fun t ht => by cases ht; exact Nat.le_of_ble_eq_true h1
  have hF1 := hF.put (some d0) hd0 (askD u).1
  have hF2 := hF1.put (some d1) hd1 (askD u).1
  apply wpS_seq
  apply wpS_region
  have hr0 : (execOp a.eval (⟨some d0, .call ⟨.builtin .recover, #[], #[]⟩, ty0, p0, af0, none⟩ : Oper)).run P w = .ok .recover w := by
    simp [go_sem]
  have hkey : ∀ (v : Value) (cs' : List Frame), v = (askD u).1 → cs' = { c₀ with mode := (askD u).2 } :: cs → wpOpsS P #[⟨some d0, .call ⟨.builtin .recover, #[], #[]⟩, ty0, p0, af0, none⟩, ⟨some d1, .assign (.tmp d0), ty1, p1, af1, none⟩] (Exit.thenS (c.wpS P (bodyPostS P fn c₀ cs fun e u' w' => u' = (askD u).2 ∧ R e w')) (bodyPostS P fn c₀ cs fun e u' w' => u' = (askD u).2 ∧ R e w')) [1] (a.put (some d0) v) cs' w := by
    rintro v cs' rfl rfl
    have hv : (a.put (some d0) (askD u).1).eval (.tmp d0) = (askD u).1 := by
      rw [hF1.eval]
      show (bif Nat.beq d0 d0 then _ else _) = _
      rw [Nat.beq_refl]
      rfl
    have hr1 : (execOp (a.put (some d0) (askD u).1).eval (⟨some d1, .assign (.tmp d0), ty1, p1, af1, none⟩ : Oper)).run P w = .ok (.value (askD u).1) w := by
      simp [execOp, hv]
    simp only [wpOpsS, List.getElem?_toArray, List.getElem?_cons_succ, List.getElem?_cons_zero, Region.wanted, hr1, Oper.upon, if_true]
    refine wpS_of_wp (wp_of_wpF (h _ ⟨fun _ => rfl⟩) hF2 fun e ρ' a' w' hf' hQ => ?_)
    cases e with
    | normal => obtain ⟨v, hv, hR⟩ := hQ a'.tmps hf'.get; exact ⟨hf'.defers, _, rfl, v, hv, rfl, hR⟩
    | ret => obtain ⟨v, hv, hR⟩ := hQ a'.tmps hf'.get; exact ⟨hf'.defers, _, rfl, v, hv, rfl, hR⟩
    | panic ch => exact ⟨hf'.defers, _, rfl, rfl, hQ⟩
    | exit _ => exact hQ.elim
    | goto _ => exact hQ.elim
    | outgrown => exact hQ.elim
  show wpOpsS P _ _ [0, 1] a (c₀ :: cs) w
  unfold wpOpsS
  simp only [List.getElem?_toArray, List.getElem?_cons_zero, Region.wanted, if_true, hr0]
  exact recover_ask c₀ cs u hu (fun v cs' => wpOpsS P _ _ [1] (a.put (some d0) v) cs' w) (hkey _ _ rfl rfl)
end
end Go.Proofs.YtmonlobfofkbdaaDoor
