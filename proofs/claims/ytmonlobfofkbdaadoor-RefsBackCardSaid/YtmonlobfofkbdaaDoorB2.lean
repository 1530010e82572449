/- Part 2 of what stands behind these statements: laws and walks of the functions that are reached. Conditions: those that each theorem names. -/
import Derived.Test.YtmonlobfofkbdaaDoorB1
set_option linter.unusedVariables false
set_option linter.unusedSimpArgs false
namespace Go.Proofs.YtmonlobfofkbdaaDoor
open Go.RowKit
set_option maxRecDepth 100000
theorem wr1_ty9 : Tryd.prog.underlying 9 = some (.string) := by kernel_rfl
theorem wr1_pl105 : Plain Tryd.prog 105 := fun _ _ => by kernel_rfl
theorem wr1_pl106 : Plain Tryd.prog 106 := fun _ _ => by kernel_rfl
theorem sign_any (w : World) (c : UInt8) :
  Calls Tryd.prog 106 #[B8 c] w fun e w' => e = .returned (.bool (signB c)) ∧ Ext w w' := by
 refine calls_of_wpF (args := [B8 (c)]) Tryd.func106 rfl 37 rfl (Nat.le_of_ble_eq_true rfl) ?_
 intro ρ0 hb
 have T0 : ρ0 0 = (B8 (c) : Value) := hb.get 0
 clear hb
 have hE := Ext.refl w
 refine sk fun K1 hK1 => (wt (oA rfl (oZ (tN (hK1 _ _ (sk fun K2 hK2 => (wt (oM rfl (oS rfl (Yk.eqI (a := ((c).toNat : Nat)) (b := (97 : Nat)) T0 rfl (k_geq _ _ _ _) (oM rfl (opsF_mayV (B8 (c)) rfl rfl (gT (vr (.bool (decide ((97) ≤ ((c).toNat)))) rfl)) (fun hG3 => Yk.move T0 ⟨rfl, rfl⟩) (opsF_mayV (.bool (decide (((c).toNat) ≤ (122)))) rfl rfl (gT (vr (.bool (decide ((97) ≤ ((c).toNat)))) rfl)) (fun hG4 => Yk.eqI (a := (((c).toNat : Nat) : Int)) (b := ((122 : Nat) : Int)) (mayT (vr (cond ((decide ((97) ≤ ((c).toNat)))) (B8 (c)) undef) rfl) hG4) (vr (B8 (122)) rfl) (k_leq _ .u8 ((c).toNat) (122)) ⟨rfl, rfl⟩) (oS rfl (Yk.pickAndN (vr (.bool (decide ((97) ≤ ((c).toNat)))) rfl) (fun hA => (mayT (vr (cond ((decide ((97) ≤ ((c).toNat)))) (.bool (decide (((c).toNat) ≤ (122)))) undef) rfl) hA)) (vr (.bool (false)) rfl) fun bb5 hbb6 => (oM rfl (opsF_mayV (B8 (c)) rfl rfl (gF (vr (.bool (bb5)) rfl)) (fun hG7 => Yk.move T0 ⟨rfl, rfl⟩) (opsF_mayV (.bool (decide ((65) ≤ ((c).toNat)))) rfl rfl (gF (vr (.bool (bb5)) rfl)) (fun hG8 => Yk.eqI (a := (((c).toNat : Nat) : Int)) (b := ((65 : Nat) : Int)) (mayT (vr (cond (!bb5) (B8 (c)) undef) rfl) hG8) (vr (B8 (65)) rfl) (k_geq _ .u8 ((c).toNat) (65)) ⟨rfl, rfl⟩) ?_))))))))))))))))))
 refine opsF_mayV (.bool (decide ((65) ≤ ((c).toNat)))) rfl rfl (gF (vr (.bool (bb5)) rfl)) (fun hG9 => Yk.move (mayT (vr (cond (!bb5) (.bool (decide ((65) ≤ ((c).toNat)))) undef) rfl) hG9) ⟨rfl, rfl⟩) (opsF_mayV (B8 (c)) rfl rfl (geT (vr (cond (!bb5) (.bool (decide ((65) ≤ ((c).toNat)))) undef) rfl)) (fun hG10 => Yk.move T0 ⟨rfl, rfl⟩) (opsF_mayV (.bool (decide (((c).toNat) ≤ (90)))) rfl rfl (geT (vr (cond (!bb5) (.bool (decide ((65) ≤ ((c).toNat)))) undef) rfl)) (fun hG11 => Yk.eqI (a := (((c).toNat : Nat) : Int)) (b := ((90 : Nat) : Int)) (mayT (vr (cond ((!bb5) && (decide ((65) ≤ ((c).toNat)))) (B8 (c)) undef) rfl) hG11) (vr (B8 (90)) rfl) (k_leq _ .u8 ((c).toNat) (90)) ⟨rfl, rfl⟩) (opsF_mayB ((decide ((65) ≤ ((c).toNat))) && (decide (((c).toNat) ≤ (90)))) rfl rfl (gF (vr (.bool (bb5)) rfl)) (fun hG12 => Yk.pickAnd (mayT (vr (cond (!bb5) (.bool (decide ((65) ≤ ((c).toNat)))) undef) rfl) hG12) (fun hA => (mayT (vr (cond ((!bb5) && (decide ((65) ≤ ((c).toNat)))) (.bool (decide (((c).toNat) ≤ (90)))) undef) rfl) (and_i hG12 hA))) (vr (.bool (false)) rfl) ⟨rfl, rfl⟩) fun bb13 hbb14 => (oS rfl (Yk.pickOrN (vr (.bool (bb5)) rfl) (vr (.bool (true)) rfl) (fun hA => (mayT (vr (cond (!bb5) (.bool (bb13)) undef) rfl) (not_i hA))) fun bb15 hbb16 => (oM rfl (opsF_mayV (B8 (c)) rfl rfl (gF (vr (.bool (bb15)) rfl)) (fun hG17 => Yk.move T0 ⟨rfl, rfl⟩) (opsF_mayV (.bool (decide ((48) ≤ ((c).toNat)))) rfl rfl (gF (vr (.bool (bb15)) rfl)) (fun hG18 => Yk.eqI (a := (((c).toNat : Nat) : Int)) (b := ((48 : Nat) : Int)) (mayT (vr (cond (!bb15) (B8 (c)) undef) rfl) hG18) (vr (B8 (48)) rfl) (k_geq _ .u8 ((c).toNat) (48)) ⟨rfl, rfl⟩) (opsF_mayV (.bool (decide ((48) ≤ ((c).toNat)))) rfl rfl (gF (vr (.bool (bb15)) rfl)) (fun hG19 => Yk.move (mayT (vr (cond (!bb15) (.bool (decide ((48) ≤ ((c).toNat)))) undef) rfl) hG19) ⟨rfl, rfl⟩) (opsF_mayV (B8 (c)) rfl rfl (geT (vr (cond (!bb15) (.bool (decide ((48) ≤ ((c).toNat)))) undef) rfl)) (fun hG20 => Yk.move T0 ⟨rfl, rfl⟩) (opsF_mayV (.bool (decide (((c).toNat) ≤ (57)))) rfl rfl (geT (vr (cond (!bb15) (.bool (decide ((48) ≤ ((c).toNat)))) undef) rfl)) (fun hG21 => Yk.eqI (a := (((c).toNat : Nat) : Int)) (b := ((57 : Nat) : Int)) (mayT (vr (cond ((!bb15) && (decide ((48) ≤ ((c).toNat)))) (B8 (c)) undef) rfl) hG21) (vr (B8 (57)) rfl) (k_leq _ .u8 ((c).toNat) (57)) ⟨rfl, rfl⟩) (opsF_mayB ((decide ((48) ≤ ((c).toNat))) && (decide (((c).toNat) ≤ (57)))) rfl rfl (gF (vr (.bool (bb15)) rfl)) (fun hG22 => Yk.pickAnd (mayT (vr (cond (!bb15) (.bool (decide ((48) ≤ ((c).toNat)))) undef) rfl) hG22) (fun hA => (mayT (vr (cond ((!bb15) && (decide ((48) ≤ ((c).toNat)))) (.bool (decide (((c).toNat) ≤ (57)))) undef) rfl) (and_i hG22 hA))) (vr (.bool (false)) rfl) ⟨rfl, rfl⟩) fun bb23 hbb24 => (oS rfl (Yk.pickOrN (vr (.bool (bb15)) rfl) (vr (.bool (true)) rfl) (fun hA => (mayT (vr (cond (!bb15) (.bool (bb23)) undef) rfl) (not_i hA))) fun bb25 hbb26 => ?_))))))))))))))
 refine oM rfl (opsF_mayV (B8 (c)) rfl rfl (gF (vr (.bool (bb25)) rfl)) (fun hG27 => Yk.move T0 ⟨rfl, rfl⟩) (opsF_mayV (.bool (decide (((c).toNat : Nat) = (45)))) rfl rfl (gF (vr (.bool (bb25)) rfl)) (fun hG28 => Yk.eqI (a := (((c).toNat : Nat) : Int)) (b := ((45 : Nat) : Int)) (mayT (vr (cond (!bb25) (B8 (c)) undef) rfl) hG28) (vr (B8 (45)) rfl) (k_eql _ .u8 ((c).toNat) (45)) ⟨rfl, rfl⟩) (oS rfl (Yk.pickOrN (vr (.bool (bb25)) rfl) (vr (.bool (true)) rfl) (fun hA => (mayT (vr (cond (!bb25) (.bool (decide (((c).toNat : Nat) = (45)))) undef) rfl) (not_i hA))) fun bb29 hbb30 => (oM rfl (opsF_mayV (B8 (c)) rfl rfl (gF (vr (.bool (bb29)) rfl)) (fun hG31 => Yk.move T0 ⟨rfl, rfl⟩) (opsF_mayV (.bool (decide (((c).toNat : Nat) = (95)))) rfl rfl (gF (vr (.bool (bb29)) rfl)) (fun hG32 => Yk.eqI (a := (((c).toNat : Nat) : Int)) (b := ((95 : Nat) : Int)) (mayT (vr (cond (!bb29) (B8 (c)) undef) rfl) hG32) (vr (B8 (95)) rfl) (k_eql _ .u8 ((c).toNat) (95)) ⟨rfl, rfl⟩) (oS rfl (Yk.pickOrN (vr (.bool (bb29)) rfl) (vr (.bool (true)) rfl) (fun hA => (mayT (vr (cond (!bb29) (.bool (decide (((c).toNat : Nat) = (95)))) undef) rfl) (not_i hA))) fun bb33 hbb34 => (oM rfl (opsF_mayV (B8 (c)) rfl rfl (gF (vr (.bool (bb33)) rfl)) (fun hG35 => Yk.move T0 ⟨rfl, rfl⟩) (opsF_mayV (.bool (decide (((c).toNat : Nat) = (46)))) rfl rfl (gF (vr (.bool (bb33)) rfl)) (fun hG36 => Yk.eqI (a := (((c).toNat : Nat) : Int)) (b := ((46 : Nat) : Int)) (mayT (vr (cond (!bb33) (B8 (c)) undef) rfl) hG36) (vr (B8 (46)) rfl) (k_eql _ .u8 ((c).toNat) (46)) ⟨rfl, rfl⟩) (oS rfl (Yk.pickOrN (vr (.bool (bb33)) rfl) (vr (.bool (true)) rfl) (fun hA => (mayT (vr (cond (!bb33) (.bool (decide (((c).toNat : Nat) = (46)))) undef) rfl) (not_i hA))) fun bb37 hbb38 => (oA rfl (oZ (tN (hK2 _ _ (wpF_ret ?_)))))))))))))))))))
 refine postF_ret (fn := Tryd.f106) _ rfl [.bool (bb37)] (.bool (bb37)) rfl ⟨rfl, trivial⟩ ?_
 subst hbb6 hbb14 hbb16 hbb24 hbb26 hbb30 hbb34 hbb38
 exact ⟨rfl, hE⟩

theorem pid_any (w : World) (s : Bs) (hl : s.length ≠ 64) :
  Calls Tryd.prog 105 #[St s] w fun e w' => e = .returned (.bool false) ∧ Ext w w' := by
 refine calls_of_wpF (args := [St (s)]) Tryd.func105 rfl 11 rfl (Nat.le_of_ble_eq_true rfl) ?_
 intro ρ0 hb
 have T0 : ρ0 0 = (St (s) : Value) := hb.get 0
 clear hb
 have hE := Ext.refl w
 refine sk fun K1 hK1 => (wt (oA rfl (oZ (tN (hK1 _ _ (sk fun K2 hK2 => (wt (oM rfl (oS rfl (Yk.lenSt (l := s) wr1_ty9 T0 (oS rfl (Yk.eqI (a := (s.length : Nat)) (b := (64 : Nat)) rfl rfl (k_eql _ _ _ _) (oM rfl (oN (d := 6) rfl rfl rfl (vr (.bool (false)) (congrArg Value.bool (decide_eq_false (hl)))) rfl (oN (d := 6) rfl rfl rfl (vr (.bool (false)) (congrArg Value.bool (decide_eq_false (hl)))) rfl (oN (d := 6) rfl rfl rfl (vr (.bool (false)) (congrArg Value.bool (decide_eq_false (hl)))) rfl (oS rfl (Yk.pickF (vr (.bool (false)) (congrArg Value.bool (decide_eq_false (hl)))) (vr (.bool (false)) rfl) (oA rfl ?_)))))))))))))))))))
 refine oZ (tN (hK2 _ _ (wpF_ret (postF_ret (fn := Tryd.f105) _ rfl [.bool (false)] (.bool (false)) rfl ⟨rfl, trivial⟩ ?_))))
 exact ⟨rfl, hE⟩

theorem name_any (w : World) (s : Bs) (hs : s.length ≤ 9223372036854775807) :
  Calls Tryd.prog 59 #[St s] w fun e w' => e = .returned (.bool (nameB s)) ∧ Ext w w' := by
 refine calls_of_wpF (args := [St (s)]) Tryd.func59 rfl 41 rfl (Nat.le_of_ble_eq_true rfl) ?_
 intro ρ0 hb
 have T0 : ρ0 0 = (St (s) : Value) := hb.get 0
 clear hb
 have hE := Ext.refl w
 refine sk fun K1 hK1 => (wt (oA rfl (oZ (tN (hK1 _ _ (sk fun K2 hK2 => (sk fun K3 hK3 => (wt (oM rfl (oS rfl (Yk.lenSt (l := s) wr1_ty9 T0 (oS rfl (Yk.eqI (a := (s.length : Nat)) (b := (1 : Nat)) rfl rfl (k_lss _ _ _ _) (oM rfl (opsF_mayV (St (s)) rfl rfl (gF (vr (.bool (decide ((s.length) < (1)))) rfl)) (fun hG4 => Yk.move T0 ⟨rfl, rfl⟩) (opsF_mayV (NI s.length) rfl rfl (gF (vr (.bool (decide ((s.length) < (1)))) rfl)) (fun hG5 => Yk.lenSt (l := s) wr1_ty9 (mayT (vr (cond (!(decide ((s.length) < (1)))) (St (s)) undef) rfl) hG5) ⟨rfl, rfl⟩) (opsF_mayV (.bool (decide ((32) < (s.length)))) rfl rfl (gF (vr (.bool (decide ((s.length) < (1)))) rfl)) (fun hG6 => Yk.eqI (a := ((s.length : Nat) : Int)) (b := ((32 : Nat) : Int)) (mayT (vr (cond (!(decide ((s.length) < (1)))) (NI s.length) undef) rfl) hG6) (vr (NI 32) rfl) (k_gtr _ .i64 (s.length) (32)) ⟨rfl, rfl⟩) (oS rfl (Yk.pickOrN (vr (.bool (decide ((s.length) < (1)))) rfl) (vr (.bool (true)) rfl) (fun hA => (mayT (vr (cond (!(decide ((s.length) < (1)))) (.bool (decide ((32) < (s.length)))) undef) rfl) (not_i hA))) fun bb7 hbb8 => ?_)))))))))))))))))))
 refine oM rfl (opsF_mayV (St (s)) rfl rfl (gF (vr (.bool (bb7)) rfl)) (fun hG9 => Yk.move T0 ⟨rfl, rfl⟩) (opsF_mayV (B8 (s.getD (0) 0)) rfl rfl (gF (vr (.bool (bb7)) rfl)) (fun hG10 => Yk.idxSt (l := s) (i := 0) wr1_ty9 (mayT (vr (cond (!bb7) (St (s)) undef) rfl) hG10) (vr (NI 0) rfl) (by simp only [hbb8, gA, gB, gC, gD, gE] at hG10; omega) ⟨rfl, rfl⟩) (opsF_mayV (.bool (decide (((s.getD (0) 0).toNat : Nat) = (46)))) rfl rfl (gF (vr (.bool (bb7)) rfl)) (fun hG11 => Yk.eqI (a := (((s.getD (0) 0).toNat : Nat) : Int)) (b := ((46 : Nat) : Int)) (mayT (vr (cond (!bb7) (B8 (s.getD (0) 0)) undef) rfl) hG11) (vr (B8 (46)) rfl) (k_eql _ .u8 ((s.getD (0) 0).toNat) (46)) ⟨rfl, rfl⟩) (oS rfl (Yk.pickOrN (vr (.bool (bb7)) rfl) (vr (.bool (true)) rfl) (fun hA => (mayT (vr (cond (!bb7) (.bool (decide (((s.getD (0) 0).toNat : Nat) = (46)))) undef) rfl) (not_i hA))) fun bb12 hbb13 => (oM rfl (opsF_mayV (St (s)) rfl rfl (gF (vr (.bool (bb12)) rfl)) (fun hG14 => Yk.move T0 ⟨rfl, rfl⟩) (opsF_mayV (B8 (s.getD (0) 0)) rfl rfl (gF (vr (.bool (bb12)) rfl)) (fun hG15 => Yk.idxSt (l := s) (i := 0) wr1_ty9 (mayT (vr (cond (!bb12) (St (s)) undef) rfl) hG15) (vr (NI 0) rfl) (by simp only [hbb8, hbb13, gA, gB, gC, gD, gE] at hG15; omega) ⟨rfl, rfl⟩) (opsF_mayV (.bool (decide (((s.getD (0) 0).toNat : Nat) = (45)))) rfl rfl (gF (vr (.bool (bb12)) rfl)) (fun hG16 => Yk.eqI (a := (((s.getD (0) 0).toNat : Nat) : Int)) (b := ((45 : Nat) : Int)) (mayT (vr (cond (!bb12) (B8 (s.getD (0) 0)) undef) rfl) hG16) (vr (B8 (45)) rfl) (k_eql _ .u8 ((s.getD (0) 0).toNat) (45)) ⟨rfl, rfl⟩) (oS rfl (Yk.pickOrN (vr (.bool (bb12)) rfl) (vr (.bool (true)) rfl) (fun hA => (mayT (vr (cond (!bb12) (.bool (decide (((s.getD (0) 0).toNat : Nat) = (45)))) undef) rfl) (not_i hA))) fun bb17 hbb18 => (oM rfl (opsF_mayV (St (s)) rfl rfl (gF (vr (.bool (bb17)) rfl)) (fun hG19 => Yk.move T0 ⟨rfl, rfl⟩) (opsF_mayV (.bool (decide (s = (([72, 69, 65, 68] : List UInt8) : List UInt8)))) rfl rfl (gF (vr (.bool (bb17)) rfl)) (fun hG20 => Yk.eqSt (l := s) (m := ([72, 69, 65, 68] : List UInt8)) (.inl rfl) (mayT (vr (cond (!bb17) (St (s)) undef) rfl) hG20) (vr (St (([72, 69, 65, 68] : List UInt8))) rfl) (decide (s = (([72, 69, 65, 68] : List UInt8) : List UInt8))) rfl ⟨rfl, rfl⟩) (oS rfl (Yk.pickOrN (vr (.bool (bb17)) rfl) (vr (.bool (true)) rfl) (fun hA => (mayT (vr (cond (!bb17) (.bool (decide (s = (([72, 69, 65, 68] : List UInt8) : List UInt8)))) undef) rfl) (not_i hA))) fun bb21 hbb22 => (oM rfl (opsF_mayV (St (s)) rfl rfl (gF (vr (.bool (bb21)) rfl)) (fun hG23 => Yk.move T0 ⟨rfl, rfl⟩) ?_))))))))))))))))))
 refine opsF_mayC (.bool (false)) rfl rfl (gF (vr (.bool (bb21)) rfl)) (fun hG24 => Yk.callA1 wr1_pl105 (mayT (vr (cond (!bb21) (St (s)) undef) rfl) hG24) ((pid_any _ s (by simp only [hbb8, hbb13, hbb18, hbb22, gA, gB, gC, gD, gE] at hG24; omega)).mono (by rintro e w2 ⟨rfl, hx⟩; exact ⟨_, rfl, rfl, hx⟩))) fun w26 hx27 => ?_
 have hE := hE.trans hx27
 refine oS rfl (Yk.pickOrN (vr (.bool (bb21)) rfl) (vr (.bool (true)) rfl) (fun hA => (mayT (vr (cond (!bb21) (.bool (false)) undef) rfl) (not_i hA))) fun bb28 hbb29 => (oZ (tN (hK3 _ _ ?_))))
 refine wpF_condB (bb28) (vr (.bool (bb28)) rfl) (fun hc0 => ?_) (fun hc0 => ?_)
 ·subst hbb8 hbb13 hbb18 hbb22 hbb29
  rw [Bool.or_false] at hc0
  refine sk fun K30 hK30 => (wt (oA rfl (oZ (tN (hK30 _ _ (wpF_ret (thenF_ret (postF_ret (fn := Tryd.f59) _ rfl [.bool (false)] (.bool (false)) rfl ⟨rfl, trivial⟩ ?_))))))))
  exact ⟨by rw [nameB_head (s := s) hc0], hE⟩
 subst hbb8 hbb13 hbb18 hbb22 hbb29
 rw [Bool.or_false] at hc0
 have hh : headB s = false := hc0
 have hsl := headB_len hh
 refine wpF_skip (tN (hK2 _ _ (sk fun K31 hK31 => (sk fun K32 hK32 => (wt (oM rfl (oS rfl (Yk.lenSt (l := s) wr1_ty9 T0 (oM rfl (oL_ [(0, St (s)), (2, .bool (false)), (31, NI s.length), (32, NI 0)] ⟨T0, rfl, rfl, rfl, trivial⟩ fun ρ33 ⟨T0, T2, T31, T32, _⟩ => (tN (hK32 _ _ (wpF_block (wpF_loop (fun (ρ : Slots) (wz : World) => ∃ i : Nat, ρ 0 = (St (s) : Value) ∧ ρ 31 = (NI s.length : Value) ∧ ρ 32 = (NI i : Value) ∧ Ext w wz ∧ (i ≤ s.length) ∧ ((s.take i).all signB = true) ∧ True) (fun ρ _ => s.length - (intOf (ρ 32)).toNat) ⟨0, T0, T31, T32, hE, Nat.zero_le _, by simp, trivial⟩ ?_))))))))))))))
 clear hE
 rintro ρ34 w35 ⟨i, T0, T31, T32, hE, hi, ha, -⟩
 have q32 := T32
 refine sk fun K36 hK36 => (wt (oS rfl (Yk.eqI (a := (i : Nat)) (b := (s.length : Nat)) T32 T31 (k_lss _ _ _ _) (oZ (tN (hK36 _ _ (sk fun K37 hK37 => ?_)))))))
 refine wpF_cond ((i) < (s.length)) (vr (.bool (decide ((i) < (s.length)))) rfl) (fun hc1 => ?_) (fun hc1 => ?_)
 ·refine wpF_skip (tN (hK37 _ _ (sk fun K38 hK38 => (wpF_block (sk fun K39 hK39 => (wt (oM rfl (oA rfl (oZ (tN (hK39 _ _ (sk fun K40 hK40 => (wt (oM rfl (oM rfl (oS rfl (Yk.idxSt (l := s) (i := i) wr1_ty9 T0 T32 (by omega) (oS rfl (Yk.callA1 wr1_pl106 (vr (B8 (s.getD (i) 0)) rfl) ?_)))))))))))))))))))
  refine (sign_any _ (s.getD (i) 0)).mono ?_
  rintro e w42 ⟨rfl, hx41⟩
  refine ⟨_, rfl, ?_⟩
  have hE := hE.trans hx41
  refine oS rfl (Yk.notB (vr (.bool (signB (s.getD (i) 0))) rfl) (oZ (tN (hK40 _ _ ?_))))
  refine wpF_condB (!(signB (s.getD (i) 0))) (vr (.bool (!(signB (s.getD (i) 0)))) rfl) (fun hc2 => ?_) (fun hc2 => ?_)
  ·refine sk fun K43 hK43 => (wt (oA rfl (oZ (tN (hK43 _ _ (wpF_ret (inBlockF_ret (thenF_ret (thenF_ret (inBlockF_ret (thenF_ret (postF_ret (fn := Tryd.f59) _ rfl [.bool (false)] (.bool (false)) rfl ⟨rfl, trivial⟩ ?_))))))))))))
   exact ⟨by rw [nameB_bad (show i < s.length by omega) (not_e hc2)], hE⟩
  refine wpF_skip (bN (tN (hK38 _ _ (wt (oS rfl (Yk.bin (xv := NI i) (yv := NI 1) T32 rfl rfl (i64_add _ _ _ (by omega)) (oM rfl (oL_ [(0, St (s)), (3, NI i), (31, NI s.length), (32, NI ((i) + (1)))] ⟨T0, T32, T31, rfl, trivial⟩ fun ρ44 ⟨T0, T3, T31, T32, _⟩ => (tN (And.intro ⟨i + 1, T0, T31, T32, hE, by omega, all_step 0 (by omega) ha (not_f hc2), trivial⟩ ?_))))))))))
  show s.length - (intOf (ρ44 32)).toNat < s.length - (intOf (ρ34 32)).toNat
  rw [T32, q32]
  simp only [intOf, Int.toNat_natCast]; omega
 refine wpF_exit (thenF_exit (thenF_exit (inBlockF_hit (tN (hK31 _ _ (sk fun K45 hK45 => (wt (oA rfl (oZ (tN (hK45 _ _ (wpF_ret (postF_ret (fn := Tryd.f59) _ rfl [.bool (true)] (.bool (true)) rfl ⟨rfl, trivial⟩ ?_)))))))))))))
 exact ⟨by rw [nameB_all hh (by omega) ha], hE⟩

open Go.RowKit
open Go.WideMaps (KeyLaw)
structure KL (P : Program) (k : TypeId) (OK : Value → Prop) : Prop where
  check : ∀ (w : World) (em : Bool) {v : Value}, OK v → (Instr.checkKey em 10000 k v).run P w = .ok () w
  find : ∀ (w : World) {x : Value}, OK x → ∀ es : List MapEntry, (∀ e ∈ es, OK e.key) →
    ((Instr.findKey k x es).run P w = .ok none w ∧ ∀ e ∈ es, e.key ≠ x) ∨ ∃ j e, (Instr.findKey k x es).run P w = .ok (some (j, e.val)) w ∧ es[j]? = some e ∧ e.key = x
  stays : ∀ (w : World) {v : Value}, OK v → (Instr.keyThatStays v v).run P w = .ok v w
theorem KL.ofKey {P : Program} {k : TypeId} {d : TypeDesc} (hd : P.underlying k = some d) : KL P k (MapKept.IsKey d) :=
  ⟨fun w em _ h => MapKept.run_checkKey hd h em 9999, fun w x h es he => by
    rcases MapKept.findNow_spec h es 0 he with ⟨h1, h2⟩ | ⟨j, e, h1, h2, h3⟩
    · exact .inl ⟨MapKept.run_findKey hd h1, h2⟩
    · rw [Nat.zero_add] at h1
      exact .inr ⟨j, e, MapKept.run_findKey hd h1, h2, h3⟩, fun w _ h => MapKept.run_keyThatStays h⟩
section
variable {α β : Type} (ek : α → Value) (ev : β → Value) (D : α → Prop)
structure MapIn (G : α → Option β) (es : List MapEntry) : Prop where
  keys : (es.map (·.key)).Nodup
  ent : ∀ e ∈ es, ∃ a y, D a ∧ e.key = ek a ∧ e.val = ev y ∧ G a = some y
  all : ∀ a y, G a = some y → D a ∧ ∃ e ∈ es, e.key = ek a
def MapF (w : World) (b : Nat) (G : α → Option β) : Prop := ∃ es clock, w.heap[b]? = some (.map es.toArray clock) ∧ MapIn ek ev D G es
end
def updM {α β : Type} [DecidableEq α] (G : α → Option β) (a : α) (y : Option β) (c : α) : Option β := if c = a then y else G c
section
variable {α β : Type} {ek : α → Value} {ev : β → Value} {D : α → Prop} {P : Program} {w w' : World} {b : Nat} {G : α → Option β}
theorem MapF.keep (h : MapF ek ev D w b G) (k : Ext w w') : MapF ek ev D w' b G := by
  obtain ⟨es, c, h2, h3⟩ := h
  exact ⟨es, c, Ext.blk' k h2, h3⟩
theorem MapF.lt (h : MapF ek ev D w b G) : b < w.heap.size := by
  obtain ⟨es, c, h2, h3⟩ := h
  exact (Array.getElem?_eq_some_iff.1 h2).1
theorem MapF.other {r : Option Nat} (h : MapF ek ev D w b G) (k : w.grownBy w' r) (hr : r ≠ some b) : MapF ek ev D w' b G := by
  have hl := h.lt
  obtain ⟨es, c, h2, h3⟩ := h
  exact ⟨es, c, (k.block b hl (fun e => hr e.symm)).trans h2, h3⟩
theorem MapF.grew {v v' : Value} (h : MapF ek ev D w b G) (g : Grew w w' v v') (hv : v.ownBlock ≠ some b) : MapF ek ev D w' b G := h.other g.by_ hv
theorem MapF.made (ek : α → Value) (ev : β → Value) (D : α → Prop) (w : World) : MapF ek ev D (w.alloc (.map #[] 0)) w.heap.size (fun _ => none) :=
  ⟨[], 0, heap_alloc_new w _, by simp, by simp, fun _ _ h => by cases h⟩
section
variable {t K E : TypeId} {OK : Value → Prop} (L : KL P K OK) (hD : ∀ a, D a → OK (ek a)) (hi : ∀ a c, ek a = ek c → a = c) (ht : P.underlying t = some (.map K E))
include L hD hi ht
theorem MapF.look {z : Value} (hz : ∀ u : World, (zeroValue E).run P u = .ok z u) (h : MapF ek ev D w b G) {a : α} (ha : D a) (ok : Bool) :
    (Instr.lookup t (.map (some b)) (ek a) ok).run P w = .ok (if ok then .tuple #[(G a).elim z ev, .bool (G a).isSome] else (G a).elim z ev) w := by
  obtain ⟨es, c, hb, H⟩ := h
  have hkeys : ∀ e ∈ es, OK e.key := fun e he => by
    obtain ⟨q, y, k1, k2, -⟩ := H.ent e he
    rw [k2]
    exact hD q k1
  rcases L.find w (hD a ha) es hkeys with ⟨f1, f2⟩ | ⟨j, e0, f1, f2, f3⟩
  · have hG : G a = none := by
      cases hG : G a with
      | none => rfl
      | some y =>
        obtain ⟨-, e, he, hek⟩ := H.all a y hG
        exact absurd hek (f2 e he)
    cases ok <;> simp [Instr.lookup, run_underlying ht, MapKept.run_getObj_map hb, L.check w _ (hD a ha), f1, hz, Result.andThen, hG]
  · obtain ⟨q, y, k1, k2, k3, k4⟩ := H.ent e0 (List.mem_of_getElem? f2)
    have : q = a := hi _ _ (k2.symm.trans f3)
    subst this
    cases ok <;> simp [Instr.lookup, run_underlying ht, MapKept.run_getObj_map hb, L.check w _ (hD q ha), f1, Result.andThen, k4, k3]
variable [DecidableEq α]
omit hi in
theorem MapF.put (h : MapF ek ev D w b G) {a : α} (ha : D a) (y : β) :
    ∃ w', (Instr.mapUpdate t (.map (some b)) (ek a) (ev y)).run P w = .ok () w' ∧ MapF ek ev D w' b (updM G a (some y)) ∧ w.grownBy w' (some b) ∧ w'.heap.size = w.heap.size := by
  obtain ⟨es, c, hb, H⟩ := h
  have hkeys : ∀ e ∈ es, OK e.key := fun e he => by
    obtain ⟨q, y, k1, k2, -⟩ := H.ent e he
    rw [k2]
    exact hD q k1
  have hblt : b < w.heap.size := (Array.getElem?_eq_some_iff.1 hb).1
  have hgr : ∀ o, w.grownBy { w with heap := w.heap.setIfInBounds b o } (some b) := fun o => ⟨rfl, rfl, rfl, by simp, fun i _ hi => by simp only [Array.getElem?_setIfInBounds]; rw [if_neg (fun e => hi (by rw [e]))]⟩
  have hnew : ∀ o, ({ w with heap := w.heap.setIfInBounds b o } : World).heap[b]? = some o := fun o => by simp [hblt]
  rcases L.find w (hD a ha) es hkeys with ⟨f1, f2⟩ | ⟨j, e0, f1, f2, f3⟩
  · have hnone : ∀ x, G a ≠ some x := fun x hx => by
      obtain ⟨-, e, he, hek⟩ := H.all a x hx
      exact f2 e he hek
    refine ⟨{ w with heap := w.heap.setIfInBounds b (.map (es ++ [({ key := ek a, val := ev y, born := c } : MapEntry)]).toArray (c + 1)) }, ?_, ⟨_, _, hnew _, ?_, ?_, ?_⟩, hgr _, by simp⟩
    · simp [Instr.mapUpdate, run_underlying ht, MapKept.run_getObj_map hb, L.check w false (hD a ha), f1, MapKept.run_setObj_map _ hb, Result.andThen]
    · simp only [List.map_append, List.map_cons, List.map_nil]
      refine List.nodup_append.2 ⟨H.keys, by simp, fun x hx z hz e => ?_⟩
      obtain ⟨e1, he1, rfl⟩ := List.mem_map.1 hx
      simp at hz
      exact f2 e1 he1 (e.trans hz)
    · intro e he
      rcases List.mem_append.1 he with h1 | h1
      · obtain ⟨q, z, k1, k2, k3, k4⟩ := H.ent e h1
        refine ⟨q, z, k1, k2, k3, ?_⟩
        unfold updM
        rw [if_neg (fun e1 => f2 e h1 (by rw [k2, e1]))]
        exact k4
      · rw [List.mem_singleton.1 h1]
        exact ⟨a, y, ha, rfl, rfl, by unfold updM; rw [if_pos rfl]⟩
    · intro q z hq
      unfold updM at hq
      split at hq
      · rename_i e1
        subst e1
        exact ⟨ha, _, List.mem_append_right _ (List.mem_singleton.2 rfl), rfl⟩
      · obtain ⟨k1, e, he, hek⟩ := H.all q z hq
        exact ⟨k1, e, List.mem_append_left _ he, hek⟩
  · obtain ⟨q0, y0, k1, k2, k3, k4⟩ := H.ent e0 (List.mem_of_getElem? f2)
    have hjl : j < es.length := (List.getElem?_eq_some_iff.1 f2).1
    have hkeq : (es.modify j fun e => { e with key := ek a, val := ev y }).map (·.key) = es.map (·.key) := by
      rw [Go.ChangeMaps.modify_eq_set _ _ _ _ f2, List.map_set]
      exact Go.WideElems.set_self _ _ _ (by rw [List.getElem?_map, f2]; simp [f3])
    have hj : es.toArray[j]? = some e0 := by simpa using f2
    refine ⟨{ w with heap := w.heap.setIfInBounds b (.map (es.modify j fun e => { e with key := ek a, val := ev y }).toArray c) }, ?_, ⟨_, _, hnew _, ?_, ?_, ?_⟩, hgr _, by simp⟩
    · simp [Instr.mapUpdate, run_underlying ht, MapKept.run_getObj_map hb, L.check w false (hD a ha), f1, f2, f3, L.stays w (hD a ha), MapKept.run_setObj_map _ hb, Result.andThen]
    · rw [hkeq]
      exact H.keys
    · intro e he
      rw [Go.ChangeMaps.modify_eq_set _ _ _ _ f2] at he
      obtain ⟨i, hil, hie⟩ := List.mem_iff_getElem.1 he
      rw [List.getElem_set] at hie
      split at hie
      · subst hie
        exact ⟨a, y, ha, rfl, rfl, by unfold updM; rw [if_pos rfl]⟩
      · rename_i hne
        have hil2 : i < es.length := by simpa using hil
        obtain ⟨q, z, m1, m2, m3, m4⟩ := H.ent e (hie ▸ List.getElem_mem hil2)
        refine ⟨q, z, m1, m2, m3, ?_⟩
        unfold updM
        rw [if_neg ?_]
        · exact m4
        · intro e1
          subst e1
          apply hne
          have hn := H.keys
          have e2 : (es.map (·.key))[j]'(by simpa using hjl) = (es.map (·.key))[i]'(by simpa using hil2) := by
            simp only [List.getElem_map]
            rw [hie, m2, ← f3]
            exact congrArg MapEntry.key (List.getElem?_eq_some_iff.1 f2).2
          exact (List.getElem_inj hn).1 e2
    · intro q z hq
      have hmem : ∀ x, x ∈ es.map (·.key) → ∃ e ∈ (es.modify j fun e => { e with key := ek a, val := ev y }), e.key = x := fun x hx => by
        rw [← hkeq] at hx
        obtain ⟨e, he, rfl⟩ := List.mem_map.1 hx
        exact ⟨e, he, rfl⟩
      unfold updM at hq
      split at hq
      · rename_i e1
        subst e1
        exact ⟨ha, hmem _ (List.mem_map.2 ⟨e0, List.mem_of_getElem? f2, f3⟩)⟩
      · obtain ⟨k1, e, he, hek⟩ := H.all q z hq
        exact ⟨k1, hmem _ (List.mem_map.2 ⟨e, he, hek⟩)⟩
end
end
open Go.RowKit
theorem some_ne {a b : Nat} (h : a ≠ b) : some a ≠ some b := fun e => h (Option.some.inj e)
def ApartV (u v : Value) : Prop := ∀ k, u.ownBlock = some k → v.ownBlock ≠ some k
section
variable {N B : Nat} {r : Option Nat} {w w' w1 w0 : World} {e t : TypeId}
theorem ownsRow_grown {z n : Nat} {v : Value} {xs : List Value} (ho : w.ownsRow B e z v n xs) (k : w.grownBy w1 r) (ha : ∀ k, r = some k → v.ownBlock ≠ some k) : w1.ownsRow B e z v n xs :=
  ho.kept k (by
    cases hv : v.ownBlock with
    | none => exact .inl rfl
    | some g => exact .inr (fun e => ha g e.symm hv))
theorem apartv_new {u v : Value} {b : Nat} {e' : TypeId} {z n z' n' : Nat} {xs ys : List Value} (hu : w.ownsRow b e z u n xs) (hv : w'.ownsRow w.heap.size e' z' v n' ys) : ApartV u v := fun k h1 h2 => by
  have := (hu.lt k h1).2
  have := (hv.lt k h2).1
  omega
theorem apartv_new' {u v : Value} {b : Nat} {e' : TypeId} {z n z' n' : Nat} {xs ys : List Value} (hu : w.ownsRow b e z u n xs) (hv : w'.ownsRow w.heap.size e' z' v n' ys) : ApartV v u := fun k h1 h2 => apartv_new hu hv k h2 h1
theorem apartv_grew {u v v' : Value} {b : Nat} {z n : Nat} {xs : List Value} (gr : Grew w w' v v') (ha : ApartV v u) (hu : w.ownsRow b e z u n xs) : ApartV v' u := fun k h1 h2 => by
  rcases gr.fresh k h1 with h3 | h3
  · exact ha k h3 h2
  · have := (hu.lt k h2).2
    omega
theorem own_grew {v v' u : Value} {b : Nat} {z n : Nat} {xs : List Value} (hu : w.ownsRow b e z u n xs) (gr : Grew w w' v v') (ha : ApartV v u) : w'.ownsRow b e z u n xs := ownsRow_grown hu gr.by_ ha
theorem og_grew {α : Type} {k b : Nat} {enc : α → List Value} {v v' u : Value} {l : List α} (hu : OG b e k enc w u l) (gr : Grew w w' v v') (ha : ApartV v u) : OG b e k enc w' u l := ⟨hu.1, own_grew hu.2 gr ha⟩
end
open Go.RowKit
def Yp (P : Program) (K : Value → World → Prop) (J : List PanicEntry → World → Prop) : Result Next → Prop
  | .ok (.value v) w => K v w
  | .ok .skip w => K undef w
  | .ok (.enter f args) w => Calls P f args w fun e w' => match e with | .returned v => K v w' | .panicked ch => J ch w' | .outgrown => False
  | .halt (.panic v) w => J [{ v, recovered := false }] w
  | _ => False
section
variable {P : Program} {n : Nat} {Q : PostF} {ρ : Slots} {w : World}
theorem Yp.ofK {K : Value → World → Prop} {J : List PanicEntry → World → Prop} {r : Result Next} (h : Yk P K r) : Yp P K J r := by
  unfold Yk at h
  split at h
  · exact h
  · exact h
  · exact h.mono fun e w' hx => by
      obtain ⟨v, rfl, hk⟩ := hx
      exact hk
  · exact h.elim
theorem oP {ops : Array Oper} {rest : List Oper} {dst : Option Tmp} {op : Op} {ty : TypeId} {pos : String} {af : Array Edge} (hd : (match dst with | some d => Nat.blt d n | none => true) = true)
    (h : Yp P (fun v w' => opsF P ops n Q rest (updO ρ dst v) w') (fun ch w' => Q (.panic ch) ρ w') ((execOp (evalR ρ) ⟨dst, op, ty, pos, af, none⟩).run P w)) : opsF P ops n Q (⟨dst, op, ty, pos, af, none⟩ :: rest) ρ w := by
  intro a ha
  have hdn : ∀ t, dst = some t → t < n := fun t ht => by subst ht; exact Nat.le_of_ble_eq_true hd
  refine wpList_plain rfl fun K hK => ?_
  unfold Oper.wp Oper.upon
  rw [ha.eval]
  have hput := fun v => ha.put dst hdn v
  revert h
  generalize (execOp (evalR ρ) ⟨dst, op, ty, pos, af, none⟩).run P w = r
  intro h
  match r, h with
  | .ok (.value v) w', h => exact hK _ _ (h _ (hput v))
  | .ok .skip w', h => exact hK _ _ (h _ (hput undef))
  | .halt (.panic v) w', h => exact ⟨ρ, ha, h⟩
  | .ok (.enter f args) w', h =>
    refine Calls.mono h ?_
    intro e w'' hx
    match e, hx with
    | .returned v, hx => exact hK _ _ (hx _ (hput v))
    | .panicked ch, hx => exact ⟨ρ, ha, hx⟩
theorem Yp.call {f : FuncId} {args : Array Operand} {at_ : Array TypeId} {dst : Option Tmp} {ty : TypeId} {pos : String} {af : Array Edge} {gd : Option (Nat × Bool)} {K : Value → World → Prop} {J : List PanicEntry → World → Prop} (hp : Plain P f) (vs : List Value) (hv : args.toList.map (evalR ρ) = vs)
    (h : Calls P f vs.toArray w fun e w' => match e with | .returned v => K v w' | .panicked ch => J ch w' | .outgrown => False) : Yp P K J ((execOp (evalR ρ) ⟨dst, .call ⟨.value (.func f), args, at_⟩, ty, pos, af, gd⟩).run P w) := by
  subst hv
  have hr := run_execCall hp (evalR ρ) args.toList at_ dst ty pos af gd w rfl
  rw [Array.toArray_toList] at hr
  rw [hr]
  exact h
theorem calls_either {f : FuncId} {args : Array Value} {K : Value → World → Prop} {J : List PanicEntry → World → Prop} {A : Value → World → Prop} {B : List PanicEntry → World → Prop} (h : Calls P f args w fun e w' => (∃ v, e = .returned v ∧ A v w') ∨ ∃ ch, e = .panicked ch ∧ B ch w')
    (hA : ∀ v w', A v w' → K v w') (hB : ∀ ch w', B ch w' → J ch w') : Calls P f args w fun e w' => match e with | .returned v => K v w' | .panicked ch => J ch w' | .outgrown => False :=
  h.mono fun e w' hx => by
    rcases hx with ⟨v, rfl, h1⟩ | ⟨ch, rfl, h1⟩
    · exact hA v w' h1
    · exact hB ch w' h1
theorem Yp.panic {dst : Option Tmp} {ty : TypeId} {pos : String} {af : Array Edge} {gd : Option (Nat × Bool)} {K : Value → World → Prop} {J : List PanicEntry → World → Prop} {x : Operand} {u : TypeId} {v : Value} (hx : evalR ρ x = .iface u v) (h : J [{ v := .iface u v, recovered := false }] w) :
    Yp P K J ((execOp (evalR ρ) ⟨dst, .panic x, ty, pos, af, gd⟩).run P w) := by
  have hr : (execOp (evalR ρ) ⟨dst, .panic x, ty, pos, af, gd⟩).run P w = .halt (.panic (.iface u v)) w := by
    simp [execOp, hx, Instr.panic, goPanic]
  rw [hr]
  exact h
section
variable {Q : PostF} {K : Slots → World → Prop} {ch : List PanicEntry}
theorem thenF_panic (h : Q (.panic ch) ρ w) : thenF K Q (.panic ch) ρ w := h
theorem inBlockF_panic {i : Nat} (h : Q (.panic ch) ρ w) : inBlockF i Q (.panic ch) ρ w := h
end
def postP (P : Program) (fn : Func) (R : Ending → World → Prop) : PostF
  | .normal, ρ, w | .ret, ρ, w => ∀ tmps : Array Value, (∀ t, tmps.getD t undef = ρ t) → ∃ v, (results fn tmps).run P w = .ok v w ∧ R (.returned v) w
  | .panic ch, _, w => R (.panicked ch) w
  | _, _, _ => False
theorem calls_of_wpP {f : FuncId} {fn : Func} {c : Code} {args : List Value} {R : Ending → World → Prop} (hf : P.funcs[f]? = some fn) (hb : fn.body = some c) (m : Nat) (hm : fn.ntmps = m) (hn : args.length ≤ m)
    (h : ∀ ρ, Begun args ρ → wpF P m c (postP P fn R) ρ w) : Calls P f args.toArray w R := by
  subst hm
  refine calls_of_wp hf hb ?_
  have hget : ∀ t, (args.toArray ++ Array.replicate (fn.ntmps - args.toArray.size) undef).getD t undef = args.getD t undef := fun t => by
    simp only [Array.getD_eq_getD_getElem?, List.getD_eq_getElem?_getD, Array.getElem?_append, List.size_toArray, List.getElem?_toArray]
    by_cases ht : t < args.length
    · rw [if_pos ht]
    · rw [if_neg ht, List.getElem?_eq_none (by omega), Array.getElem?_replicate]
      split <;> rfl
  refine wp_mono (h (fun t => args.getD t undef) ⟨fun _ => rfl⟩ _ ⟨?_, rfl, hget⟩) ?_
  · simp
    omega
  · rintro e a' w' ⟨ρ', hf', hQ⟩
    have fin : (∀ tmps : Array Value, (∀ t, tmps.getD t undef = ρ' t) → ∃ v, (results fn tmps).run P w' = .ok v w' ∧ R (.returned v) w') → a'.defers = [] ∧ ∃ v, (results fn a'.tmps).run P w' = .ok v w' ∧ R (.returned v) w' :=
      fun h => ⟨hf'.defers, h a'.tmps hf'.get⟩
    cases e with
    | normal => exact fin hQ
    | ret => exact fin hQ
    | panic ch => exact ⟨hf'.defers, hQ⟩
    | exit _ => exact hQ.elim
    | goto _ => exact hQ.elim
    | outgrown => exact hQ.elim
theorem postP_ret {fn : Func} {R : Ending → World → Prop} (rs : List ResultVar) (hrs : fn.results = rs.toArray) (vs : List Value) (v : Value) (hv : tupled vs = v) (h : ResAll P ρ w rs vs) (hR : R (.returned v) w) : postP P fn R .ret ρ w :=
  fun _ ht => ⟨_, results_fn hrs ht h, by rw [hv]; exact hR⟩
theorem postP_end {fn : Func} {R : Ending → World → Prop} (rs : List ResultVar) (hrs : fn.results = rs.toArray) (vs : List Value) (v : Value) (hv : tupled vs = v) (h : ResAll P ρ w rs vs) (hR : R (.returned v) w) : postP P fn R .normal ρ w :=
  fun _ ht => ⟨_, results_fn hrs ht h, by rw [hv]; exact hR⟩
theorem postP_panic {fn : Func} {R : Ending → World → Prop} {ch : List PanicEntry} (h : R (.panicked ch) w) : postP P fn R (.panic ch) ρ w := h
end
open Go.RowKit
section
variable {P : Program} {K : Value → World → Prop} {ρ : Slots} {w : World} {d : Option Tmp} {ty : TypeId} {pos : String} {af : Array Edge} {gd : Option (Nat × Bool)}
variable {α β : Type} {ek : α → Value} {ev : β → Value} {D : α → Prop} {b : Nat} {G : α → Option β}
variable {t Kt E : TypeId} {OK : Value → Prop}
theorem Yk.lookM (L : KL P Kt OK) (hD : ∀ a, D a → OK (ek a)) (hi : ∀ a c, ek a = ek c → a = c) (ht : P.underlying t = some (.map Kt E)) {z : Value} (hz : ∀ u : World, (zeroValue E).run P u = .ok z u) {x y : Operand} {a : α}
    (hm : evalR ρ x = .map (some b)) (hy : evalR ρ y = ek a) (h : MapF ek ev D w b G) (ha : D a) (hk : K ((G a).elim z ev) w) :
    Yk P K ((execOp (evalR ρ) ⟨d, .lookup t x y false, ty, pos, af, gd⟩).run P w) := by
  have hrun := h.look L hD hi ht hz ha false
  refine Yk.value (v := (G a).elim z ev) (w' := w) ?_ hk
  unfold execOp
  simp only [hm, hy, Sem.run_bind, hrun, Result.andThen_ok, Sem.run_pure]
  rfl
theorem Yk.mkMap (ek : α → Value) (ev : β → Value) (D : α → Prop) (hk : ∀ g w', w.heap.size = g → MapF ek ev D w' g (fun _ => none) → Ext w w' → w'.heap.size = g + 1 → K (.map (some g)) w') :
    Yk P K ((execOp (evalR ρ) ⟨d, .makeMap t none, ty, pos, af, gd⟩).run P w) := by
  refine Yk.value (v := .map (some w.heap.size)) (w' := w.alloc (.map #[] 0)) ?_ (hk _ _ rfl (MapF.made ek ev D w) ((Below.refl _ _).alloc (Nat.le_refl _) _) (by simp))
  unfold execOp
  simp [Instr.makeMap, newObj, Result.andThen]
  rfl
theorem Yk.lookMS (L : KL P Kt OK) (hD : ∀ a, D a → OK (ek a)) (hi : ∀ a c, ek a = ek c → a = c) (ht : P.underlying t = some (.map Kt E)) {z : Value} (hz : ∀ u : World, (zeroValue E).run P u = .ok z u) {x y : Operand} {a : α} {c : β}
    (hm : evalR ρ x = .map (some b)) (hy : evalR ρ y = ek a) (h : MapF ek ev D w b G) (ha : D a) (hG : G a = some c) (hk : K (ev c) w) : Yk P K ((execOp (evalR ρ) ⟨d, .lookup t x y false, ty, pos, af, gd⟩).run P w) :=
  Yk.lookM L hD hi ht hz hm hy h ha (by rw [hG]; exact hk)
theorem Yk.build {parts : Array (Nat × Operand)} {vs : Array (Nat × Value)} {v : Value} (hv : (parts.map fun (i, x) => (i, evalR ρ x)) = vs) (hr : ∀ w : World, (Instr.build t vs).run P w = .ok v w) (hk : K v w) :
    Yk P K ((execOp (evalR ρ) ⟨d, .build t parts, ty, pos, af, gd⟩).run P w) := by
  refine Yk.value (v := v) (w' := w) ?_ hk
  unfold execOp
  simp only [hv, hr, Sem.run_bind, Result.andThen_ok, Sem.run_pure]
theorem Yk.build1 {i0 : Nat} {x0 : Operand} {v0 v : Value} (h0 : evalR ρ x0 = v0) (hr : ∀ w : World, (Instr.build t #[(i0, v0)]).run P w = .ok v w) (hk : K v w) : Yk P K ((execOp (evalR ρ) ⟨d, .build t #[(i0, x0)], ty, pos, af, gd⟩).run P w) :=
  Yk.build (by simp [h0]) hr hk
theorem Yk.build2 {i0 i1 : Nat} {x0 x1 : Operand} {v0 v1 v : Value} (h0 : evalR ρ x0 = v0) (h1 : evalR ρ x1 = v1) (hr : ∀ w : World, (Instr.build t #[(i0, v0), (i1, v1)]).run P w = .ok v w) (hk : K v w) : Yk P K ((execOp (evalR ρ) ⟨d, .build t #[(i0, x0), (i1, x1)], ty, pos, af, gd⟩).run P w) :=
  Yk.build (by simp [h0, h1]) hr hk
theorem RG.slice {k : Nat} {enc : α → List Value} {v : Value} {l : List α} (h : RG k enc w v l) : ∃ ao n c, v = .slice ao n c := by
  obtain ⟨ao, c, rfl⟩ := h.len
  exact ⟨ao, _, c, rfl⟩
theorem Yk.mkIface {fs} (hu : P.underlying t = some (.struct fs)) {x : Operand} {v : Value} (hx : evalR ρ x = v) (hk : K (.iface t v) w) : Yk P K ((execOp (evalR ρ) ⟨d, .makeInterface t x, ty, pos, af, gd⟩).run P w) := by
  refine Yk.value (v := .iface t v) (w' := w) ?_ hk
  unfold execOp
  simp [Instr.makeInterface, hx, run_underlying hu, Result.andThen]
theorem Yk.lit1G {k : Nat} {enc : α → List Value} {e : TypeId} {x : Operand} {a : α} (hx : evalR ρ x = .agg (enc a).toArray) (hl : (enc a).length = k)
    (hr : ∀ (cs : Array Value), cs.size = k → ∀ w : World, (Instr.buildSlice t 1 #[(0, .agg cs)]).run P w = .ok (.slice (some ⟨w.heap.size, 0, none⟩) 1 1) (w.alloc (.cells cs e)))
    (hk : ∀ v w', RG k enc w' v [a] → Ext w w' → K v w') : Yk P K ((execOp (evalR ρ) ⟨d, .buildSlice t 1 #[(0, x)], ty, pos, af, gd⟩).run P w) := by
  have hE : Ext w (w.alloc (.cells (enc a).toArray e)) := (Below.refl _ _).alloc (Nat.le_refl _) _
  refine Yk.value (v := .slice (some ⟨w.heap.size, 0, none⟩) 1 1) (w' := w.alloc (.cells (enc a).toArray e)) ?_ (hk _ _ (RG.single hl (heap_alloc_new w _)) hE)
  unfold execOp
  simp only [List.map_toArray, List.map_cons, List.map_nil, hx, Sem.run_bind, hr _ (show (enc a).toArray.size = k by rw [List.size_toArray]; exact hl), Result.andThen_ok, Sem.run_pure]
theorem RG.elem {k : Nat} {enc : α → List Value} {v : Value} {l : List α} (h : RG k enc w v l) (dd : α) {i : Nat} (hi : i < l.length) : (enc (l.getD i dd)).length = k := by
  refine h.1 _ ?_
  rw [List.getD_eq_getElem?_getD, List.getElem?_eq_getElem hi]
  exact List.getElem_mem hi
theorem RG.cut {k : Nat} {enc : α → List Value} {v : Value} {l : List α} (h : ∀ x ∈ l, (enc x).length = k) {a c : Nat} (ha : a ≤ c) (hc : c ≤ l.length) (hR : Reads w k v (c - a) (((l.flatMap enc).drop (a * k)).take ((c - a) * k))) : RG k enc w v ((l.drop a).take (c - a)) := by
  have hd : ∀ (l : List α) (n : Nat), (∀ x ∈ l, (enc x).length = k) → (l.flatMap enc).drop (n * k) = (l.drop n).flatMap enc := by
    intro l n
    induction n generalizing l with
    | zero => intro _; simp
    | succ n ih =>
      intro h
      cases l with
      | nil => simp
      | cons x r =>
        have hx := h x (by simp)
        rw [List.flatMap_cons, List.drop_succ_cons, ← ih r (fun y hy => h y (by simp [hy])), show (n + 1) * k = (enc x).length + n * k by rw [hx, Nat.add_mul]; omega, List.drop_append, List.drop_of_length_le (by omega), Nat.add_sub_cancel_left, List.nil_append]
  have htk : ∀ (l : List α) (n : Nat), (∀ x ∈ l, (enc x).length = k) → (l.flatMap enc).take (n * k) = (l.take n).flatMap enc := by
    intro l n
    induction n generalizing l with
    | zero => intro _; simp
    | succ n ih =>
      intro h
      cases l with
      | nil => simp
      | cons x r =>
        have hx := h x (by simp)
        rw [List.flatMap_cons, List.take_succ_cons, List.flatMap_cons, ← ih r (fun y hy => h y (by simp [hy])), show (n + 1) * k = (enc x).length + n * k by rw [hx, Nat.add_mul]; omega, List.take_append, List.take_of_length_le (by omega), Nat.add_sub_cancel_left]
  refine ⟨fun x hx => h x (List.mem_of_mem_drop (List.mem_of_mem_take hx)), ?_⟩
  rw [hd l a h, htk _ _ (fun x hx => h x (List.mem_of_mem_drop hx))] at hR
  rw [show ((l.drop a).take (c - a)).length = c - a by rw [List.length_take, List.length_drop]; omega]
  exact hR
theorem Yp.callA1 {f : FuncId} (hp : Plain P f) {x0 : Operand} {v0 : Value} {at_ : Array TypeId} {J : List PanicEntry → World → Prop} (h0 : evalR ρ x0 = v0)
    (h : Calls P f #[v0] w fun e w' => match e with | .returned v => K v w' | .panicked ch => J ch w' | .outgrown => False) : Yp P K J ((execOp (evalR ρ) ⟨d, .call ⟨.value (.func f), #[x0], at_⟩, ty, pos, af, gd⟩).run P w) :=
  Yp.call hp [v0] (by simp [h0]) h
theorem Yp.callA2 {f : FuncId} (hp : Plain P f) {x0 x1 : Operand} {v0 v1 : Value} {at_ : Array TypeId} {J : List PanicEntry → World → Prop} (h0 : evalR ρ x0 = v0) (h1 : evalR ρ x1 = v1)
    (h : Calls P f #[v0, v1] w fun e w' => match e with | .returned v => K v w' | .panicked ch => J ch w' | .outgrown => False) : Yp P K J ((execOp (evalR ρ) ⟨d, .call ⟨.value (.func f), #[x0, x1], at_⟩, ty, pos, af, gd⟩).run P w) :=
  Yp.call hp [v0, v1] (by simp [h0, h1]) h
end
open Go.RowKit
section
variable {P : Program} {K : Value → World → Prop} {ρ : Slots} {w : World} {d : Option Tmp} {ty : TypeId} {pos : String} {af : Array Edge} {gd : Option (Nat × Bool)}
theorem Yk.extern2 {f : FuncId} {at_ : Array TypeId} {x y : Operand} {v0 v1 v : Value} (hx : evalR ρ x = v0) (hy : evalR ρ y = v1) (hr : (callFunc f #[v0, v1]).run P w = .ok (.value v) w) (hk : K v w) : Yk P K ((execOp (evalR ρ) ⟨d, .call ⟨.value (.func f), #[x, y], at_⟩, ty, pos, af, gd⟩).run P w) := by
  refine Yk.value (v := v) (w' := w) ?_ hk
  have hf : evalR ρ (.func f) = .func (.func f) #[] #[] := rfl
  unfold execOp
  simp [resolve, hf, Deferred.ofValue, invoke, hx, hy, hr]
end
section
variable {P : Program} {w : World}
theorem RB.ofBlk {g : Nat} {l : List UInt8} {t : TypeId} {fr : Nat × Nat} (h : w.heap[g]? = some (.cells (Lib.byteCells l).toArray t fr)) (hl : l.length ≤ 9223372036854775807) : RB w (.slice (some ⟨g, 0, none⟩) l.length l.length) l :=
  ⟨by simp [Lib.byteCells], _, _, rfl, Nat.le_refl _, by unfold maxLen; omega, (fun h => by cases h), fun a ha j u hu => by
    cases ha
    rw [Addr.add_lit, Nat.zero_add]
    exact cellAt h hu⟩
theorem RB.ofBlkN {g n : Nat} {l : List UInt8} {t : TypeId} {fr : Nat × Nat} (h : w.heap[g]? = some (.cells (Lib.byteCells l).toArray t fr)) (hn : l.length = n) (hl : n ≤ 9223372036854775807) : RB w (.slice (some ⟨g, 0, none⟩) n n) l := by
  subst hn
  exact RB.ofBlk h hl
theorem Yk.sliceArr {K : Value → World → Prop} {ρ : Tmp → Value} {t e : TypeId} {n : Nat} (ht : P.underlying t = some (.array n e)) (he : ∀ w' : World, (sizeOf e).run P w' = .ok 1 w') {x : Operand} {d : Option Tmp} {ty : TypeId} {pos : String} {af : Array Edge} {gd : Option (Nat × Bool)} {w : World} {b o : Nat}
    (hx : evalR ρ x = .pointer (some ⟨b, o, none⟩)) (hk : K (.slice (some ⟨b, o, none⟩) n n) w) : Yk P K ((execOp (evalR ρ) ⟨d, .slice t x none none none, ty, pos, af, gd⟩).run P w) := by
  refine Yk.value (v := .slice (some ⟨b, o, none⟩) n n) (w' := w) ?_ hk
  have hE : P.elem t = e := by simp [Program.elem, ht]
  have hN : P.arrayLen t = n := by simp [Program.arrayLen, ht]
  have hr := run_sliceAt_array_all (P := P) (w := w) (t := t) (a := ⟨b, o, none⟩) (by rw [hE, hN]; exact ht)
  rw [hE, he, hN] at hr
  unfold execOp
  simp only [hx, Option.map_none, Sem.run_bind, hr, Result.andThen_ok, Sem.run_pure]
  simp [slicedAt, Addr.add_lit]
end
def zeroB (x : Id32) : Bool := decide (x.1 = List.replicate 32 0)
theorem drop_cons {α : Type} {l : List α} {i : Nat} (d : α) (h : i < l.length) : l.drop i = l.getD i d :: l.drop (i + 1) := by
  rw [List.drop_eq_getElem_cons h, List.getD_eq_getElem?_getD, List.getElem?_eq_getElem h]; rfl
theorem getD_mem {α : Type} {l : List α} {i : Nat} (d : α) (h : i < l.length) : l.getD i d ∈ l := by
  rw [List.getD_eq_getElem?_getD, List.getElem?_eq_getElem h]; exact List.getElem_mem h
theorem bytes_len32 {l : List UInt8} (h : (Lib.byteCells l).length = 32) : l.length = 32 := by rwa [Lib.byteCells_length] at h
open Go.RowKit
theorem Yp.mono' {P : Program} {K K' : Value → World → Prop} {J J' : List PanicEntry → World → Prop} {r : Result Next} (h : Yp P K J r) (hm : ∀ v w, K v w → K' v w) (hj : ∀ c w, J c w → J' c w) : Yp P K' J' r := by
  match r, h with
  | .ok (.value v) w', h => exact hm _ _ h
  | .ok .skip w', h => exact hm _ _ h
  | .halt (.panic v) w', h => exact hj _ _ h
  | .ok (.enter f args) w', h =>
    refine Calls.mono h fun e w'' hx => ?_
    match e, hx with
    | .returned v, hx => exact hm _ _ hx
    | .panicked ch, hx => exact hj _ _ hx
open Go.RowKit
section
variable {P : Program} {l : List Oper} {kill : Nat → List Nat} {C : Nat → World → Prop} {R : Nat → World → World → Prop} {Φ : Nat → Fact} {a0 : Act}
theorem anyInvLD (g : Good l a0.tmps.size) (hkl : killB l kill = true) {L : Nat} {oL : Oper} (hn : lastB l L = true) (hoL : l[L]? = some oL) (hgL : oL.guard = none)
    (hC : ∀ n m, n < l.length → m < l.length → n ≠ m → ((masks l []).getD n 0).testBit m = false → ∀ w w', C m w → R n w w' → C m w') (hΦ : ∀ n i, n < l.length → i < l.length → i ∉ kill n → i ≠ n → ((masks l []).getD i 0).testBit n = false → ∀ v w w', Φ i v w → R n w w' → Φ i v w') (hRr : ∀ n o w, l[n]? = some o → o.guard.isSome = true → R n w w) (hs : ∀ i o, l[i]? = some o → i ≠ L → StepOk P l C R Φ a0.tmps i o) {Q : Exit → Act → World → Prop}
    (hQ : ∀ listed a' w', (∀ i, i < l.length → i ≠ L → On listed i) → ¬ On listed L → Inv l kill C (fun _ _ => True) Φ a0 listed a' w' → Yp P (fun v w'' => Q .normal (a'.put oL.dst v) w'') (fun ch w'' => Q (.panic ch) a' w'') ((execOp a'.eval oL).run P w')) :
    ∀ (fuel : Nat) (listed : Array Bool) (a : Act) (w : World), (listed.toList.filter (!·)).length = fuel → ¬ On listed L → Inv l kill C (fun _ _ => True) Φ a0 listed a w → wpAny P .any l.toArray Q fuel listed a w := by
  obtain ⟨hlen, hb⟩ := lastB_iff hn
  have rdy : ∀ (listed : Array Bool), listed.size = l.length → (∀ i, i < l.length → On listed i) → Region.ready .any l.toArray listed = [] := by
    intro listed hsz hon
    cases hr : Region.ready .any l.toArray listed with
    | nil => rfl
    | cons x xs =>
      exfalso
      have hm : x ∈ Region.ready .any l.toArray listed := by rw [hr]; simp
      obtain ⟨h1, o, ho, _⟩ := mem_ready.1 hm
      have hx : x < l.length := by simpa using (Array.getElem?_eq_some_iff.1 ho).1
      have h2 := hon x hx
      have hx' : x < listed.size := h2.lt
      unfold On at h2
      simp [hx'] at h1 h2
      rw [h1] at h2
      cases h2
  intro fuel
  induction fuel with
  | zero =>
    intro listed a w hf hoff h
    exfalso
    have := count_zero _ hf L (by rw [Array.length_toList, h.size]; omega)
    exact hoff (by unfold On; simp at this; simp [this])
  | succ fuel ih =>
    intro listed a w hf hoff h
    have hstep : ∀ i ∈ Region.ready .any l.toArray listed, ∃ o, l[i]? = some o ∧ ¬ On listed i ∧ (∀ e ∈ o.after, Region.binds .any e = true → On listed e.on) ∧ ((listed.setIfInBounds i true).toList.filter (!·)).length = fuel := by
      intro i hi
      obtain ⟨h1, o, ho, hall⟩ := mem_ready.1 hi
      have ho' : l[i]? = some o := by simpa using ho
      have hil : i < listed.size := by rw [h.size]; exact (List.getElem?_eq_some_iff.1 ho').1
      refine ⟨o, ho', ?_, fun e he hb => hall e he hb, ?_⟩
      · unfold On
        simp [hil] at h1 ⊢
        exact h1
      · rw [Array.toList_setIfInBounds]
        have := count_set listed.toList i (by
          simp [hil] at h1
          simp [hil, h1])
        omega
    refine ⟨fun hr => ?_, fun i hi => ?_⟩
    · exfalso
      have full : ∀ i, i < l.length → On listed i := by
        intro i
        induction i using Nat.strongRecOn with
        | _ i ih =>
          intro hi
          refine Classical.byContradiction fun hno => ?_
          have ho : l[i]? = some l[i] := List.getElem?_eq_getElem hi
          have : i ∈ Region.ready .any l.toArray listed := by
            refine mem_ready.2 ⟨?_, l[i], by rw [List.getElem?_toArray]; exact ho, fun e he hb => ?_⟩
            · have hi' : i < listed.size := by rw [h.size]; exact hi
              unfold On at hno
              simp [hi'] at hno ⊢
              exact hno
            · have hlt := g.back i _ ho e he hb
              exact ih e.on hlt (by omega)
          rw [hr] at this
          cases this
      exact hoff (full L (by omega))
    · obtain ⟨o, ho, hno, hall, hcnt⟩ := hstep i hi
      by_cases hiL : i = L
      · subst hiL
        obtain rfl : oL = o := by rw [hoL] at ho; exact Option.some.inj ho
        have hon : ∀ j, j < l.length → j ≠ i → On listed j := fun j hj hne => h.maskReady ho hall (hb j (by omega))
        have hst := hQ listed a w hon hno h
        have hall' : ∀ j, j < l.length → On (listed.setIfInBounds i true) j := fun j hj => by
          by_cases hji : j = i
          · exact (on_set (by rw [h.size]; omega)).2 (.inl hji)
          · exact (on_set (by rw [h.size]; omega)).2 (.inr (hon j hj hji))
        have hr := rdy (listed.setIfInBounds i true) (by simpa using h.size) hall'
        have fin : ∀ v w', Q .normal (a.put oL.dst v) w' → wpAny P .any l.toArray Q fuel (listed.setIfInBounds i true) (a.put oL.dst v) w' := fun v w' hq => by
          cases fuel with
          | zero => exact ⟨hr, hq⟩
          | succ m => exact ⟨fun _ => hq, fun j hj => by rw [hr] at hj; cases hj⟩
        unfold wpOp
        simp only [List.getElem?_toArray, ho]
        have hw : Region.wanted oL (yielded l.toArray a.tmps) = true := by unfold Region.wanted; rw [hgL]
        rw [if_pos hw]
        refine .inl ?_
        unfold Oper.wp
        generalize (execOp a.eval oL).run P w = r at hst ⊢
        match r, hst with
        | .ok (.value v) w', hst => exact fin _ _ hst
        | .ok .skip w', hst => exact fin _ _ hst
        | .halt (.panic v) w', hst => exact hst
        | .ok (.enter f args) w', hst =>
          refine Calls.mono hst fun e w'' hx => ?_
          match e, hx with
          | .returned v, hx => exact fin _ _ hx
          | .panicked ch, hx => exact hx
      · refine h.step g hkl hC (fun _ _ _ _ _ _ _ _ _ _ => trivial) hΦ hRr ho hno hall (hs i o ho hiL) fun a' w' h' => ih _ _ _ hcnt (fun hx => ?_) h'
        exact ((on_set (by rw [h.size]; exact (List.getElem?_eq_some_iff.1 ho).1)).1 hx).elim (fun e => hiL e.symm) hoff
end
section
variable {P : Program} {n : Nat} {ρ : Slots} {w : World} {Q : PostF}
theorem wpF_draw_lastD {l : List Oper} (L : Nat) (oL : Oper) (ks : Nat → List Nat) (C : Nat → World → Prop) (R : Nat → World → World → Prop) (Φs : List Fact) {id : Nat} (hm : P.follows .mixedOrders = true) (ds : List Tmp) (hg : goodB l n = true) (hn : lastB l L = true) (hkl : killB l ks = true) (hds : slotsW l = ds) (hoL : l[L]? = some oL) (hgL : oL.guard = none) (hd : (match oL.dst with | some d => Nat.blt d n | none => true) = true) (hΦL : ∀ v w, facts Φs L v w)
    (hC : ∀ n m, n < l.length → m < l.length → n ≠ m → ((masks l []).getD n 0).testBit m = false → ∀ w w', C m w → R n w w' → C m w')
    (hΦ : ∀ n i, n < l.length → i < l.length → i ∉ ks n → i ≠ n → ((masks l []).getD i 0).testBit n = false → ∀ v w w', facts Φs i v w → R n w w' → facts Φs i v w')
    (hRr : ∀ n o w, l[n]? = some o → o.guard.isSome = true → R n w w) (h0 : ∀ n, n < l.length → C n { w with drawn := w.drawn + 1 })
    (hs : StepsFL P l L C R (facts Φs) ρ 0 l)
    (hQ : ∀ (ρ' : Slots) w1, C L w1 → EndF ds ρ ρ' → EndFacts l ks (facts Φs) ρ' w1 ds → Yp P (fun v w' => Q .normal (updO ρ' oL.dst v) w') (fun ch w' => Q (.panic ch) ρ' w') ((execOp (evalR ρ') oL).run P w1)) : wpF P n (.region id l.toArray true) Q ρ w := by
  intro a ha
  obtain ⟨T, df⟩ := a
  have hz : T.size = n := ha.size
  subst hz
  obtain ⟨hl, hb⟩ := lastB_iff hn
  have g := good_of hg
  refine wp_region_any hm (anyInvLD (a0 := { tmps := T, defers := df }) (C := C) (R := R) (Φ := facts Φs) g hkl hn hoL hgL hC hΦ hRr (fun i o ho hi => ?_) (fun listed a' w' hon hoff h => ?_) _ _ _ _ (by simp) ?_ ?_)
  · have hst := StepsFL.get l 0 hs i o ho (by omega)
    rw [Nat.zero_add] at hst
    have h2 := StepsF.ok (P := P) (l := l) (C := C) (R := R) (Φ := facts Φs) (T := T) ha.get [o] i ⟨hst, trivial⟩
    exact h2.1
  · -- what the slots hold
    have hw : ∀ d k, writer l d l.length = some k → (List.range l.length).all (fun n => !(ks n).contains k) = true → facts Φs k (a'.tmps.getD d undef) w' := fun d k hk hall => by
      obtain ⟨h1, ⟨o, ho, hd'⟩, h3⟩ := writer_some _ hk
      by_cases hkL : k = L
      · rw [hkL]; exact hΦL _ _
      refine h.new d k o ho hd' (hon k h1 hkL) (fun k' o' hkk ho' hd'' _ => h3 k' o' hkk (List.getElem?_eq_some_iff.1 ho').1 ho' hd'') (fun n hn hkn => ?_)
      have hnl : n < l.length := by have := hn.lt; rw [h.size] at this; exact this
      have := List.all_eq_true.1 hall n (by simpa using hnl)
      simp at this
      exact this hkn
    have hget : ∀ t, a'.tmps.getD t undef = if t ∈ ds then a'.tmps.getD t undef else ρ t := fun t => by
      by_cases hn : t ∈ ds
      · rw [if_pos hn]
      · rw [if_neg hn, ← ha.get]
        exact h.old t fun k o ho hd _ => hn (by
          rw [← hds]
          unfold slotsW
          rw [List.mem_eraseDups, List.mem_filterMap]
          exact ⟨o, List.mem_of_getElem? ho, hd⟩)
    have hcl := h.cls L (by omega) hoff
    have hend : EndF ds ρ (fun t => a'.tmps.getD t undef) := ⟨fun t ht => by rw [hget t, if_neg (by simpa using ht)]⟩
    have := hQ (fun t => a'.tmps.getD t undef) w' hcl hend (endFacts_of hw ds)
    rw [evalR_eq] at this
    have hfit : Fits _ (fun t => a'.tmps.getD t undef) a' := ⟨h.tmps, h.defers.trans ha.defers, fun t => rfl⟩
    have hdn : ∀ t, oL.dst = some t → t < _ := fun t ht => by rw [ht] at hd; exact Nat.le_of_ble_eq_true hd
    exact Yp.mono' this (fun v w'' hq => ⟨_, hfit.put oL.dst hdn v, hq⟩) (fun ch w'' hq => ⟨_, ⟨h.tmps, h.defers.trans ha.defers, fun t => rfl⟩, hq⟩)
  · intro h
    unfold On at h
    rw [Array.getD_eq_getD_getElem?, Array.getElem?_replicate] at h
    split at h <;> simp at h
  · have hno : ∀ i, ¬ On (Array.replicate l.toArray.size false) i := fun i h => by
      unfold On at h
      rw [Array.getD_eq_getD_getElem?, Array.getElem?_replicate] at h
      split at h <;> simp at h
    exact ⟨Array.size_replicate, fun i o _ h => absurd h (hno i), rfl, rfl, fun n hn _ => h0 n hn, trivial, fun t _ => rfl, fun t k o _ _ h => absurd h (hno k)⟩
theorem wpF_draw_endD {l : List Oper} (L : Nat) (oL : Oper) (Φs : List Fact) {id : Nat} (hm : P.follows .mixedOrders = true) (ds : List Tmp) (hg : goodB l n = true) (hn : lastB l L = true) (hds : slotsW l = ds)
    (hoL : l[L]? = some oL) (hgL : oL.guard = none) (hd : (match oL.dst with | some d => Nat.blt d n | none => true) = true) (hΦL : ∀ v w, facts Φs L v w) (hst : AllStab Ext Φs)
    (hs : StepsFL P l L (fun _ => Ext w) (fun _ => Ext) (facts Φs) ρ 0 l)
    (hQ : ∀ (ρ' : Slots) w1, Ext w w1 → EndF ds ρ ρ' → EndFacts l (fun _ => []) (facts Φs) ρ' w1 ds → Yp P (fun v w' => Q .normal (updO ρ' oL.dst v) w') (fun ch w' => Q (.panic ch) ρ' w') ((execOp (evalR ρ') oL).run P w1)) : wpF P n (.region id l.toArray true) Q ρ w :=
  wpF_draw_lastD L oL (fun _ => []) (fun _ => Ext w) (fun _ => Ext) Φs hm ds hg hn (by unfold killB; simp) hds hoL hgL hd hΦL (fun _ _ _ _ _ _ _ _ hc hr => hc.trans hr) (fun _ i _ _ _ _ _ v w1 w' => hst.get Φs i v w1 w') (fun _ _ w1 _ _ => Ext.refl w1) (fun _ _ => (Below.refl _ _).drew) hs hQ
theorem updO_other {ρ : Slots} {d : Option Tmp} {v : Value} {t : Tmp} (h : some t ≠ d) : updO ρ d v t = ρ t := by
  cases d with
  | none => rfl
  | some d =>
    show (bif Nat.beq t d then v else ρ t) = ρ t
    cases e : Nat.beq t d with
    | false => rfl
    | true => exact absurd (congrArg some (Nat.eq_of_beq_eq_true e)) h
theorem wpF_draw_endE {l : List Oper} (L : Nat) (oL : Oper) (Φs : List Fact) {id : Nat} (hm : P.follows .mixedOrders = true) (ds : List Tmp) (hg : goodB l n = true) (hn : lastB l L = true) (hds : slotsW l = ds)
    (hoL : l[L]? = some oL) (hgL : oL.guard = none) (hd : (match oL.dst with | some d => Nat.blt d n | none => true) = true) (hΦL : ∀ v w, facts Φs L v w) (hst : AllStab Ext Φs)
    (hs : StepsFL P l L (fun _ => Ext w) (fun _ => Ext) (facts Φs) ρ 0 l)
    (hQ : ∀ (ρ' : Slots) w1, Ext w w1 → EndF ds ρ ρ' → EndFacts l (fun _ => []) (facts Φs) ρ' w1 ds → Yp P (fun _ w' => ∀ ρ'' : Slots, (∀ t, some t ≠ oL.dst → ρ'' t = ρ' t) → Q .normal ρ'' w') (fun ch w' => Q (.panic ch) ρ' w') ((execOp (evalR ρ') oL).run P w1)) : wpF P n (.region id l.toArray true) Q ρ w :=
  wpF_draw_endD L oL Φs hm ds hg hn hds hoL hgL hd hΦL hst hs fun ρ' w1 h1 h2 h3 => Yp.mono' (hQ ρ' w1 h1 h2 h3) (fun _ _ h => h _ fun _ ht => updO_other ht) (fun _ _ h => h)
end
open Go.RowKit
def tailB (l : List Oper) (k : Nat) : Bool := (List.range l.length).all fun i => Nat.blt i k || (List.range i).all fun m => ((masks l []).getD i 0).testBit m
theorem tailB_iff {l : List Oper} {k : Nat} (h : tailB l k = true) : ∀ i, k ≤ i → i < l.length → ∀ m, m < i → ((masks l []).getD i 0).testBit m = true := fun i hi hl m hm => by
  unfold tailB at h
  have h1 := List.all_eq_true.1 h i (by simpa using hl)
  rcases Bool.or_eq_true _ _ ▸ h1 with h2 | h2
  · have := Nat.le_of_ble_eq_true h2
    omega
  · exact List.all_eq_true.1 h2 m (by simpa using hm)
section
variable {P : Program} {l : List Oper} {kill : Nat → List Nat} {C : Nat → World → Prop} {R : Nat → World → World → Prop} {Φ : Nat → Fact} {a0 : Act}
def StepsFC (P : Program) (l : List Oper) (L : Nat) (C : Nat → World → Prop) (R : Nat → World → World → Prop) (Φ : Nat → Fact) (ρ : Slots) : Nat → List Oper → Prop
  | _, [] => True
  | n, o :: r => (bif Nat.ble L n then True else StepF P l C R Φ ρ n o) ∧ StepsFC P l L C R Φ ρ (n + 1) r
theorem stepFC {L n : Nat} {ρ : Slots} {o : Oper} (h : StepF P l C R Φ ρ n o) : bif Nat.ble L n then True else StepF P l C R Φ ρ n o := by
  cases Nat.ble L n
  · exact h
  · trivial
theorem StepsFC.get {L : Nat} {ρ : Slots} : ∀ (r : List Oper) (n : Nat), StepsFC P l L C R Φ ρ n r → ∀ k o, r[k]? = some o → n + k < L → StepF P l C R Φ ρ (n + k) o
  | [], _, _, k, o, h, _ => by simp at h
  | o' :: r, n, hs, 0, o, h, hne => by
    simp only [List.getElem?_cons_zero, Option.some.injEq] at h
    subst h
    have h1 := hs.1
    rw [show Nat.ble L n = false by rw [← Bool.not_eq_true]; exact fun x => by have := Nat.le_of_ble_eq_true x; omega] at h1
    exact h1
  | o' :: r, n, hs, k + 1, o, h, hne => by
    rw [List.getElem?_cons_succ] at h
    have := StepsFC.get r (n + 1) hs.2 k o h (by omega)
    rwa [show n + 1 + k = n + (k + 1) by omega] at this
theorem tail_any {z : Nat} (g : Good l z) {k : Nat} (ht : ∀ i, k ≤ i → i < l.length → ∀ m, m < i → ((masks l []).getD i 0).testBit m = true) {Q : Exit → Act → World → Prop} :
    ∀ (fuel m : Nat) (listed : Array Bool) (a : Act) (w : World), listed.size = l.length → (∀ i, On listed i ↔ i < m) → k ≤ m → m ≤ l.length → l.length ≤ m + fuel → wpList P l.toArray Q (l.drop m) a w → wpAny P .any l.toArray Q fuel listed a w := by
  have noReady : ∀ (m : Nat) (listed : Array Bool), listed.size = l.length → (∀ i, On listed i ↔ i < m) → l.length ≤ m → Region.ready .any l.toArray listed = [] := by
    intro m listed hsz hon hm
    cases hr : Region.ready .any l.toArray listed with
    | nil => rfl
    | cons x xs =>
      exfalso
      have hmem : x ∈ Region.ready .any l.toArray listed := by rw [hr]; simp
      obtain ⟨h1, o, ho, _⟩ := mem_ready.1 hmem
      have hx : x < l.length := by simpa using (Array.getElem?_eq_some_iff.1 ho).1
      have h2 := (hon x).2 (by omega)
      have hx' : x < listed.size := h2.lt
      unfold On at h2
      simp [hx'] at h1 h2
      rw [h1] at h2
      cases h2
  intro fuel
  induction fuel with
  | zero =>
    intro m listed a w hsz hon hk hm hf hw
    rw [List.drop_of_length_le (by omega)] at hw
    exact ⟨noReady m listed hsz hon (by omega), hw⟩
  | succ fuel ih =>
    intro m listed a w hsz hon hk hm hf hw
    by_cases hml : m = l.length
    · have hr := noReady m listed hsz hon (by omega)
      rw [List.drop_of_length_le (by omega)] at hw
      exact ⟨fun _ => hw, fun i hi => by rw [hr] at hi; cases hi⟩
    · have hlt : m < l.length := by omega
      have hoff : ¬ On listed m := fun x => by have := (hon m).1 x; omega
      have hI : Inv l (fun _ => []) (fun _ _ => True) (fun _ _ => True) (fun _ _ _ => True) a listed a w :=
        ⟨hsz, fun i o ho hi e he hb => (hon _).2 (by have := g.back i o ho e he hb; have := (hon i).1 hi; omega), rfl, rfl, fun _ _ _ => trivial, trivial, fun _ _ => rfl, fun _ _ _ _ _ _ _ _ => trivial⟩
      refine ⟨fun hr => ?_, fun i hi => ?_⟩
      · exfalso
        have ho : l[m]? = some l[m] := List.getElem?_eq_getElem hlt
        have : m ∈ Region.ready .any l.toArray listed := by
          refine mem_ready.2 ⟨?_, l[m], by rw [List.getElem?_toArray]; exact ho, fun e he hb => (hon _).2 (g.back m _ ho e he hb)⟩
          have hm' : m < listed.size := by omega
          unfold On at hoff
          simp [hm'] at hoff ⊢
          exact hoff
        rw [hr] at this
        cases this
      · obtain ⟨h1, o, ho, hall⟩ := mem_ready.1 hi
        have ho' : l[i]? = some o := by simpa using ho
        have hil : i < l.length := (List.getElem?_eq_some_iff.1 ho').1
        have hno : ¬ On listed i := fun x => by
          have hx : i < listed.size := by omega
          unfold On at x
          simp [hx] at h1 x
          rw [h1] at x
          cases x
        have him : i = m := by
          by_cases h2 : i < m
          · exact absurd ((hon i).2 h2) hno
          · by_cases h3 : i = m
            · exact h3
            · exact absurd (hI.maskReady ho' (fun e he hb => hall e he hb) (ht i (by omega) hil m (by omega))) hoff
        subst him
        rw [List.drop_eq_getElem_cons hlt] at hw
        obtain rfl : l[i] = o := by rw [List.getElem?_eq_getElem hlt] at ho'; exact Option.some.inj ho'
        have nxt : ∀ a' w', wpList P l.toArray Q (l.drop (i + 1)) a' w' → wpAny P .any l.toArray Q fuel (listed.setIfInBounds i true) a' w' := fun a' w' hw' =>
          ih (i + 1) _ a' w' (by simpa using hsz) (fun j => by rw [on_set (by omega), hon j]; omega) (by omega) (by omega) (by omega) hw'
        unfold wpOp
        simp only [List.getElem?_toArray, ho']
        unfold wpList at hw
        split at hw
        · rename_i hwt
          rw [if_pos hwt]
          exact hw.imp (fun h => Oper.wp_mono nxt h) (fun h => h)
        · rename_i hwt
          rw [if_neg hwt]
          exact nxt _ _ hw
theorem anyInvC {E : Array Bool → World → Prop} (hE : ∀ n listed w w', n < l.length → listed.size = l.length → ¬ On listed n → (∀ i k, On listed i ∨ i = n → ((masks l []).getD i 0).testBit k = true → On listed k) → E listed w → R n w w' → E (listed.setIfInBounds n true) w') (g : Good l a0.tmps.size) (hkl : killB l kill = true) {k : Nat} (ht : ∀ i, k ≤ i → i < l.length → ∀ m, m < i → ((masks l []).getD i 0).testBit m = true) (hk : k ≤ l.length)
    (hC : ∀ n m, n < l.length → m < l.length → n ≠ m → ((masks l []).getD n 0).testBit m = false → ∀ w w', C m w → R n w w' → C m w') (hΦ : ∀ n i, n < l.length → i < l.length → i ∉ kill n → i ≠ n → ((masks l []).getD i 0).testBit n = false → ∀ v w w', Φ i v w → R n w w' → Φ i v w') (hRr : ∀ n o w, l[n]? = some o → o.guard.isSome = true → R n w w) (hs : ∀ i o, l[i]? = some o → i < k → StepOk P l C R Φ a0.tmps i o) {Q : Exit → Act → World → Prop}
    (hQ : ∀ listed a' w', (∀ i, On listed i ↔ i < k) → Inv l kill C E Φ a0 listed a' w' → wpList P l.toArray Q (l.drop k) a' w') :
    ∀ (fuel : Nat) (listed : Array Bool) (a : Act) (w : World), (listed.toList.filter (!·)).length = fuel → (∀ i, On listed i → i < k) → Inv l kill C E Φ a0 listed a w → wpAny P .any l.toArray Q fuel listed a w := by
  intro fuel
  induction fuel with
  | zero =>
    intro listed a w hf hoff h
    have full : ∀ i, i < l.length → On listed i := fun i hi => by
      have := count_zero _ hf i (by rw [Array.length_toList, h.size]; omega)
      unfold On
      simp at this
      simp [this]
    have hkl' : k = l.length := by
      by_cases e : k = l.length
      · exact e
      · have := hoff k (full k (by omega)); omega
    exact tail_any g ht 0 k listed a w h.size (fun i => ⟨hoff i, fun hi => full i (by omega)⟩) (Nat.le_refl _) hk (by omega) (hQ listed a w (fun i => ⟨hoff i, fun hi => full i (by omega)⟩) h)
  | succ fuel ih =>
    intro listed a w hf hoff h
    by_cases hfull : ∀ i, i < k → On listed i
    · have hon : ∀ i, On listed i ↔ i < k := fun i => ⟨hoff i, hfull i⟩
      refine tail_any g ht (fuel + 1) k listed a w h.size hon (Nat.le_refl _) hk ?_ (hQ listed a w hon h)
      have e := List.take_append_drop k listed.toList
      rw [← e, List.filter_append, List.length_append] at hf
      have e2 : (listed.toList.drop k).filter (!·) = listed.toList.drop k := List.filter_eq_self.2 fun b hb => by
        obtain ⟨j, hj, rfl⟩ := List.getElem_of_mem hb
        rw [List.getElem_drop]
        have hno : ¬ On listed (k + j) := fun x => by have := hoff _ x; omega
        rw [List.length_drop] at hj
        have hlt : k + j < listed.size := by rw [← Array.length_toList]; omega
        unfold On at hno
        simp [hlt] at hno
        simp [hno]
      rw [e2, List.length_drop] at hf
      have hz : listed.toList.length = l.length := by rw [Array.length_toList]; exact h.size
      omega
    · have hlow : ∃ j, j < k ∧ ¬ On listed j := by
        refine Classical.byContradiction fun hn => hfull fun i hi => Classical.byContradiction fun hx => hn ⟨i, hi, hx⟩
      obtain ⟨j0, hj0, hoff0⟩ := hlow
      refine ⟨fun hr => ?_, fun i hi => ?_⟩
      · exfalso
        have full : ∀ i, i < l.length → On listed i := by
          intro i
          induction i using Nat.strongRecOn with
          | _ i ih2 =>
            intro hi
            refine Classical.byContradiction fun hno => ?_
            have ho : l[i]? = some l[i] := List.getElem?_eq_getElem hi
            have : i ∈ Region.ready .any l.toArray listed := by
              refine mem_ready.2 ⟨?_, l[i], by rw [List.getElem?_toArray]; exact ho, fun e he hb => ?_⟩
              · have hi' : i < listed.size := by rw [h.size]; exact hi
                unfold On at hno
                simp [hi'] at hno ⊢
                exact hno
              · have hlt := g.back i _ ho e he hb
                exact ih2 e.on hlt (by omega)
            rw [hr] at this
            cases this
        exact hoff0 (full j0 (by omega))
      · obtain ⟨h1, o, ho, hall0⟩ := mem_ready.1 hi
        have ho' : l[i]? = some o := by simpa using ho
        have hilt : i < l.length := (List.getElem?_eq_some_iff.1 ho').1
        have hil : i < listed.size := by rw [h.size]; exact hilt
        have hno : ¬ On listed i := by
          unfold On
          simp [hil] at h1 ⊢
          exact h1
        have hall : ∀ e ∈ o.after, Region.binds .any e = true → On listed e.on := fun e he hb => hall0 e he hb
        have hik : i < k := by
          by_cases h2 : i < k
          · exact h2
          · exact absurd (h.maskReady ho' hall (ht i (by omega) hilt j0 (by omega))) hoff0
        have hcnt : ((listed.setIfInBounds i true).toList.filter (!·)).length = fuel := by
          rw [Array.toList_setIfInBounds]
          have := count_set listed.toList i (by
            simp [hil] at h1
            simp [hil, h1])
          omega
        refine h.step g hkl hC hE hΦ hRr ho' hno hall (hs i o ho' hik) fun a' w' h' => ih _ _ _ hcnt (fun j hx => ?_) h'
        rcases (on_set hil).1 hx with rfl | h3
        · exact hik
        · exact hoff j h3
end
section
variable {P : Program} {n : Nat} {ρ : Slots} {w : World} {Q : PostF}
theorem wpF_draw_cutG {l r : List Oper} (k0 : Nat) (ks : Nat → List Nat) (C : Nat → World → Prop) (R : Nat → World → World → Prop) (E : Array Bool → World → Prop) (Φs : List Fact) {id : Nat} (hm : P.follows .mixedOrders = true) (ds : List Tmp) (hg : goodB l n = true) (hn : tailB l k0 = true) (hk0 : Nat.ble Φs.length k0 = true) (hkl : killB l ks = true) (hds : slotsW l = ds) (hr : (l.drop k0) = r)
    (hC : ∀ n m, n < l.length → m < l.length → n ≠ m → ((masks l []).getD n 0).testBit m = false → ∀ w w', C m w → R n w w' → C m w')
    (hΦ : ∀ n i, n < l.length → i < l.length → i ∉ ks n → i ≠ n → ((masks l []).getD i 0).testBit n = false → ∀ v w w', facts Φs i v w → R n w w' → facts Φs i v w')
    (hE : ∀ n listed w w', n < l.length → listed.size = l.length → ¬ On listed n → (∀ i k, On listed i ∨ i = n → ((masks l []).getD i 0).testBit k = true → On listed k) → E listed w → R n w w' → E (listed.setIfInBounds n true) w') (hE0 : E (Array.replicate l.toArray.size false) { w with drawn := w.drawn + 1 })
    (hRr : ∀ n o w, l[n]? = some o → o.guard.isSome = true → R n w w) (h0 : ∀ n, n < l.length → C n { w with drawn := w.drawn + 1 })
    (hs : StepsFC P l k0 C R (facts Φs) ρ 0 l)
    (hlt : Nat.blt k0 l.length = true) (hQ : ∀ (ρ' : Slots) w1 listed, (∀ i, On listed i ↔ i < k0) → E listed w1 → C k0 w1 → EndF ds ρ ρ' → EndFacts l ks (facts Φs) ρ' w1 ds → opsF P l.toArray n Q r ρ' w1) : wpF P n (.region id l.toArray true) Q ρ w := by
  intro a ha
  obtain ⟨T, df⟩ := a
  have hz : T.size = n := ha.size
  subst hz
  have hk1 : k0 < l.length := Nat.le_of_ble_eq_true hlt
  have g := good_of hg
  refine wp_region_any hm (anyInvC hE (a0 := { tmps := T, defers := df }) (C := C) (R := R) (Φ := facts Φs) g hkl (tailB_iff hn) (Nat.le_of_lt hk1) hC hΦ hRr (fun i o ho hi => ?_) (fun listed a' w' hon h => ?_) _ _ _ _ (by simp) ?_ ?_)
  · have hst := StepsFC.get l 0 hs i o ho (by omega)
    rw [Nat.zero_add] at hst
    have h2 := StepsF.ok (P := P) (l := l) (C := C) (R := R) (Φ := facts Φs) (T := T) ha.get [o] i ⟨hst, trivial⟩
    exact h2.1
  · -- what the slots hold
    have hw : ∀ d k, writer l d l.length = some k → (List.range l.length).all (fun n => !(ks n).contains k) = true → facts Φs k (a'.tmps.getD d undef) w' := fun d k hk hall => by
      obtain ⟨h1, ⟨o, ho, hd'⟩, h3⟩ := writer_some _ hk
      by_cases hkL : k0 ≤ k
      · have e : facts Φs k = fun _ _ => True := by
          have := Nat.le_of_ble_eq_true hk0
          unfold facts
          rw [List.getD_eq_getElem?_getD, List.getElem?_eq_none (by omega)]
          rfl
        rw [e]
        trivial
      refine h.new d k o ho hd' ((hon k).2 (by omega)) (fun k' o' hkk ho' hd'' _ => h3 k' o' hkk (List.getElem?_eq_some_iff.1 ho').1 ho' hd'') (fun n hn hkn => ?_)
      have hnl : n < l.length := by have := hn.lt; rw [h.size] at this; exact this
      have := List.all_eq_true.1 hall n (by simpa using hnl)
      simp at this
      exact this hkn
    have hget : ∀ t, a'.tmps.getD t undef = if t ∈ ds then a'.tmps.getD t undef else ρ t := fun t => by
      by_cases hn : t ∈ ds
      · rw [if_pos hn]
      · rw [if_neg hn, ← ha.get]
        exact h.old t fun k o ho hd _ => hn (by
          rw [← hds]
          unfold slotsW
          rw [List.mem_eraseDups, List.mem_filterMap]
          exact ⟨o, List.mem_of_getElem? ho, hd⟩)
    have hcl := h.cls k0 hk1 (fun x => by have := (hon k0).1 x; omega)
    have hend : EndF ds ρ (fun t => a'.tmps.getD t undef) := ⟨fun t ht => by rw [hget t, if_neg (by simpa using ht)]⟩
    have := hQ (fun t => a'.tmps.getD t undef) w' listed hon h.ecl hcl hend (endFacts_of hw ds)
    rw [hr]
    exact this a' ⟨h.tmps, h.defers.trans ha.defers, fun t => rfl⟩
  · intro i h
    unfold On at h
    rw [Array.getD_eq_getD_getElem?, Array.getElem?_replicate] at h
    split at h <;> simp at h
  · have hno : ∀ i, ¬ On (Array.replicate l.toArray.size false) i := fun i h => by
      unfold On at h
      rw [Array.getD_eq_getD_getElem?, Array.getElem?_replicate] at h
      split at h <;> simp at h
    exact ⟨Array.size_replicate, fun i o _ h => absurd h (hno i), rfl, rfl, fun n hn _ => h0 n hn, hE0, fun t _ => rfl, fun t k o _ _ h => absurd h (hno k)⟩
theorem wpF_draw_cut {l r : List Oper} (k0 : Nat) (Φs : List Fact) {id : Nat} (hm : P.follows .mixedOrders = true) (ds : List Tmp) (hg : goodB l n = true) (hn : tailB l k0 = true) (hk0 : Nat.ble Φs.length k0 = true) (hds : slotsW l = ds) (hr : (l.drop k0) = r) (hlt : Nat.blt k0 l.length = true) (hst : AllStab Ext Φs)
    (hs : StepsFC P l k0 (fun _ => Ext w) (fun _ => Ext) (facts Φs) ρ 0 l)
    (hQ : ∀ (ρ' : Slots) w1, Ext w w1 → EndF ds ρ ρ' → EndFacts l (fun _ => []) (facts Φs) ρ' w1 ds → opsF P l.toArray n Q r ρ' w1) : wpF P n (.region id l.toArray true) Q ρ w :=
  wpF_draw_cutG k0 (fun _ => []) (fun _ => Ext w) (fun _ => Ext) (fun _ _ => True) Φs hm ds hg hn hk0 (by unfold killB; simp) hds hr (fun _ _ _ _ _ _ _ _ hc hr => hc.trans hr) (fun _ i _ _ _ _ _ v w1 w' => hst.get Φs i v w1 w') (fun _ _ _ _ _ _ _ _ _ _ => trivial) trivial (fun _ _ w1 _ _ => Ext.refl w1) (fun _ _ => (Below.refl _ _).drew) hs hlt (fun ρ' w1 _ _ _ => hQ ρ' w1)
end
open Go.RowKit
section
variable {P : Program} {K : Value → World → Prop} {ρ : Slots} {w : World} {d : Option Tmp} {ty : TypeId} {pos : String} {af : Array Edge} {gd : Option (Nat × Bool)}
variable {α β : Type} {ek : α → Value} {ev : β → Value} {D : α → Prop} {b : Nat} {G : α → Option β}
variable {t Kt E : TypeId} {OK : Value → Prop}
theorem Yk.insM [DecidableEq α] (L : KL P Kt OK) (hD : ∀ a, D a → OK (ek a)) (ht : P.underlying t = some (.map Kt E)) {x y z : Operand} {a : α} {c : β}
    (hm : evalR ρ x = .map (some b)) (hy : evalR ρ y = ek a) (hz : evalR ρ z = ev c) (h : MapF ek ev D w b G) (ha : D a) (hk : ∀ w', MapF ek ev D w' b (updM G a (some c)) → w.grownBy w' (some b) → w'.heap.size = w.heap.size → K undef w') :
    Yk P K ((execOp (evalR ρ) ⟨d, .insert t x y z, ty, pos, af, gd⟩).run P w) := by
  obtain ⟨w', hrun, h1, h2, h3⟩ := h.put L hD ht ha c
  have hr : (execOp (evalR ρ) ⟨d, .insert t x y z, ty, pos, af, gd⟩).run P w = .ok .skip w' ∨ (execOp (evalR ρ) ⟨d, .insert t x y z, ty, pos, af, gd⟩).run P w = .ok (.value undef) w' := by
    unfold execOp
    simp only [hm, hy, hz, Sem.run_bind, hrun, Result.andThen_ok, Sem.run_pure]
    simp
  rcases hr with hr | hr <;> rw [hr] <;> exact hk w' h1 h2 h3
theorem Yk.build3 {t : TypeId} {i0 i1 i2 : Nat} {x0 x1 x2 : Operand} {v0 v1 v2 v : Value} (h0 : evalR ρ x0 = v0) (h1 : evalR ρ x1 = v1) (h2 : evalR ρ x2 = v2) (hr : ∀ w : World, (Instr.build t #[(i0, v0), (i1, v1), (i2, v2)]).run P w = .ok v w) (hk : K v w) : Yk P K ((execOp (evalR ρ) ⟨d, .build t #[(i0, x0), (i1, x1), (i2, x2)], ty, pos, af, gd⟩).run P w) :=
  Yk.build (by simp [h0, h1, h2]) hr hk
end
theorem u8Law : KL Tryd.prog 5 (MapKept.IsKey (.int .u8)) := KL.ofKey (by kernel_rfl)
theorem u8_ok : ∀ n : UInt8, True → MapKept.IsKey (.int .u8) (B8 n) := fun n _ => by first | exact ⟨_, rfl⟩ | simp [MapKept.IsKey]
theorem b8_inj {a b : UInt8} (h : B8 a = B8 b) : a = b := by
  injection h with _ h
  exact UInt8.toNat_inj.1 (Int.ofNat.inj h)
open Go.RowKit
def nE (l : List Nmd) (i : Nat) : Bool := ((!nameB (l.getD i dNmd).name) || zeroB (l.getD i dNmd).id) || (decide (0 < i) && (!Op.bytesLess (l.getD (i - 1) dNmd).name (l.getD i dNmd).name))
open Classical in
noncomputable def nlistB (l : List Nmd) : Bool := decide ((∀ j, j < l.length → nE l j = false) ∧ l.length ≤ 64)
theorem nlistB_all {l : List Nmd} {i : Nat} (hi : l.length ≤ i) (h : ∀ j, j < i → nE l j = false) : nlistB l = decide (l.length ≤ 64) := by
  classical
  unfold nlistB
  by_cases h2 : l.length ≤ 64
  · rw [decide_eq_true h2, decide_eq_true ⟨fun j hj => h j (by omega), h2⟩]
  · rw [decide_eq_false h2, decide_eq_false (fun k => h2 k.2)]
theorem nlistB_bad {l : List Nmd} {i : Nat} (hi : i < l.length) (h : nE l i = true) : nlistB l = false := by
  classical
  exact decide_eq_false (fun k => by have := k.1 i hi; rw [h] at this; cases this)
theorem to_step {p : Nat → Bool} {i : Nat} (h : ∀ j, j < i → p j = false) (h1 : p i = false) : ∀ j, j < i + 1 → p j = false := fun j hj => by
  by_cases e : j < i
  · exact h j e
  · obtain rfl : j = i := by omega
    exact h1
def kindB (k : UInt8) : Bool := (decide (k.toNat = 1) || decide (k.toNat = 2)) || decide (k.toNat = 3)
def entE (l : List Ent) (i : Nat) : Bool := ((!kindB (l.getD i dEntry).kind) || (!noteB (l.getD i dEntry).note)) || decide (32 < (l.getD i dEntry).name.length)
noncomputable def rE1 (r : Refs) : Bool := ((!nlistB r.branches) || (!nlistB r.tags)) || decide (64 < r.log.length)
noncomputable def rE2 (r : Refs) : Bool := (decide (r.head ≠ []) && ((!nameB r.head) || (!zeroB r.at_))) || (decide (r.head = []) && zeroB r.at_)
open Classical in
noncomputable def rightF (r : Refs) : Bool := (!rE1 r) && ((!rE2 r) && decide (∀ j, j < r.log.length → entE r.log j = false))
theorem rightF_1 {r : Refs} (h : rE1 r = true) : rightF r = false := by unfold rightF; rw [h]; rfl
theorem rightF_2 {r : Refs} (h1 : rE1 r = false) (h : rE2 r = true) : rightF r = false := by unfold rightF; rw [h1, h]; rfl
theorem rightF_bad {r : Refs} {i : Nat} (h1 : rE1 r = false) (h2 : rE2 r = false) (hi : i < r.log.length) (h : entE r.log i = true) : rightF r = false := by
  classical
  unfold rightF; rw [h1, h2, decide_eq_false (fun k => by have := k i hi; rw [h] at this; cases this)]; rfl
theorem rightF_all {r : Refs} {i : Nat} (h1 : rE1 r = false) (h2 : rE2 r = false) (hi : r.log.length ≤ i) (h : ∀ j, j < i → entE r.log j = false) : rightF r = true := by
  classical
  unfold rightF; rw [h1, h2, decide_eq_true (fun j hj => h j (by omega))]; rfl
structure RefsAt (w : World) (x : RefsV) : Prop where
  branches : RG 33 nmdC w x.2.branches x.1.branches
  tags : RG 33 nmdC w x.2.tags x.1.tags
  log : RG 67 entC w x.2.log x.1.log
theorem RefsAt.keep {w w' : World} {x : RefsV} (h : RefsAt w x) (k : Ext w w') : RefsAt w' x := ⟨h.branches.keep k, h.tags.keep k, h.log.keep k⟩
structure RefsLt (r : Refs) : Prop where
  branches : r.branches.length < 9223372036854775807
  tags : r.tags.length < 9223372036854775807
  log : r.log.length < 9223372036854775807
  bn : ∀ u ∈ r.branches, u.name.length ≤ 9223372036854775807
  tn : ∀ u ∈ r.tags, u.name.length ≤ 9223372036854775807
  head : r.head.length ≤ 9223372036854775807
open Go.RowKit
set_option maxRecDepth 100000
theorem wr21_ty25 : Tryd.prog.underlying 25 = some (.array 32 5) := by kernel_rfl
theorem wr21_eg25 : Tryd.prog.eqGuardType Tryd.prog.depth 25 = false := by kernel_rfl
theorem wr21_ty5 : Tryd.prog.underlying 5 = some (.int .u8) := by kernel_rfl
theorem wr21_sz5 : ∀ w' : World, (sizeOf 5).run Tryd.prog w' = .ok 1 w' := fun _ => by kernel_rfl
theorem wr21_ty51 : Tryd.prog.underlying 51 = some (.slice 70) := by kernel_rfl
theorem wr21_szg70 : ∀ w' : World, (sizeOf 70).run Tryd.prog w' = .ok 33 w' := fun _ => by kernel_rfl
theorem wr21_ty70 : ∃ fs, Tryd.prog.underlying 70 = some (.struct fs) := struct_of (by kernel_rfl)
theorem wr21_isz70 : (Tryd.prog.info? 70).map (·.size) = some 33 := by kernel_rfl
theorem wr21_al70 {d : Option Tmp} {ty : TypeId} {pos : String} {af : Array Edge} {gd : Option (Nat × Bool)} (σ : Operand → Value) (w : World) : (execOp σ ⟨d, .alloc 70, ty, pos, af, gd⟩).run Tryd.prog w = .ok (.value (PQ w.heap.size 0)) (w.alloc (.cells (nmdC (⟨[], zid⟩ : Nmd)).toArray 70)) := by kernel_rfl
theorem wr21_fo70_0 : FieldOff Tryd.prog 70 0 0 := fun b o w => by simp [go_sem]
theorem wr21_ty9 : Tryd.prog.underlying 9 = some (.string) := by kernel_rfl
theorem wr21_pl59 : Plain Tryd.prog 59 := fun _ _ => by kernel_rfl
theorem wr21_fo70_1 : FieldOff Tryd.prog 70 1 1 := fun b o w => by simp [go_sem]
theorem wr21_pl83 : Plain Tryd.prog 83 := fun _ _ => by kernel_rfl
theorem wr21_fo53_0 : FieldOff Tryd.prog 53 0 0 := fun b o w => by simp [go_sem]
theorem wr21_pl82 : Plain Tryd.prog 82 := fun _ _ => by kernel_rfl
theorem wr21_fo53_1 : FieldOff Tryd.prog 53 1 1 := fun b o w => by simp [go_sem]
theorem wr21_fo53_4 : FieldOff Tryd.prog 53 4 35 := fun b o w => by simp [go_sem]
theorem wr21_ty47 : Tryd.prog.underlying 47 = some (.slice 122) := by kernel_rfl
theorem wr21_fo53_2 : FieldOff Tryd.prog 53 2 2 := fun b o w => by simp [go_sem]
theorem wr21_fo53_3 : FieldOff Tryd.prog 53 3 3 := fun b o w => by simp [go_sem]
theorem wr21_szg122 : ∀ w' : World, (sizeOf 122).run Tryd.prog w' = .ok 67 w' := fun _ => by kernel_rfl
theorem wr21_ty122 : ∃ fs, Tryd.prog.underlying 122 = some (.struct fs) := struct_of (by kernel_rfl)
theorem wr21_isz122 : (Tryd.prog.info? 122).map (·.size) = some 67 := by kernel_rfl
theorem wr21_al122 {d : Option Tmp} {ty : TypeId} {pos : String} {af : Array Edge} {gd : Option (Nat × Bool)} (σ : Operand → Value) (w : World) : (execOp σ ⟨d, .alloc 122, ty, pos, af, gd⟩).run Tryd.prog w = .ok (.value (PQ w.heap.size 0)) (w.alloc (.cells (entC (⟨0, [], zid, zid, []⟩ : Ent)).toArray 122)) := by kernel_rfl
theorem wr21_fo122_0 : FieldOff Tryd.prog 122 0 0 := fun b o w => by simp [go_sem]
theorem wr21_fo67_0 : FieldOff Tryd.prog 67 0 0 := fun b o w => by simp [go_sem]
theorem wr21_pl84 : Plain Tryd.prog 84 := fun _ _ => by kernel_rfl
theorem wr21_fo122_1 : FieldOff Tryd.prog 122 1 66 := fun b o w => by simp [go_sem]
theorem wr21_pl73 : Plain Tryd.prog 73 := fun _ _ => by kernel_rfl
theorem wr21_fo67_1 : FieldOff Tryd.prog 67 1 1 := fun b o w => by simp [go_sem]
set_option maxHeartbeats 1600000
theorem fzero_any (w : World) (u : Id32) :
  Calls Tryd.prog 83 #[AB u.1] w fun e w' => e = .returned (.bool (zeroB u)) ∧ Ext w w' := by
 refine calls_of_wpF (args := [AB u.1]) Tryd.func83 rfl 6 rfl (Nat.le_of_ble_eq_true rfl) ?_
 intro ρ0 hb
 have T0 : ρ0 0 = (AB u.1 : Value) := hb.get 0
 clear hb
 have hE := Ext.refl w
 refine sk fun K1 hK1 => (wt (oS rfl (Yk.box (cs := (Lib.byteCells u.1 : List Value).toArray) T0 fun n2 w3 hn4 hb5 hx6 hs7 => ?_)))
 have hE := hE.trans hx6
 have hb8 := hb5; clear hb5
 have hl9 : n2 < w3.heap.size := by omega
 refine oA rfl (oZ (tN (hK1 _ _ (sk fun K10 hK10 => (wt (oS rfl (Yk.loadAll (vr (PQ n2 0) rfl) hb8 wr21_ty25 rfl (by exact sizeId_of u.2) (oS rfl (Yk.run (v := AB (List.replicate 32 0)) (by kernel_rfl) (oS rfl (Yk.eqArr (l1 := u.1) (l2 := (List.replicate 32 0)) wr21_ty25 wr21_ty5 wr21_sz5 wr21_eg25 (vr (AB u.1) rfl) (vr (AB (List.replicate 32 0)) rfl) (u.2) (List.length_replicate) (oA rfl (oZ (tN (hK10 _ _ (wpF_ret (postF_ret (fn := Tryd.f83) _ rfl [.bool (decide (u.1 = (List.replicate 32 0)))] (.bool (decide (u.1 = (List.replicate 32 0)))) rfl ⟨rfl, trivial⟩ ?_)))))))))))))))))
 exact ⟨rfl, hE⟩

theorem fkind_any (w : World) (k : UInt8) :
  Calls Tryd.prog 84 #[B8 k] w fun e w' => e = .returned (.bool (kindB k)) ∧ Ext w w' := by
 refine calls_of_wpF (args := [B8 (k)]) Tryd.func84 rfl 13 rfl (Nat.le_of_ble_eq_true rfl) ?_
 intro ρ0 hb
 have T0 : ρ0 0 = (B8 (k) : Value) := hb.get 0
 clear hb
 have hE := Ext.refl w
 refine sk fun K1 hK1 => (wt (oA rfl (oZ (tN (hK1 _ _ (sk fun K2 hK2 => (wt (oM rfl (oS rfl (Yk.eqI (a := ((k).toNat : Nat)) (b := (1 : Nat)) T0 rfl (k_eql _ _ _ _) (oM rfl (opsF_mayV (B8 (k)) rfl rfl (gF (vr (.bool (decide (((k).toNat : Nat) = (1)))) rfl)) (fun hG3 => Yk.move T0 ⟨rfl, rfl⟩) (opsF_mayV (.bool (decide (((k).toNat : Nat) = (2)))) rfl rfl (gF (vr (.bool (decide (((k).toNat : Nat) = (1)))) rfl)) (fun hG4 => Yk.eqI (a := (((k).toNat : Nat) : Int)) (b := ((2 : Nat) : Int)) (mayT (vr (cond (!(decide (((k).toNat : Nat) = (1)))) (B8 (k)) undef) rfl) hG4) (vr (B8 (2)) rfl) (k_eql _ .u8 ((k).toNat) (2)) ⟨rfl, rfl⟩) (oS rfl (Yk.pickOrN (vr (.bool (decide (((k).toNat : Nat) = (1)))) rfl) (vr (.bool (true)) rfl) (fun hA => (mayT (vr (cond (!(decide (((k).toNat : Nat) = (1)))) (.bool (decide (((k).toNat : Nat) = (2)))) undef) rfl) (not_i hA))) fun bb5 hbb6 => (oM rfl (opsF_mayV (B8 (k)) rfl rfl (gF (vr (.bool (bb5)) rfl)) (fun hG7 => Yk.move T0 ⟨rfl, rfl⟩) (opsF_mayV (.bool (decide (((k).toNat : Nat) = (3)))) rfl rfl (gF (vr (.bool (bb5)) rfl)) (fun hG8 => Yk.eqI (a := (((k).toNat : Nat) : Int)) (b := ((3 : Nat) : Int)) (mayT (vr (cond (!bb5) (B8 (k)) undef) rfl) hG8) (vr (B8 (3)) rfl) (k_eql _ .u8 ((k).toNat) (3)) ⟨rfl, rfl⟩) ?_))))))))))))))))))
 refine oS rfl (Yk.pickOrN (vr (.bool (bb5)) rfl) (vr (.bool (true)) rfl) (fun hA => (mayT (vr (cond (!bb5) (.bool (decide (((k).toNat : Nat) = (3)))) undef) rfl) (not_i hA))) fun bb9 hbb10 => (oA rfl (oZ (tN (hK2 _ _ (wpF_ret (postF_ret (fn := Tryd.f84) _ rfl [.bool (bb9)] (.bool (bb9)) rfl ⟨rfl, trivial⟩ ?_)))))))
 subst hbb6 hbb10
 exact ⟨rfl, hE⟩

theorem flist_any (w : World) (v : Value) (l : List Nmd) (hr : RG 33 nmdC w v l) (hll : l.length < 9223372036854775807) (hln : ∀ u ∈ l, u.name.length ≤ 9223372036854775807) :
  Calls Tryd.prog 82 #[v] w fun e w' => e = .returned (.bool (nlistB l)) ∧ Ext w w' := by
 refine calls_of_wpF (args := [v]) Tryd.func82 rfl 40 rfl (Nat.le_of_ble_eq_true rfl) ?_
 intro ρ0 hb
 have T0 : ρ0 0 = (v : Value) := hb.get 0
 clear hb
 have hE := Ext.refl w
 refine sk fun K1 hK1 => (wt (oA rfl (oZ (tN (hK1 _ _ (sk fun K2 hK2 => (sk fun K3 hK3 => (wt (oM rfl (oS rfl (Yk.lenRG wr21_ty51 (RG.of hr T0) (oM rfl (oL_ [(0, v), (2, .bool (false)), (5, v), (6, NI l.length), (7, NI 0)] ⟨T0, rfl, T0, rfl, rfl, trivial⟩ fun ρ4 ⟨T0, T2, T5, T6, T7, _⟩ => (tN (hK3 _ _ (wpF_block (wpF_loop (fun (ρ : Slots) (wz : World) => ∃ i : Nat, ρ 0 = (v : Value) ∧ ρ 5 = (v : Value) ∧ ρ 6 = (NI l.length : Value) ∧ ρ 7 = (NI i : Value) ∧ RG 33 nmdC wz v l ∧ Ext w wz ∧ (i ≤ l.length) ∧ (∀ j, j < i → nE l j = false) ∧ True) (fun ρ _ => l.length - (intOf (ρ 7)).toNat) ⟨0, T0, T5, T6, T7, hr, hE, Nat.zero_le _, fun j hj => absurd hj (Nat.not_lt_zero _), trivial⟩ ?_)))))))))))))))))
 clear hr hE
 rintro ρ5 w6 ⟨i, T0, T5, T6, T7, hr, hE, hi, hn, -⟩
 have q7 := T7
 refine sk fun K7 hK7 => (wt (oS rfl (Yk.eqI (a := (i : Nat)) (b := (l.length : Nat)) T7 T6 (k_lss _ _ _ _) (oZ (tN (hK7 _ _ (sk fun K8 hK8 => ?_)))))))
 refine wpF_cond ((i) < (l.length)) (vr (.bool (decide ((i) < (l.length)))) rfl) (fun hc0 => ?_) (fun hc0 => ?_)
 ·have hlt : i < l.length := hc0
  have hnm := hln _ (getD_mem dNmd hlt)
  refine wpF_skip (tN (hK8 _ _ (sk fun K9 hK9 => (wpF_block (sk fun K10 hK10 => (wt (oM rfl ?_)))))))
  have hl13 : (nmdC (l.getD (i) dNmd)).length = 33 := (RG.elem hr dNmd (by omega))
  refine oS rfl (Yk.atRG wr21_ty51 wr21_szg70 (by decide) dNmd (RG.of hr T5) T7 (by omega) fun v11 hp12 => (oS rfl (Yk.loadPR (PR.of hp12 (vr v11 rfl)) (wr21_ty70).choose_spec rfl (by rw [nmd_len]; exact wr21_isz70) (oS rfl (Yk.alloc (cs := (nmdC (⟨[], zid⟩ : Nmd)).toArray) wr21_al70 fun n14 w15 hn16 hb17 hx18 hs19 => ?_)))))
  have hA20 := Ext.refl w6
  have hea21 := hE
  have hz22 := hE.size
  have hE := hE.trans hx18
  have hA20 := hA20.trans hx18
  have hb23 := hb17; clear hb17
  have hl24 : n14 < w15.heap.size := by omega
  refine oA rfl (oS rfl (Yk.storeAll (vr (PQ n14 0) rfl) (vr (.agg (nmdC (l.getD (i) dNmd)).toArray) rfl) hb23 (by simp only [List.size_toArray, nmd_len]) (st_isz (nmd_len _) wr21_isz70) (nmd_one (x := (l.getD (i) dNmd))) fun w25 hb26 hg27 hs28 => ?_))
  have hE := row_fresh hE hg27 (Nat.le_trans hz22 (by omega))
  have hA20 := row_fresh hA20 hg27 (Nat.le_trans (Nat.le_refl _) (by omega))
  clear hb23
  have hb23 : w25.heap[n14]? = some (.cells (nmdC (l.getD (i) dNmd)).toArray 70 (0, 0)) := hb26; clear hb26
  have hl29 := bl hb23
  refine oZ ?_
  clear hp12
  refine tN (hK10 _ _ (sk fun K30 hK30 => ?_))
  refine wpF_draw [Is (PQ n14 0), Is (St (((l.getD (i) dNmd)).name)), Is (.bool (nameB (((l.getD (i) dNmd)).name))), Is (.bool (!(nameB (((l.getD (i) dNmd)).name)))), Is (.bool (!(nameB (((l.getD (i) dNmd)).name)))), Is (cond (!(!(nameB (((l.getD (i) dNmd)).name)))) (PQ n14 1) undef), Is (cond (!(!(nameB (((l.getD (i) dNmd)).name)))) (AB (((l.getD (i) dNmd)).id.1)) undef), Is (cond (!(!(nameB (((l.getD (i) dNmd)).name)))) (.bool (zeroB (((l.getD (i) dNmd)).id))) undef), Is (.bool ((!(nameB (((l.getD (i) dNmd)).name))) || (zeroB (((l.getD (i) dNmd)).id)))), Is (.bool ((!(nameB (((l.getD (i) dNmd)).name))) || (zeroB (((l.getD (i) dNmd)).id)))), Is (cond (!((!(nameB (((l.getD (i) dNmd)).name))) || (zeroB (((l.getD (i) dNmd)).id)))) (NI i) undef), Is (cond (!((!(nameB (((l.getD (i) dNmd)).name))) || (zeroB (((l.getD (i) dNmd)).id)))) (.bool (decide ((0) < (i)))) undef), Is (cond (!((!(nameB (((l.getD (i) dNmd)).name))) || (zeroB (((l.getD (i) dNmd)).id)))) (.bool (decide ((0) < (i)))) undef), Is (cond ((!((!(nameB (((l.getD (i) dNmd)).name))) || (zeroB (((l.getD (i) dNmd)).id)))) && (decide ((0) < (i)))) (v) undef), Is (cond ((!((!(nameB (((l.getD (i) dNmd)).name))) || (zeroB (((l.getD (i) dNmd)).id)))) && (decide ((0) < (i)))) (NI i) undef), Is (cond ((!((!(nameB (((l.getD (i) dNmd)).name))) || (zeroB (((l.getD (i) dNmd)).id)))) && (decide ((0) < (i)))) (NI ((i) - (1))) undef), fun x w' => ((!((!(nameB (((l.getD (i) dNmd)).name))) || (zeroB (((l.getD (i) dNmd)).id)))) && (decide ((0) < (i)))) = true → (fun x w' => PR (nmdC (l.getD ((i) - (1)) dNmd)) x w') x w', fun x w' => ((!((!(nameB (((l.getD (i) dNmd)).name))) || (zeroB (((l.getD (i) dNmd)).id)))) && (decide ((0) < (i)))) = true → (PCell (St ((l.getD ((i) - (1)) dNmd).name))) x w', Is (cond ((!((!(nameB (((l.getD (i) dNmd)).name))) || (zeroB (((l.getD (i) dNmd)).id)))) && (decide ((0) < (i)))) (St ((l.getD ((i) - (1)) dNmd).name)) undef), Is (cond ((!((!(nameB (((l.getD (i) dNmd)).name))) || (zeroB (((l.getD (i) dNmd)).id)))) && (decide ((0) < (i)))) (PQ n14 0) undef), Is (cond ((!((!(nameB (((l.getD (i) dNmd)).name))) || (zeroB (((l.getD (i) dNmd)).id)))) && (decide ((0) < (i)))) (St (((l.getD (i) dNmd)).name)) undef), Is (cond ((!((!(nameB (((l.getD (i) dNmd)).name))) || (zeroB (((l.getD (i) dNmd)).id)))) && (decide ((0) < (i)))) (.bool (!(Op.bytesLess ((l.getD ((i) - (1)) dNmd).name) (((l.getD (i) dNmd)).name)))) undef), Is (cond (!((!(nameB (((l.getD (i) dNmd)).name))) || (zeroB (((l.getD (i) dNmd)).id)))) (.bool ((decide ((0) < (i))) && (!(Op.bytesLess ((l.getD ((i) - (1)) dNmd).name) (((l.getD (i) dNmd)).name))))) undef), Is (.bool (((!(nameB (((l.getD (i) dNmd)).name))) || (zeroB (((l.getD (i) dNmd)).id))) || ((decide ((0) < (i))) && (!(Op.bytesLess ((l.getD ((i) - (1)) dNmd).name) (((l.getD (i) dNmd)).name))))))] (by kernel_rfl) [12, 13, 14, 15, 16, 17, 18, 19, 20, 21, 22, 23, 24, 25, 26, 27, 28, 29, 30, 31, 32, 33, 34, 35] (by kernel_rfl) (by kernel_rfl) (si4 (si12 ⟨(Stab.may ((fun _ _ _ h k => PR.keep h k))), (Stab.may (Stab.pcell _)), (si6 trivial)⟩)) ?hs1004 ?hQ1004
  case hs1004 =>
   refine ⟨?_, ?_, ?_, ?_, ?_, ?_, ?_, ?_, ?_, ?_, ?_, ?_, ?_, ?_, ?_, ?_, ?_, ?_, ?_, ?_, ?_, ?_, ?_, ?_, trivial⟩
   ·refine stepN rfl fun σ w1 hC h => ?_
    have e4 : σ 4 = PQ n14 0 := (eqo (h 4 (by decide))).trans rfl
    exact Yk.fieldAt wr21_fo70_0 e4 ⟨Ext.refl _, rfl⟩
   ·refine stepN rfl fun σ w1 hC h => ?_
    have e12 := eqo (h 12 (by decide))
    exact Yk.cell1 wr21_ty9 rfl e12 (cellAt (eb hC hb23) (show (nmdC (l.getD (i) dNmd))[0]? = some (St (((l.getD (i) dNmd)).name) : Value) from nmd_g0 (l.getD (i) dNmd))) ⟨Ext.refl _, rfl⟩
   ·refine stepN rfl fun σ w1 hC h => ?_
    have e13 := eqo (h 13 (by decide))
    refine Yk.callA1 wr21_pl59 e13 ((name_any _ (((l.getD (i) dNmd)).name) (by have := hnm; omega)).mono ?_)
    rintro e w2 ⟨rfl, hx⟩
    exact ⟨_, rfl, hx, rfl⟩
   ·refine stepN rfl fun σ w1 hC h => ?_
    have e14 := eqo (h 14 (by decide))
    exact Yk.notB e14 ⟨Ext.refl _, rfl⟩
   ·refine stepN rfl fun σ w1 hC h => ?_
    have e15 := eqo (h 15 (by decide))
    exact Yk.move e15 ⟨Ext.refl _, rfl⟩
   ·refine stepM 4 false 16 (G := !(!(nameB (((l.getD (i) dNmd)).name)))) rfl rfl (fun x _ (h : x = .bool (!(nameB (((l.getD (i) dNmd)).name)))) => gF h) (fun hu_ _ => mayU hu_) fun hG σ w1 hC h => ?_
    have e4 : σ 4 = PQ n14 0 := (eqo (h 4 (by decide))).trans rfl
    exact Yk.fieldAt wr21_fo70_1 e4 ⟨Ext.refl _, mayI hG⟩
   ·refine stepM 4 false 16 (G := !(!(nameB (((l.getD (i) dNmd)).name)))) rfl rfl (fun x _ (h : x = .bool (!(nameB (((l.getD (i) dNmd)).name)))) => gF h) (fun hu_ _ => mayU hu_) fun hG σ w1 hC h => ?_
    have e17 := eqo (h 17 (by decide))
    exact Yk.loadPR (PR.blk (eb hC hb23) (nmd_m1 (l.getD (i) dNmd)) (nmd_n1 (l.getD (i) dNmd)) (mayT e17 hG)) wr21_ty25 rfl (sizeId_of ((l.getD (i) dNmd)).id.2) ⟨Ext.refl _, mayI hG⟩
   ·refine stepM 4 false 16 (G := !(!(nameB (((l.getD (i) dNmd)).name)))) rfl rfl (fun x _ (h : x = .bool (!(nameB (((l.getD (i) dNmd)).name)))) => gF h) (fun hu_ _ => mayU hu_) fun hG σ w1 hC h => ?_
    have e18 := eqo (h 18 (by decide))
    refine Yk.callA1 wr21_pl83 (mayT e18 hG) ((fzero_any _ (((l.getD (i) dNmd)).id)).mono ?_)
    rintro e w2 ⟨rfl, hx⟩
    exact ⟨_, rfl, hx, mayI hG⟩
   ·refine stepN rfl fun σ w1 hC h => ?_
    have e16 := eqo (h 16 (by decide))
    have e19 := eqo (h 19 (by decide))
    exact Yk.pickOr e16 (vr (.bool (true)) rfl) (fun hA => (mayT e19 (not_i hA))) ⟨Ext.refl _, rfl⟩
   ·refine stepN rfl fun σ w1 hC h => ?_
    have e20 := eqo (h 20 (by decide))
    exact Yk.move e20 ⟨Ext.refl _, rfl⟩
   ·refine stepM 9 false 21 (G := !((!(nameB (((l.getD (i) dNmd)).name))) || (zeroB (((l.getD (i) dNmd)).id)))) rfl rfl (fun x _ (h : x = .bool ((!(nameB (((l.getD (i) dNmd)).name))) || (zeroB (((l.getD (i) dNmd)).id)))) => gF h) (fun hu_ _ => mayU hu_) fun hG σ w1 hC h => ?_
    have e3 := (eqo (h 3 (by decide))).trans T7
    exact Yk.move e3 ⟨Ext.refl _, mayI hG⟩
   ·refine stepM 9 false 21 (G := !((!(nameB (((l.getD (i) dNmd)).name))) || (zeroB (((l.getD (i) dNmd)).id)))) rfl rfl (fun x _ (h : x = .bool ((!(nameB (((l.getD (i) dNmd)).name))) || (zeroB (((l.getD (i) dNmd)).id)))) => gF h) (fun hu_ _ => mayU hu_) fun hG σ w1 hC h => ?_
    have e22 := eqo (h 22 (by decide))
    exact Yk.eqI (a := ((i : Nat) : Int)) (b := ((0 : Nat) : Int)) (mayT e22 hG) (vr (NI 0) rfl) (k_gtr _ .i64 (i) (0)) ⟨Ext.refl _, mayI hG⟩
   ·refine stepM 9 false 21 (G := !((!(nameB (((l.getD (i) dNmd)).name))) || (zeroB (((l.getD (i) dNmd)).id)))) rfl rfl (fun x _ (h : x = .bool ((!(nameB (((l.getD (i) dNmd)).name))) || (zeroB (((l.getD (i) dNmd)).id)))) => gF h) (fun hu_ _ => mayU hu_) fun hG σ w1 hC h => ?_
    have e23 := eqo (h 23 (by decide))
    exact Yk.move (mayT e23 hG) ⟨Ext.refl _, mayI hG⟩
   ·refine stepM 12 true 24 (G := (!((!(nameB (((l.getD (i) dNmd)).name))) || (zeroB (((l.getD (i) dNmd)).id)))) && (decide ((0) < (i)))) rfl rfl (fun x _ (h : x = cond (!((!(nameB (((l.getD (i) dNmd)).name))) || (zeroB (((l.getD (i) dNmd)).id)))) (.bool (decide ((0) < (i)))) undef) => geT h) (fun hu_ _ => mayU hu_) fun hG σ w1 hC h => ?_
    have e0 := (eqo (h 0 (by decide))).trans T0
    exact Yk.move e0 ⟨Ext.refl _, mayI hG⟩
   ·refine stepM 12 true 24 (G := (!((!(nameB (((l.getD (i) dNmd)).name))) || (zeroB (((l.getD (i) dNmd)).id)))) && (decide ((0) < (i)))) rfl rfl (fun x _ (h : x = cond (!((!(nameB (((l.getD (i) dNmd)).name))) || (zeroB (((l.getD (i) dNmd)).id)))) (.bool (decide ((0) < (i)))) undef) => geT h) (fun hu_ _ => mayU hu_) fun hG σ w1 hC h => ?_
    have e3 := (eqo (h 3 (by decide))).trans T7
    exact Yk.move e3 ⟨Ext.refl _, mayI hG⟩
   ·refine stepM 12 true 24 (G := (!((!(nameB (((l.getD (i) dNmd)).name))) || (zeroB (((l.getD (i) dNmd)).id)))) && (decide ((0) < (i)))) rfl rfl (fun x _ (h : x = cond (!((!(nameB (((l.getD (i) dNmd)).name))) || (zeroB (((l.getD (i) dNmd)).id)))) (.bool (decide ((0) < (i)))) undef) => geT h) (fun hu_ _ => mayU hu_) fun hG σ w1 hC h => ?_
    have e26 := eqo (h 26 (by decide))
    exact Yk.bin (xv := NI i) (yv := NI 1) (mayT e26 hG) (vr (NI 1) rfl) rfl (i64_sub _ (i) (1) (by simp only [gA, gB, gC, gD, gE] at hG; omega) (by simp only [gA, gB, gC, gD, gE] at hG; omega)) ⟨Ext.refl _, mayI hG⟩
   ·refine stepM 12 true 24 (G := (!((!(nameB (((l.getD (i) dNmd)).name))) || (zeroB (((l.getD (i) dNmd)).id)))) && (decide ((0) < (i)))) rfl rfl (fun x _ (h : x = cond (!((!(nameB (((l.getD (i) dNmd)).name))) || (zeroB (((l.getD (i) dNmd)).id)))) (.bool (decide ((0) < (i)))) undef) => geT h) (fun hu_ _ => noG hu_) fun hG σ w1 hC h => ?_
    have e25 := eqo (h 25 (by decide))
    have e27 := eqo (h 27 (by decide))
    exact Yk.atRG wr21_ty51 wr21_szg70 (by decide) dNmd (RG.of (hr.keep (hA20.trans hC)) (mayT e25 hG)) (mayT e27 hG) (by simp only [gA, gB, gC, gD, gE] at hG; omega) fun v h => ⟨Ext.refl _, fun _ => h⟩
   ·refine stepM 12 true 24 (G := (!((!(nameB (((l.getD (i) dNmd)).name))) || (zeroB (((l.getD (i) dNmd)).id)))) && (decide ((0) < (i)))) rfl rfl (fun x _ (h : x = cond (!((!(nameB (((l.getD (i) dNmd)).name))) || (zeroB (((l.getD (i) dNmd)).id)))) (.bool (decide ((0) < (i)))) undef) => geT h) (fun hu_ _ => noG hu_) fun hG σ w1 hC h => ?_
    have e28 : (fun x w' => ((!((!(nameB (((l.getD (i) dNmd)).name))) || (zeroB (((l.getD (i) dNmd)).id)))) && (decide ((0) < (i)))) = true → (fun x w' => PR (nmdC (l.getD ((i) - (1)) dNmd)) x w') x w') (σ 28) w1 := h 28 (by decide)
    exact Yk.fieldPR (n := 1) wr21_fo70_0 (e28 hG) fun v h => ⟨Ext.refl _, fun _ => PR.pcell (by rw [nmd_f0] at h; exact h)⟩
   ·refine stepM 12 true 24 (G := (!((!(nameB (((l.getD (i) dNmd)).name))) || (zeroB (((l.getD (i) dNmd)).id)))) && (decide ((0) < (i)))) rfl rfl (fun x _ (h : x = cond (!((!(nameB (((l.getD (i) dNmd)).name))) || (zeroB (((l.getD (i) dNmd)).id)))) (.bool (decide ((0) < (i)))) undef) => geT h) (fun hu_ _ => mayU hu_) fun hG σ w1 hC h => ?_
    have e29 : (fun x w' => ((!((!(nameB (((l.getD (i) dNmd)).name))) || (zeroB (((l.getD (i) dNmd)).id)))) && (decide ((0) < (i)))) = true → (PCell (St ((l.getD ((i) - (1)) dNmd).name))) x w') (σ 29) w1 := h 29 (by decide)
    exact Yk.loadC wr21_ty9 rfl (e29 hG) ⟨Ext.refl _, mayI hG⟩
   ·refine stepM 12 true 24 (G := (!((!(nameB (((l.getD (i) dNmd)).name))) || (zeroB (((l.getD (i) dNmd)).id)))) && (decide ((0) < (i)))) rfl rfl (fun x _ (h : x = cond (!((!(nameB (((l.getD (i) dNmd)).name))) || (zeroB (((l.getD (i) dNmd)).id)))) (.bool (decide ((0) < (i)))) undef) => geT h) (fun hu_ _ => mayU hu_) fun hG σ w1 hC h => ?_
    have e4 : σ 4 = PQ n14 0 := (eqo (h 4 (by decide))).trans rfl
    exact Yk.fieldAt wr21_fo70_0 e4 ⟨Ext.refl _, mayI hG⟩
   ·refine stepM 12 true 24 (G := (!((!(nameB (((l.getD (i) dNmd)).name))) || (zeroB (((l.getD (i) dNmd)).id)))) && (decide ((0) < (i)))) rfl rfl (fun x _ (h : x = cond (!((!(nameB (((l.getD (i) dNmd)).name))) || (zeroB (((l.getD (i) dNmd)).id)))) (.bool (decide ((0) < (i)))) undef) => geT h) (fun hu_ _ => mayU hu_) fun hG σ w1 hC h => ?_
    have e31 := eqo (h 31 (by decide))
    exact Yk.cell1 wr21_ty9 rfl (mayT e31 hG) (cellAt (eb hC hb23) (show (nmdC (l.getD (i) dNmd))[0]? = some (St (((l.getD (i) dNmd)).name) : Value) from nmd_g0 (l.getD (i) dNmd))) ⟨Ext.refl _, mayI hG⟩
   ·refine stepM 12 true 24 (G := (!((!(nameB (((l.getD (i) dNmd)).name))) || (zeroB (((l.getD (i) dNmd)).id)))) && (decide ((0) < (i)))) rfl rfl (fun x _ (h : x = cond (!((!(nameB (((l.getD (i) dNmd)).name))) || (zeroB (((l.getD (i) dNmd)).id)))) (.bool (decide ((0) < (i)))) undef) => geT h) (fun hu_ _ => mayU hu_) fun hG σ w1 hC h => ?_
    have e30 := eqo (h 30 (by decide))
    have e32 := eqo (h 32 (by decide))
    exact Yk.ltSt (l := (l.getD ((i) - (1)) dNmd).name) (m := ((l.getD (i) dNmd)).name) (.inr rfl) (mayT e30 hG) (mayT e32 hG) (!(Op.bytesLess ((l.getD ((i) - (1)) dNmd).name) (((l.getD (i) dNmd)).name))) rfl ⟨Ext.refl _, mayI hG⟩
   ·refine stepM 9 false 21 (G := !((!(nameB (((l.getD (i) dNmd)).name))) || (zeroB (((l.getD (i) dNmd)).id)))) rfl rfl (fun x _ (h : x = .bool ((!(nameB (((l.getD (i) dNmd)).name))) || (zeroB (((l.getD (i) dNmd)).id)))) => gF h) (fun hu_ _ => mayU hu_) fun hG σ w1 hC h => ?_
    have e24 := eqo (h 24 (by decide))
    have e33 := eqo (h 33 (by decide))
    exact Yk.pickAnd (mayT e24 hG) (fun hA => (mayT e33 (and_i hG hA))) (vr (.bool (false)) rfl) ⟨Ext.refl _, mayI hG⟩
   ·refine stepN rfl fun σ w1 hC h => ?_
    have e21 := eqo (h 21 (by decide))
    have e34 := eqo (h 34 (by decide))
    exact Yk.pickOr e21 (vr (.bool (true)) rfl) (fun hA => (mayT e34 (not_i hA))) ⟨Ext.refl _, rfl⟩
  intro ρ31 w32 hx33 he hf
  obtain ⟨-, -, -, -, -, -, -, -, -, -, -, -, -, -, -, -, -, -, -, -, -, -, -, k35, -⟩ := hf
  obtain ⟨T0, T3, T4, T5, T6, T7, -⟩ := he.hold [(0, _), (3, _), (4, PQ n14 0), (5, _), (6, _), (7, _)] ⟨T0, T7, rfl, T5, T6, T7, trivial⟩ rfl
  clear he
  have hE := hE.trans hx33
  have hA20 := hA20.trans hx33
  have hb23 := eb hx33 hb23
  have T35 : ρ31 35 = .bool (((!(nameB (((l.getD (i) dNmd)).name))) || (zeroB (((l.getD (i) dNmd)).id))) || ((decide ((0) < (i))) && (!(Op.bytesLess ((l.getD ((i) - (1)) dNmd).name) (((l.getD (i) dNmd)).name))))) := k35
  clear k35
  refine tN (hK30 _ _ ?_)
  refine wpF_condB (((!(nameB (((l.getD (i) dNmd)).name))) || (zeroB (((l.getD (i) dNmd)).id))) || ((decide ((0) < (i))) && (!(Op.bytesLess ((l.getD ((i) - (1)) dNmd).name) (((l.getD (i) dNmd)).name))))) T35 (fun hc1 => ?_) (fun hc1 => ?_)
  ·have hbad : nE l i = true := hc1
   refine sk fun K34 hK34 => (wt (oA rfl (oZ (tN (hK34 _ _ (wpF_ret (inBlockF_ret (thenF_ret (thenF_ret (inBlockF_ret (thenF_ret (postF_ret (fn := Tryd.f82) _ rfl [.bool (false)] (.bool (false)) rfl ⟨rfl, trivial⟩ ?_))))))))))))
   exact ⟨by rw [nlistB_bad hlt hbad], hE⟩
  have hbad : nE l i = false := hc1
  refine wpF_skip (bN (tN (hK9 _ _ (wt (oS rfl (Yk.bin (xv := NI i) (yv := NI 1) T7 rfl rfl (i64_add _ _ _ (by omega)) (oM rfl (oL_ [(0, v), (3, NI i), (4, PQ n14 0), (5, v), (6, NI l.length), (7, NI ((i) + (1)))] ⟨T0, T3, T4, T5, T6, rfl, trivial⟩ fun ρ35 ⟨T0, T3, T4, T5, T6, T7, _⟩ => (tN (And.intro ⟨i + 1, T0, T5, T6, T7, (hr.keep hA20), hE, by omega, to_step hn hbad, trivial⟩ ?_))))))))))
  show l.length - (intOf (ρ35 7)).toNat < l.length - (intOf (ρ5 7)).toNat
  rw [T7, q7]
  simp only [intOf, Int.toNat_natCast]; omega
 refine wpF_exit (thenF_exit (thenF_exit (inBlockF_hit (tN (hK2 _ _ (sk fun K36 hK36 => (wt (oM rfl (oS rfl (Yk.lenRG wr21_ty51 (RG.of hr T0) (oS rfl (Yk.eqI (a := (l.length : Nat)) (b := (64 : Nat)) rfl rfl (k_leq _ _ _ _) (oA rfl (oZ (tN (hK36 _ _ (wpF_ret (postF_ret (fn := Tryd.f82) _ rfl [.bool (decide ((l.length) ≤ (64)))] (.bool (decide ((l.length) ≤ (64)))) rfl ⟨rfl, trivial⟩ ?_))))))))))))))))))
 exact ⟨by rw [nlistB_all (show l.length ≤ i by omega) hn], hE⟩

theorem fright_any (w : World) (x : RefsV) (hm : RefsAt w x) (hL : RefsLt x.1) :
  Calls Tryd.prog 31 #[.agg (refsC x).toArray] w fun e w' => e = .returned (.bool (rightF x.1)) ∧ Ext w w' := by
 have hmt := hm.branches
 have hmg := hm.tags
 have hml := hm.log
 refine calls_of_wpF (args := [.agg (refsC x).toArray]) Tryd.func31 rfl 72 rfl (Nat.le_of_ble_eq_true rfl) ?_
 intro ρ0 hb
 have T0 : ρ0 0 = (.agg (refsC x).toArray : Value) := hb.get 0
 clear hb
 have hE := Ext.refl w
 refine sk fun K1 hK1 => (wt (oS rfl (Yk.box (cs := (refsC x : List Value).toArray) T0 fun n2 w3 hn4 hb5 hx6 hs7 => ?_)))
 have hE := hE.trans hx6
 have hb8 := hb5; clear hb5
 have hl9 : n2 < w3.heap.size := by omega
 refine oA rfl (oZ (tN (hK1 _ _ (sk fun K10 hK10 => (sk fun K11 hK11 => (wt (oS rfl (Yk.fieldAt wr21_fo53_0 (vr (PQ n2 0) rfl) (oS rfl (Yk.cell1 wr21_ty51 rfl (vr (PQ n2 0) rfl) (cellAt hb8 (show (refsC x)[0]? = some (x.2.branches : Value) from refs_g0 x)) (oS rfl (Yk.callA1 wr21_pl82 (vr x.2.branches rfl) ((flist_any _ _ x.1.branches (hmt.keep hE) hL.branches hL.bn).mono ?_)))))))))))))
 rintro e w13 ⟨rfl, hx12⟩
 refine ⟨_, rfl, ?_⟩
 have hE := hE.trans hx12
 have hb8 := eb hx12 hb8
 refine oS rfl (Yk.notB (vr (.bool (nlistB x.1.branches)) rfl) (oM rfl (opsF_mayV (PQ n2 1) rfl rfl (gF (vr (.bool (!(nlistB x.1.branches))) rfl)) (fun hG14 => Yk.fieldAt wr21_fo53_1 (vr (PQ n2 0) rfl) ⟨rfl, rfl⟩) (opsF_mayV (x.2.tags) rfl rfl (gF (vr (.bool (!(nlistB x.1.branches))) rfl)) (fun hG15 => Yk.cell1 wr21_ty51 rfl (mayT (vr (cond (!(!(nlistB x.1.branches))) (PQ n2 1) undef) rfl) hG15) (cellAt hb8 (show (refsC x)[1]? = some (x.2.tags : Value) from refs_g1 x)) ⟨rfl, rfl⟩) (opsF_mayC (.bool (nlistB x.1.tags)) rfl rfl (gF (vr (.bool (!(nlistB x.1.branches))) rfl)) (fun hG16 => Yk.callA1 wr21_pl82 (mayT (vr (cond (!(!(nlistB x.1.branches))) (x.2.tags) undef) rfl) hG16) ((flist_any _ _ x.1.tags (hmg.keep hE) hL.tags hL.tn).mono (by rintro e w2 ⟨rfl, hx⟩; exact ⟨_, rfl, rfl, hx⟩))) fun w18 hx19 => ?_)))))
 have hE := hE.trans hx19
 have hb8 := eb hx19 hb8
 refine opsF_mayV (.bool (!(nlistB x.1.tags))) rfl rfl (gF (vr (.bool (!(nlistB x.1.branches))) rfl)) (fun hG20 => Yk.notB (mayT (vr (cond (!(!(nlistB x.1.branches))) (.bool (nlistB x.1.tags)) undef) rfl) hG20) ⟨rfl, rfl⟩) (oS rfl (Yk.pickOrN (vr (.bool (!(nlistB x.1.branches))) rfl) (vr (.bool (true)) rfl) (fun hA => (mayT (vr (cond (!(!(nlistB x.1.branches))) (.bool (!(nlistB x.1.tags))) undef) rfl) (not_i hA))) fun bb21 hbb22 => (oM rfl (opsF_mayV (PQ n2 35) rfl rfl (gF (vr (.bool (bb21)) rfl)) (fun hG23 => Yk.fieldAt wr21_fo53_4 (vr (PQ n2 0) rfl) ⟨rfl, rfl⟩) (opsF_mayV (x.2.log) rfl rfl (gF (vr (.bool (bb21)) rfl)) (fun hG24 => Yk.cell1 wr21_ty47 rfl (mayT (vr (cond (!bb21) (PQ n2 35) undef) rfl) hG24) (cellAt hb8 (show (refsC x)[35]? = some (x.2.log : Value) from refs_g4 x)) ⟨rfl, rfl⟩) (opsF_mayV (NI ((x.1.log).length)) rfl rfl (gF (vr (.bool (bb21)) rfl)) (fun hG25 => Yk.lenRG wr21_ty47 (RG.of (hml.keep hE) (mayT (vr (cond (!bb21) (x.2.log) undef) rfl) hG25)) ⟨rfl, rfl⟩) (opsF_mayV (.bool (decide ((64) < ((x.1.log).length)))) rfl rfl (gF (vr (.bool (bb21)) rfl)) (fun hG26 => Yk.eqI (a := (((x.1.log).length : Nat) : Int)) (b := ((64 : Nat) : Int)) (mayT (vr (cond (!bb21) (NI ((x.1.log).length)) undef) rfl) hG26) (vr (NI 64) rfl) (k_gtr _ .i64 ((x.1.log).length) (64)) ⟨rfl, rfl⟩) (oS rfl (Yk.pickOrN (vr (.bool (bb21)) rfl) (vr (.bool (true)) rfl) (fun hA => (mayT (vr (cond (!bb21) (.bool (decide ((64) < ((x.1.log).length)))) undef) rfl) (not_i hA))) fun bb27 hbb28 => (oZ (tN (hK11 _ _ ?_))))))))))))
 refine wpF_condB (bb27) (vr (.bool (bb27)) rfl) (fun hc0 => ?_) (fun hc0 => ?_)
 ·subst hbb22 hbb28
  have h1c : rE1 x.1 = true := hc0
  refine sk fun K29 hK29 => (wt (oA rfl (oZ (tN (hK29 _ _ (wpF_ret (thenF_ret (postF_ret (fn := Tryd.f31) _ rfl [.bool (false)] (.bool (false)) rfl ⟨rfl, trivial⟩ ?_))))))))
  exact ⟨by rw [rightF_1 h1c], hE⟩
 subst hbb22 hbb28
 have h1c : rE1 x.1 = false := hc0
 refine wpF_skip (tN (hK10 _ _ (sk fun K30 hK30 => (sk fun K31 hK31 => (wt (oS rfl (Yk.fieldAt wr21_fo53_2 (vr (PQ n2 0) rfl) (oS rfl (Yk.cell1 wr21_ty9 rfl (vr (PQ n2 2) rfl) (cellAt hb8 (show (refsC x)[2]? = some (St (x.1.head) : Value) from refs_g2 x)) (oS rfl (Yk.eqSt (l := x.1.head) (m := ([] : List UInt8)) (.inr rfl) (vr (St (x.1.head)) rfl) (vr (St (([] : List UInt8))) rfl) (decide ((x.1.head : List UInt8) ≠ (([] : List UInt8) : List UInt8))) rfl (oM rfl (opsF_mayV (PQ n2 2) rfl rfl (gT (vr (.bool (decide ((x.1.head : List UInt8) ≠ (([] : List UInt8) : List UInt8)))) rfl)) (fun hG32 => Yk.fieldAt wr21_fo53_2 (vr (PQ n2 0) rfl) ⟨rfl, rfl⟩) (opsF_mayV (St (x.1.head)) rfl rfl (gT (vr (.bool (decide ((x.1.head : List UInt8) ≠ (([] : List UInt8) : List UInt8)))) rfl)) (fun hG33 => Yk.cell1 wr21_ty9 rfl (mayT (vr (cond ((decide ((x.1.head : List UInt8) ≠ (([] : List UInt8) : List UInt8)))) (PQ n2 2) undef) rfl) hG33) (cellAt hb8 (show (refsC x)[2]? = some (St (x.1.head) : Value) from refs_g2 x)) ⟨rfl, rfl⟩) (opsF_mayC (.bool (nameB x.1.head)) rfl rfl (gT (vr (.bool (decide ((x.1.head : List UInt8) ≠ (([] : List UInt8) : List UInt8)))) rfl)) (fun hG34 => Yk.callA1 wr21_pl59 (mayT (vr (cond ((decide ((x.1.head : List UInt8) ≠ (([] : List UInt8) : List UInt8)))) (St (x.1.head)) undef) rfl) hG34) ((name_any _ x.1.head hL.head).mono (by rintro e w2 ⟨rfl, hx⟩; exact ⟨_, rfl, rfl, hx⟩))) fun w36 hx37 => ?_)))))))))))))))
 have hE := hE.trans hx37
 have hb8 := eb hx37 hb8
 refine opsF_mayV (.bool (!(nameB x.1.head))) rfl rfl (gT (vr (.bool (decide ((x.1.head : List UInt8) ≠ (([] : List UInt8) : List UInt8)))) rfl)) (fun hG38 => Yk.notB (mayT (vr (cond ((decide ((x.1.head : List UInt8) ≠ (([] : List UInt8) : List UInt8)))) (.bool (nameB x.1.head)) undef) rfl) hG38) ⟨rfl, rfl⟩) (opsF_mayV (.bool (!(nameB x.1.head))) rfl rfl (gT (vr (.bool (decide ((x.1.head : List UInt8) ≠ (([] : List UInt8) : List UInt8)))) rfl)) (fun hG39 => Yk.move (mayT (vr (cond ((decide ((x.1.head : List UInt8) ≠ (([] : List UInt8) : List UInt8)))) (.bool (!(nameB x.1.head))) undef) rfl) hG39) ⟨rfl, rfl⟩) (opsF_mayV (PQ n2 3) rfl rfl (geF (vr (cond ((decide ((x.1.head : List UInt8) ≠ (([] : List UInt8) : List UInt8)))) (.bool (!(nameB x.1.head))) undef) rfl)) (fun hG40 => Yk.fieldAt wr21_fo53_3 (vr (PQ n2 0) rfl) ⟨rfl, rfl⟩) (opsF_mayV (AB x.1.at_.1) rfl rfl (geF (vr (cond ((decide ((x.1.head : List UInt8) ≠ (([] : List UInt8) : List UInt8)))) (.bool (!(nameB x.1.head))) undef) rfl)) (fun hG41 => Yk.loadPR (PR.blk hb8 (refs_m3 x) (refs_n3 x) (mayT (vr (cond ((decide ((x.1.head : List UInt8) ≠ (([] : List UInt8) : List UInt8))) && !(!(nameB x.1.head))) (PQ n2 3) undef) rfl) hG41)) wr21_ty25 rfl (sizeId_of x.1.at_.2) ⟨rfl, rfl⟩) (opsF_mayC (.bool (zeroB x.1.at_)) rfl rfl (geF (vr (cond ((decide ((x.1.head : List UInt8) ≠ (([] : List UInt8) : List UInt8)))) (.bool (!(nameB x.1.head))) undef) rfl)) (fun hG42 => Yk.callA1 wr21_pl83 (mayT (vr (cond ((decide ((x.1.head : List UInt8) ≠ (([] : List UInt8) : List UInt8))) && !(!(nameB x.1.head))) (AB x.1.at_.1) undef) rfl) hG42) ((fzero_any _ x.1.at_).mono (by rintro e w2 ⟨rfl, hx⟩; exact ⟨_, rfl, rfl, hx⟩))) fun w44 hx45 => ?_))))
 have hE := hE.trans hx45
 have hb8 := eb hx45 hb8
 refine opsF_mayV (.bool (!(zeroB x.1.at_))) rfl rfl (geF (vr (cond ((decide ((x.1.head : List UInt8) ≠ (([] : List UInt8) : List UInt8)))) (.bool (!(nameB x.1.head))) undef) rfl)) (fun hG46 => Yk.notB (mayT (vr (cond ((decide ((x.1.head : List UInt8) ≠ (([] : List UInt8) : List UInt8))) && !(!(nameB x.1.head))) (.bool (zeroB x.1.at_)) undef) rfl) hG46) ⟨rfl, rfl⟩) (opsF_mayB ((!(nameB x.1.head)) || (!(zeroB x.1.at_))) rfl rfl (gT (vr (.bool (decide ((x.1.head : List UInt8) ≠ (([] : List UInt8) : List UInt8)))) rfl)) (fun hG47 => Yk.pickOr (mayT (vr (cond ((decide ((x.1.head : List UInt8) ≠ (([] : List UInt8) : List UInt8)))) (.bool (!(nameB x.1.head))) undef) rfl) hG47) (vr (.bool (true)) rfl) (fun hA => (mayT (vr (cond ((decide ((x.1.head : List UInt8) ≠ (([] : List UInt8) : List UInt8))) && !(!(nameB x.1.head))) (.bool (!(zeroB x.1.at_))) undef) rfl) (and_i hG47 (not_i hA)))) ⟨rfl, rfl⟩) fun bb48 hbb49 => (oS rfl (Yk.pickAndN (vr (.bool (decide ((x.1.head : List UInt8) ≠ (([] : List UInt8) : List UInt8)))) rfl) (fun hA => (mayT (vr (cond ((decide ((x.1.head : List UInt8) ≠ (([] : List UInt8) : List UInt8)))) (.bool (bb48)) undef) rfl) hA)) (vr (.bool (false)) rfl) fun bb50 hbb51 => (oM rfl (opsF_mayV (PQ n2 2) rfl rfl (gF (vr (.bool (bb50)) rfl)) (fun hG52 => Yk.fieldAt wr21_fo53_2 (vr (PQ n2 0) rfl) ⟨rfl, rfl⟩) (opsF_mayV (St (x.1.head)) rfl rfl (gF (vr (.bool (bb50)) rfl)) (fun hG53 => Yk.cell1 wr21_ty9 rfl (mayT (vr (cond (!bb50) (PQ n2 2) undef) rfl) hG53) (cellAt hb8 (show (refsC x)[2]? = some (St (x.1.head) : Value) from refs_g2 x)) ⟨rfl, rfl⟩) (opsF_mayV (.bool (decide ((x.1.head : List UInt8) = (([] : List UInt8) : List UInt8)))) rfl rfl (gF (vr (.bool (bb50)) rfl)) (fun hG54 => Yk.eqSt (l := x.1.head) (m := ([] : List UInt8)) (.inl rfl) (mayT (vr (cond (!bb50) (St (x.1.head)) undef) rfl) hG54) (vr (St (([] : List UInt8))) rfl) (decide ((x.1.head : List UInt8) = (([] : List UInt8) : List UInt8))) rfl ⟨rfl, rfl⟩) (opsF_mayV (.bool (decide ((x.1.head : List UInt8) = (([] : List UInt8) : List UInt8)))) rfl rfl (gF (vr (.bool (bb50)) rfl)) (fun hG55 => Yk.move (mayT (vr (cond (!bb50) (.bool (decide ((x.1.head : List UInt8) = (([] : List UInt8) : List UInt8)))) undef) rfl) hG55) ⟨rfl, rfl⟩) (opsF_mayV (PQ n2 3) rfl rfl (geT (vr (cond (!bb50) (.bool (decide ((x.1.head : List UInt8) = (([] : List UInt8) : List UInt8)))) undef) rfl)) (fun hG56 => Yk.fieldAt wr21_fo53_3 (vr (PQ n2 0) rfl) ⟨rfl, rfl⟩) (opsF_mayV (AB x.1.at_.1) rfl rfl (geT (vr (cond (!bb50) (.bool (decide ((x.1.head : List UInt8) = (([] : List UInt8) : List UInt8)))) undef) rfl)) (fun hG57 => Yk.loadPR (PR.blk hb8 (refs_m3 x) (refs_n3 x) (mayT (vr (cond ((!bb50) && (decide ((x.1.head : List UInt8) = (([] : List UInt8) : List UInt8)))) (PQ n2 3) undef) rfl) hG57)) wr21_ty25 rfl (sizeId_of x.1.at_.2) ⟨rfl, rfl⟩) (opsF_mayC (.bool (zeroB x.1.at_)) rfl rfl (geT (vr (cond (!bb50) (.bool (decide ((x.1.head : List UInt8) = (([] : List UInt8) : List UInt8)))) undef) rfl)) (fun hG58 => Yk.callA1 wr21_pl83 (mayT (vr (cond ((!bb50) && (decide ((x.1.head : List UInt8) = (([] : List UInt8) : List UInt8)))) (AB x.1.at_.1) undef) rfl) hG58) ((fzero_any _ x.1.at_).mono (by rintro e w2 ⟨rfl, hx⟩; exact ⟨_, rfl, rfl, hx⟩))) fun w60 hx61 => ?_)))))))))))
 have hE := hE.trans hx61
 have hb8 := eb hx61 hb8
 refine opsF_mayB ((decide ((x.1.head : List UInt8) = (([] : List UInt8) : List UInt8))) && (zeroB x.1.at_)) rfl rfl (gF (vr (.bool (bb50)) rfl)) (fun hG62 => Yk.pickAnd (mayT (vr (cond (!bb50) (.bool (decide ((x.1.head : List UInt8) = (([] : List UInt8) : List UInt8)))) undef) rfl) hG62) (fun hA => (mayT (vr (cond ((!bb50) && (decide ((x.1.head : List UInt8) = (([] : List UInt8) : List UInt8)))) (.bool (zeroB x.1.at_)) undef) rfl) (and_i hG62 hA))) (vr (.bool (false)) rfl) ⟨rfl, rfl⟩) fun bb63 hbb64 => (oS rfl (Yk.pickOrN (vr (.bool (bb50)) rfl) (vr (.bool (true)) rfl) (fun hA => (mayT (vr (cond (!bb50) (.bool (bb63)) undef) rfl) (not_i hA))) fun bb65 hbb66 => (oL_ [(0, .agg (refsC x).toArray), (1, PQ n2 0), (2, .bool (false)), (45, .bool (bb65))] ⟨T0, rfl, rfl, rfl, trivial⟩ fun ρ67 ⟨T0, T1, T2, T45, _⟩ => (tN (hK31 _ _ ?_)))))
 refine wpF_condB (bb65) T45 (fun hc1 => ?_) (fun hc1 => ?_)
 ·subst hbb49 hbb51 hbb64 hbb66
  have h2c : rE2 x.1 = true := hc1
  refine sk fun K68 hK68 => (wt (oA rfl (oZ (tN (hK68 _ _ (wpF_ret (thenF_ret (postF_ret (fn := Tryd.f31) _ rfl [.bool (false)] (.bool (false)) rfl ⟨rfl, trivial⟩ ?_))))))))
  exact ⟨by rw [rightF_2 h1c h2c], hE⟩
 subst hbb49 hbb51 hbb64 hbb66
 have h2c : rE2 x.1 = false := hc1
 refine wpF_skip (tN (hK30 _ _ (sk fun K69 hK69 => (sk fun K70 hK70 => (wt (oS rfl (Yk.fieldAt wr21_fo53_4 T1 (oS rfl (Yk.cell1 wr21_ty47 rfl (vr (PQ n2 35) rfl) (cellAt hb8 (show (refsC x)[35]? = some (x.2.log : Value) from refs_g4 x)) (oS rfl (Yk.lenRG wr21_ty47 (RG.of (hml.keep hE) (vr x.2.log rfl)) (oM rfl (oL_ [(0, .agg (refsC x).toArray), (1, PQ n2 0), (2, .bool (false)), (47, x.2.log), (48, NI ((x.1.log).length)), (49, NI 0)] ⟨T0, T1, T2, rfl, rfl, rfl, trivial⟩ fun ρ71 ⟨T0, T1, T2, T47, T48, T49, _⟩ => (tN (hK70 _ _ (wpF_block (wpF_loop (fun (ρ : Slots) (wz : World) => ∃ i : Nat, ρ 0 = (.agg (refsC x).toArray : Value) ∧ ρ 1 = (PQ n2 0 : Value) ∧ ρ 47 = (x.2.log : Value) ∧ ρ 48 = (NI ((x.1.log).length) : Value) ∧ ρ 49 = (NI i : Value) ∧ Ext w wz ∧ wz.heap[n2]? = some (.cells (refsC x).toArray 53 (0, 0)) ∧ (i ≤ x.1.log.length) ∧ (∀ j, j < i → entE x.1.log j = false) ∧ True) (fun ρ _ => x.1.log.length - (intOf (ρ 49)).toNat) ⟨0, T0, T1, T47, T48, T49, hE, hb8, Nat.zero_le _, fun j hj => absurd hj (Nat.not_lt_zero _), trivial⟩ ?_)))))))))))))))))
 clear hE hb8
 rintro ρ72 w73 ⟨i, T0, T1, T47, T48, T49, hE, hb8, hi, hn, -⟩
 have q49 := T49
 refine sk fun K74 hK74 => (wt (oS rfl (Yk.eqI (a := (i : Nat)) (b := ((x.1.log).length : Nat)) T49 T48 (k_lss _ _ _ _) (oZ (tN (hK74 _ _ (sk fun K75 hK75 => ?_)))))))
 refine wpF_cond ((i) < ((x.1.log).length)) (vr (.bool (decide ((i) < ((x.1.log).length)))) rfl) (fun hc2 => ?_) (fun hc2 => ?_)
 ·have hlt : i < x.1.log.length := hc2
  refine wpF_skip (tN (hK75 _ _ (sk fun K76 hK76 => (wpF_block (sk fun K77 hK77 => (wt ?_))))))
  have hl80 : (entC ((x.1.log).getD (i) dEntry)).length = 67 := (RG.elem (hml.keep hE) dEntry (by omega))
  refine oS rfl (Yk.atRG wr21_ty47 wr21_szg122 (by decide) dEntry (RG.of (hml.keep hE) T47) T49 (by omega) fun v78 hp79 => (oS rfl (Yk.loadPR (PR.of hp79 (vr v78 rfl)) (wr21_ty122).choose_spec rfl (by rw [ent_len]; exact wr21_isz122) (oS rfl (Yk.alloc (cs := (entC (⟨0, [], zid, zid, []⟩ : Ent)).toArray) wr21_al122 fun n81 w82 hn83 hb84 hx85 hs86 => ?_)))))
  have hA87 := Ext.refl w73
  have hea88 := hE
  have hz89 := hE.size
  have hlt90 := lte (bl hb8) hn83
  have hE := hE.trans hx85
  have hb8 := eb hx85 hb8
  have hA87 := hA87.trans hx85
  have hb91 := hb84; clear hb84
  have hl92 : n81 < w82.heap.size := by omega
  refine oS rfl (Yk.storeAll (vr (PQ n81 0) rfl) (vr (.agg (entC ((x.1.log).getD (i) dEntry)).toArray) rfl) hb91 (by simp only [List.size_toArray, ent_len]) (st_isz (ent_len _) wr21_isz122) (ent_one (x := ((x.1.log).getD (i) dEntry))) fun w93 hb94 hg95 hs96 => ?_)
  have hE := row_fresh hE hg95 (Nat.le_trans hz89 (by omega))
  have hb8 := kb hg95 hb8 (by omega)
  have hA87 := row_fresh hA87 hg95 (Nat.le_trans (Nat.le_refl _) (by omega))
  clear hb91
  have hb91 : w93.heap[n81]? = some (.cells (entC ((x.1.log).getD (i) dEntry)).toArray 122 (0, 0)) := hb94; clear hb94
  have hl97 := bl hb91
  refine oZ ?_
  clear hp79
  refine tN (hK77 _ _ (sk fun K98 hK98 => (wt (oS rfl (Yk.fieldAt wr21_fo122_0 (vr (PQ n81 0) rfl) (oS rfl (Yk.fieldAt wr21_fo67_0 (vr (PQ n81 0) rfl) (oS rfl (Yk.cell1 wr21_ty5 rfl (vr (PQ n81 0) rfl) (cellAt hb91 (show (entC ((x.1.log).getD (i) dEntry))[0]? = some (B8 ((((x.1.log).getD (i) dEntry)).kind) : Value) from ent_g0 ((x.1.log).getD (i) dEntry))) (oS rfl (Yk.callA1 wr21_pl84 (vr (B8 ((((x.1.log).getD (i) dEntry)).kind)) rfl) ((fkind_any _ ((((x.1.log).getD (i) dEntry)).kind)).mono ?_))))))))))))
  rintro e w100 ⟨rfl, hx99⟩
  refine ⟨_, rfl, ?_⟩
  have hE := hE.trans hx99
  have hb8 := eb hx99 hb8
  have hA87 := hA87.trans hx99
  have hb91 := eb hx99 hb91
  refine oS rfl (Yk.notB (vr (.bool (kindB ((((x.1.log).getD (i) dEntry)).kind))) rfl) (oM rfl (opsF_mayV (PQ n81 66) rfl rfl (gF (vr (.bool (!(kindB ((((x.1.log).getD (i) dEntry)).kind)))) rfl)) (fun hG101 => Yk.fieldAt wr21_fo122_1 (vr (PQ n81 0) rfl) ⟨rfl, rfl⟩) (opsF_mayV (St ((((x.1.log).getD (i) dEntry)).note)) rfl rfl (gF (vr (.bool (!(kindB ((((x.1.log).getD (i) dEntry)).kind)))) rfl)) (fun hG102 => Yk.cell1 wr21_ty9 rfl (mayT (vr (cond (!(!(kindB ((((x.1.log).getD (i) dEntry)).kind)))) (PQ n81 66) undef) rfl) hG102) (cellAt hb91 (show (entC ((x.1.log).getD (i) dEntry))[66]? = some (St ((((x.1.log).getD (i) dEntry)).note) : Value) from ent_g4 ((x.1.log).getD (i) dEntry))) ⟨rfl, rfl⟩) (opsF_mayC (.bool (noteB ((((x.1.log).getD (i) dEntry)).note))) rfl rfl (gF (vr (.bool (!(kindB ((((x.1.log).getD (i) dEntry)).kind)))) rfl)) (fun hG103 => Yk.callA1 wr21_pl73 (mayT (vr (cond (!(!(kindB ((((x.1.log).getD (i) dEntry)).kind)))) (St ((((x.1.log).getD (i) dEntry)).note)) undef) rfl) hG103) ((note_any _ ((((x.1.log).getD (i) dEntry)).note)).mono (by rintro e w2 ⟨rfl, hx⟩; exact ⟨_, rfl, rfl, hx⟩))) fun w105 hx106 => ?_)))))
  have hE := hE.trans hx106
  have hb8 := eb hx106 hb8
  have hA87 := hA87.trans hx106
  have hb91 := eb hx106 hb91
  refine opsF_mayV (.bool (!(noteB ((((x.1.log).getD (i) dEntry)).note)))) rfl rfl (gF (vr (.bool (!(kindB ((((x.1.log).getD (i) dEntry)).kind)))) rfl)) (fun hG107 => Yk.notB (mayT (vr (cond (!(!(kindB ((((x.1.log).getD (i) dEntry)).kind)))) (.bool (noteB ((((x.1.log).getD (i) dEntry)).note))) undef) rfl) hG107) ⟨rfl, rfl⟩) (oS rfl (Yk.pickOrN (vr (.bool (!(kindB ((((x.1.log).getD (i) dEntry)).kind)))) rfl) (vr (.bool (true)) rfl) (fun hA => (mayT (vr (cond (!(!(kindB ((((x.1.log).getD (i) dEntry)).kind)))) (.bool (!(noteB ((((x.1.log).getD (i) dEntry)).note)))) undef) rfl) (not_i hA))) fun bb108 hbb109 => (oM rfl (opsF_mayV (PQ n81 0) rfl rfl (gF (vr (.bool (bb108)) rfl)) (fun hG110 => Yk.fieldAt wr21_fo122_0 (vr (PQ n81 0) rfl) ⟨rfl, rfl⟩) (opsF_mayV (PQ n81 1) rfl rfl (gF (vr (.bool (bb108)) rfl)) (fun hG111 => Yk.fieldAt wr21_fo67_1 (mayT (vr (cond (!bb108) (PQ n81 0) undef) rfl) hG111) ⟨rfl, rfl⟩) (opsF_mayV (St ((((x.1.log).getD (i) dEntry)).name)) rfl rfl (gF (vr (.bool (bb108)) rfl)) (fun hG112 => Yk.cell1 wr21_ty9 rfl (mayT (vr (cond (!bb108) (PQ n81 1) undef) rfl) hG112) (cellAt hb91 (show (entC ((x.1.log).getD (i) dEntry))[1]? = some (St ((((x.1.log).getD (i) dEntry)).name) : Value) from ent_g1 ((x.1.log).getD (i) dEntry))) ⟨rfl, rfl⟩) (opsF_mayV (NI (((((x.1.log).getD (i) dEntry)).name : List UInt8).length)) rfl rfl (gF (vr (.bool (bb108)) rfl)) (fun hG113 => Yk.lenSt (l := (((x.1.log).getD (i) dEntry)).name) wr21_ty9 (mayT (vr (cond (!bb108) (St ((((x.1.log).getD (i) dEntry)).name)) undef) rfl) hG113) ⟨rfl, rfl⟩) (opsF_mayV (.bool (decide ((32) < (((((x.1.log).getD (i) dEntry)).name : List UInt8).length)))) rfl rfl (gF (vr (.bool (bb108)) rfl)) (fun hG114 => Yk.eqI (a := ((((((x.1.log).getD (i) dEntry)).name : List UInt8).length : Nat) : Int)) (b := ((32 : Nat) : Int)) (mayT (vr (cond (!bb108) (NI (((((x.1.log).getD (i) dEntry)).name : List UInt8).length)) undef) rfl) hG114) (vr (NI 32) rfl) (k_gtr _ .i64 (((((x.1.log).getD (i) dEntry)).name : List UInt8).length) (32)) ⟨rfl, rfl⟩) (oS rfl (Yk.pickOrN (vr (.bool (bb108)) rfl) (vr (.bool (true)) rfl) (fun hA => (mayT (vr (cond (!bb108) (.bool (decide ((32) < (((((x.1.log).getD (i) dEntry)).name : List UInt8).length)))) undef) rfl) (not_i hA))) fun bb115 hbb116 => (oZ (tN (hK98 _ _ ?_)))))))))))))
  refine wpF_condB (bb115) (vr (.bool (bb115)) rfl) (fun hc3 => ?_) (fun hc3 => ?_)
  ·subst hbb109 hbb116
   have hbad : entE x.1.log i = true := hc3
   refine sk fun K117 hK117 => (wt (oA rfl (oZ (tN (hK117 _ _ (wpF_ret (inBlockF_ret (thenF_ret (thenF_ret (inBlockF_ret (thenF_ret (postF_ret (fn := Tryd.f31) _ rfl [.bool (false)] (.bool (false)) rfl ⟨rfl, trivial⟩ ?_))))))))))))
   exact ⟨by rw [rightF_bad h1c h2c hlt hbad], hE⟩
  subst hbb109 hbb116
  have hbad : entE x.1.log i = false := hc3
  refine wpF_skip (bN (tN (hK76 _ _ (wt (oS rfl (Yk.bin (xv := NI i) (yv := NI 1) T49 rfl rfl (i64_add _ _ _ (by have := hL.log; omega)) (oM rfl (oL_ [(0, .agg (refsC x).toArray), (1, PQ n2 0), (4, PQ n81 0), (47, x.2.log), (48, NI ((x.1.log).length)), (49, NI ((i) + (1)))] ⟨T0, T1, rfl, T47, T48, rfl, trivial⟩ fun ρ118 ⟨T0, T1, T4, T47, T48, T49, _⟩ => (tN (And.intro ⟨i + 1, T0, T1, T47, T48, T49, hE, hb8, by omega, to_step hn hbad, trivial⟩ ?_))))))))))
  show x.1.log.length - (intOf (ρ118 49)).toNat < x.1.log.length - (intOf (ρ72 49)).toNat
  rw [T49, q49]
  simp only [intOf, Int.toNat_natCast]; omega
 refine wpF_exit (thenF_exit (thenF_exit (inBlockF_hit (tN (hK69 _ _ (sk fun K119 hK119 => (wt (oA rfl (oZ (tN (hK119 _ _ (wpF_ret (postF_ret (fn := Tryd.f31) _ rfl [.bool (true)] (.bool (true)) rfl ⟨rfl, trivial⟩ ?_)))))))))))))
 exact ⟨by rw [rightF_all h1c h2c (show x.1.log.length ≤ i by omega) hn], hE⟩
open Go.RowKit
def dstOf (l : List Oper) (i : Nat) : Option Tmp := l[i]?.bind (·.dst)
def pairB (m : List Nat) : List Nat → Bool
  | [] => true
  | a :: r => r.all (fun b => (m.getD b 0).testBit a) && pairB m r
def ndB : List Tmp → Bool
  | [] => true
  | a :: r => !r.contains a && ndB r
def floatB (l : List Oper) (fs : List (Nat × Tmp)) (cs : List Nat) : Bool :=
  (List.range l.length).all (fun i => (fs.map Prod.fst).contains i || cs.contains i) &&
  ((match cs.getLast? with | some c => fs.all (fun p => ((masks l []).getD c 0).testBit p.1) | none => false) && (ndB (fs.map Prod.snd) && (pairB (masks l []) cs &&
  (fs.all (fun p => match l[p.1]? with
    | some o => (o.guard.isNone && !cs.contains p.1) && (o.dst == some p.2 && (((List.range (p.1 + 1)).all (fun j => match l[j]? with | some q => !(q.looksAt l.toArray).contains p.2 | none => true)) && ((List.range l.length).all (fun j => Nat.beq j p.1 || dstOf l j != some p.2) && cs.all (fun c => match dstOf l c with | some d => !(o.looksAt l.toArray).contains d | none => true))))
    | none => false) &&
  (cs.all (fun c => match l[c]? with | some o => o.guard.isNone | none => false) &&
   l.all (fun o => match o.op with | .select .. => false | _ => true))))))
def chainF (P : Program) (l : List Oper) (I : World → Prop) (K : Slots → World → Prop) : List Nat → Slots → World → Prop
  | [], ρ, w => K ρ w
  | i :: r, ρ, w => match l[i]? with
    | none => False
    | some o => Yk P (fun v w' => (r = [] ∨ I w') ∧ chainF P l I K r (updO ρ o.dst v) w') ((execOp (evalR ρ) o).run P w)
def floatsF : List (Nat × Tmp × Value) → Slots → Slots
  | [], ρ => ρ
  | p :: r, ρ => floatsF r (upd ρ p.2.1 p.2.2)
def chainX (P : Program) (l : List Oper) (X : World → World → Prop) (I : World → Prop) (J : List PanicEntry → World → Prop) (K : Slots → World → Prop) : List Nat → Slots → World → Prop
  | [], ρ, w => K ρ w
  | i :: r, ρ, w => match l[i]? with
    | none => False
    | some o => ∀ w0, X w w0 → Yp P (fun v w' => (r = [] ∨ I w') ∧ chainX P l X I J K r (updO ρ o.dst v) w') J ((execOp (evalR ρ) o).run P w0)
def FloatsX (P : Program) (l : List Oper) (X : World → World → Prop) (I : World → Prop) (ρ : Slots) : List (Nat × Tmp × Value) → Prop
  | [] => True
  | p :: r => (match l[p.1]? with
    | none => False
    | some o => ∀ w, I w → Yk P (fun x w' => x = p.2.2 ∧ X w w') ((execOp (evalR ρ) o).run P w)) ∧ FloatsX P l X I ρ r
section
variable {P : Program} {l : List Oper} {X : World → World → Prop} {I : World → Prop} {J : List PanicEntry → World → Prop} {K : Slots → World → Prop} {ρ : Slots} {w : World}
theorem chX_step {i : Nat} {r : List Nat} {o : Oper} (ho : l[i]? = some o)
    (h : ∀ w0, X w w0 → Yp P (fun v w' => (r = [] ∨ I w') ∧ chainX P l X I J K r (updO ρ o.dst v) w') J ((execOp (evalR ρ) o).run P w0)) : chainX P l X I J K (i :: r) ρ w := by
  unfold chainX
  rw [ho]
  exact h
theorem chX_go {K' : Value → World → Prop} {r : Result Next} (h : Yk P K' r) : Yp P K' J r := Yp.ofK h
theorem chX_nil (h : K ρ w) : chainX P l X I J K [] ρ w := h
end
def FloatsO (P : Program) (l : List Oper) (I : World → Prop) (ρ : Slots) : List (Nat × Tmp × Value) → Prop
  | [] => True
  | p :: r => (match l[p.1]? with
    | none => False
    | some o => ∀ w, I w → Yk P (fun x w' => x = p.2.2 ∧ w' = w) ((execOp (evalR ρ) o).run P w)) ∧ FloatsO P l I ρ r
theorem chF_step {P : Program} {l : List Oper} {I : World → Prop} {K : Slots → World → Prop} {i : Nat} {r : List Nat} {ρ : Slots} {w : World} {o : Oper} (ho : l[i]? = some o)
    (h : Yk P (fun v w' => (r = [] ∨ I w') ∧ chainF P l I K r (updO ρ o.dst v) w') ((execOp (evalR ρ) o).run P w)) : chainF P l I K (i :: r) ρ w := by
  unfold chainF
  rw [ho]
  exact h
theorem chF_nil {P : Program} {l : List Oper} {I : World → Prop} {K : Slots → World → Prop} {ρ : Slots} {w : World} (h : K ρ w) : chainF P l I K [] ρ w := h
theorem updO_some {ρ : Slots} {d : Tmp} {v : Value} : updO ρ (some d) v = upd ρ d v := rfl
theorem upd_eq {ρ : Slots} {d : Tmp} {v : Value} : upd ρ d v d = v := by simp [upd]
theorem upd_ne {ρ : Slots} {d t : Tmp} {v : Value} (h : t ≠ d) : upd ρ d v t = ρ t := by
  have : Nat.beq t d = false := by rw [← Bool.not_eq_true, Nat.beq_eq]; exact h
  simp [upd, this]
theorem floatsF_old : ∀ (fs : List (Nat × Tmp × Value)) (ρ : Slots) (t : Tmp), (∀ p ∈ fs, p.2.1 ≠ t) → floatsF fs ρ t = ρ t
  | [], _, _, _ => rfl
  | p :: r, ρ, t, h => by
    show floatsF r (upd ρ p.2.1 p.2.2) t = _
    rw [floatsF_old r _ t (fun q hq => h q (by simp [hq])), upd_ne (fun e => h p (by simp) e.symm)]
theorem floatsF_new : ∀ (fs : List (Nat × Tmp × Value)) (ρ : Slots), (fs.map fun p => p.2.1).Nodup → ∀ p ∈ fs, floatsF fs ρ p.2.1 = p.2.2
  | q :: r, ρ, h, p, hp => by
    have hn := List.nodup_cons.1 h
    show floatsF r (upd ρ q.2.1 q.2.2) p.2.1 = _
    rcases List.mem_cons.1 hp with rfl | hp
    · rw [floatsF_old r _ _ (fun x hx e => hn.1 (List.mem_map.2 ⟨x, hx, e⟩)), upd_eq]
    · exact floatsF_new r _ hn.2 p hp
theorem FloatsX.get {P : Program} {l : List Oper} {X : World → World → Prop} {I : World → Prop} {ρ : Slots} : ∀ {fs : List (Nat × Tmp × Value)}, FloatsX P l X I ρ fs → ∀ p ∈ fs, ∀ o, l[p.1]? = some o → ∀ w, I w → Yk P (fun x w' => x = p.2.2 ∧ X w w') ((execOp (evalR ρ) o).run P w)
  | q :: r, h, p, hp, o, ho, w, hI => by
    rcases List.mem_cons.1 hp with rfl | hp
    · have h1 := h.1
      rw [ho] at h1
      exact h1 w hI
    · exact FloatsX.get h.2 p hp o ho w hI
theorem FloatsO.toX {P : Program} {l : List Oper} {I : World → Prop} {ρ : Slots} : ∀ {fs : List (Nat × Tmp × Value)}, FloatsO P l I ρ fs → FloatsX P l Eq I ρ fs
  | [], _ => trivial
  | q :: r, h => by
    refine ⟨?_, FloatsO.toX h.2⟩
    have h1 := h.1
    cases ho : l[q.1]? with
    | none => rw [ho] at h1; exact h1
    | some o => rw [ho] at h1; exact fun w hw => Yk.mono (h1 w hw) fun _ _ h => ⟨h.1, h.2.symm⟩
theorem chainF.toX {P : Program} {l : List Oper} {I : World → Prop} {J : List PanicEntry → World → Prop} {K : Slots → World → Prop} : ∀ {cs : List Nat} {ρ : Slots} {w : World}, chainF P l I K cs ρ w → chainX P l Eq I J K cs ρ w
  | [], _, _, h => h
  | i :: r, ρ, w, h => by
    unfold chainF at h
    unfold chainX
    cases ho : l[i]? with
    | none => rw [ho] at h; exact h
    | some o => rw [ho] at h; exact fun w0 e => by subst e; exact .ofK (Yk.mono h fun _ _ h => ⟨h.1, chainF.toX h.2⟩)
theorem pairB_get {m : List Nat} : ∀ {cs : List Nat}, pairB m cs = true → ∀ a b (u v : List Nat), cs = u ++ a :: v → b ∈ v → (m.getD b 0).testBit a = true
  | [], _, a, b, u, v, e, _ => by simp at e
  | x :: r, h, a, b, u, v, e, hb => by
    unfold pairB at h
    rw [Bool.and_eq_true] at h
    cases u with
    | nil =>
      simp at e
      obtain ⟨rfl, rfl⟩ := e
      exact List.all_eq_true.1 h.1 b hb
    | cons y u =>
      simp at e
      exact pairB_get h.2 a b u v e.2 hb
theorem exec_agree {ρ σ : Slots} {o : Oper} {ops : Array Oper} (hs : ∀ cs b, o.op ≠ .select cs b) (h : ∀ t ∈ o.looksAt ops, σ t = ρ t) : execOp (evalR σ) o = execOp (evalR ρ) o :=
  execOp_congr o hs fun x hx => by
    cases x with
    | tmp t => exact h t (List.mem_append_left _ (List.mem_filterMap.2 ⟨.tmp t, by simpa using hx, rfl⟩))
    | _ => rfl
section
variable {P : Program} {n : Nat} {ρ : Slots} {w : World} {Q : PostF} {l : List Oper} {fs : List (Nat × Tmp × Value)} {cs : List Nat} {I : World → Prop}
structure FInv (l : List Oper) (fs : List (Nat × Tmp × Value)) (cs : List Nat) (X : World → World → Prop) (I : World → Prop) (n : Nat) (ρf ρc : Slots) (wc : World) (rest : List Nat) (listed : Array Bool) (a : Act) (w : World) : Prop where
  size : listed.size = l.length
  closed : ∀ i o, l[i]? = some o → On listed i → ∀ e ∈ o.after, Region.binds .any e = true → On listed e.on
  tmps : a.tmps.size = n
  defers : a.defers = []
  suffix : ∃ u, cs = u ++ rest ∧ (∀ c ∈ u, On listed c) ∧ ∀ c ∈ rest, ¬ On listed c
  agree : ∀ t, (∀ p ∈ fs, ¬ On listed p.1 → p.2.1 ≠ t) → a.tmps.getD t undef = ρc t
  ghost : ∀ t, (∀ c ∈ cs, dstOf l c ≠ some t) → ρc t = ρf t
  inv : rest = [] ∨ I w
  turn : X wc w
  same : rest = [] → wc = w
theorem wp_of_yields {a : Act} {o : Oper} {K : Act → World → Prop} {Q' : Exit → Act → World → Prop} (h : Yk P (fun v w' => K (a.put o.dst v) w') ((execOp a.eval o).run P w)) : o.wp P a w K Q' := by
  unfold Oper.wp Oper.upon
  revert h
  generalize (execOp a.eval o).run P w = r
  intro h
  match r, h with
  | .ok (.value v) w', h => exact h
  | .ok .skip w', h => exact h
  | .ok (.enter f args) w', h =>
    refine Calls.mono h ?_
    rintro e w'' ⟨v, rfl, hk⟩
    exact hk
theorem wp_of_yieldsP {a : Act} {o : Oper} {K : Act → World → Prop} {Q' : Exit → Act → World → Prop} {J : List PanicEntry → World → Prop} (h : Yp P (fun v w' => K (a.put o.dst v) w') J ((execOp a.eval o).run P w)) (hJ : ∀ ch w', J ch w' → Q' (.panic ch) a w') : o.wp P a w K Q' := by
  unfold Oper.wp Oper.upon
  revert h
  generalize (execOp a.eval o).run P w = r
  intro h
  match r, h with
  | .ok (.value v) w', h => exact h
  | .ok .skip w', h => exact h
  | .halt (.panic v) w', h => exact hJ _ _ h
  | .ok (.enter f args) w', h =>
    refine Calls.mono h ?_
    intro e w'' hx
    match e, hx with
    | .returned v, hx => exact hx
    | .panicked ch, hx => exact hJ _ _ hx
theorem ndB_nodup : ∀ {l : List Tmp}, ndB l = true → l.Nodup
  | [], _ => List.nodup_nil
  | a :: r, h => by
    unfold ndB at h
    rw [Bool.and_eq_true] at h
    refine List.nodup_cons.2 ⟨fun hm => ?_, ndB_nodup h.2⟩
    have := h.1
    rw [List.contains_iff_mem.2 hm] at this
    cases this
theorem float_any {X : World → World → Prop} (hX : ∀ a, X a a) (hXt : ∀ a b c, X a b → X b c → X a c) (hIX : ∀ a b, I a → X a b → I b) (hg : goodB l n = true) (hb : floatB l (fs.map fun p => (p.1, p.2.1)) cs = true) (hf : FloatsX P l X I (floatsF fs ρ) fs) :
    ∀ (fuel : Nat) (listed : Array Bool) (a : Act) (w : World) (ρc : Slots) (wc : World) (rest : List Nat), (listed.toList.filter (!·)).length = fuel → FInv l fs cs X I n (floatsF fs ρ) ρc wc rest listed a w → chainX P l X I (fun ch w' => ∀ ρ', Q (.panic ch) ρ' w') (fun ρ w => Q .normal ρ w) rest ρc wc →
      wpAny P .any l.toArray (fun e a' w' => ∃ ρ', Fits n ρ' a' ∧ Q e ρ' w') fuel listed a w := by
  have g := good_of hg
  unfold floatB at hb
  simp only [Bool.and_eq_true] at hb
  obtain ⟨hcov, hlast, hnd, hpair, hfl, hcg, hsel⟩ := hb
  have hcov' : ∀ i, i < l.length → (∃ p ∈ fs, p.1 = i) ∨ i ∈ cs := fun i hi => by
    have := List.all_eq_true.1 hcov i (by simpa using hi)
    rw [Bool.or_eq_true] at this
    rcases this with h | h
    · left
      have := List.contains_iff_mem.1 h
      simp at this
      obtain ⟨d, v, h⟩ := this
      exact ⟨_, h, rfl⟩
    · exact .inr (List.contains_iff_mem.1 h)
  have hfl' : ∀ p ∈ fs, ∃ o, l[p.1]? = some o ∧ o.guard = none ∧ p.1 ∉ cs ∧ o.dst = some p.2.1 ∧ (∀ j q, j ≤ p.1 → l[j]? = some q → p.2.1 ∉ q.looksAt l.toArray) ∧ (∀ j, j < l.length → j ≠ p.1 → dstOf l j ≠ some p.2.1) ∧ ∀ c ∈ cs, ∀ d, dstOf l c = some d → d ∉ o.looksAt l.toArray := fun p hp => by
    have := List.all_eq_true.1 hfl (p.1, p.2.1) (List.mem_map.2 ⟨p, hp, rfl⟩)
    dsimp only at this
    cases ho : l[p.1]? with
    | none => rw [ho] at this; cases this
    | some o =>
      rw [ho] at this
      simp only [Bool.and_eq_true] at this
      obtain ⟨⟨h1, h1c⟩, h2, h5, h3, h4⟩ := this
      refine ⟨o, rfl, by simpa using h1, fun hc => ?_, by simpa using h2, fun j q hj hq hx => ?_, fun j hj hne e => ?_, fun c hc d hd hx => ?_⟩
      · rw [List.contains_iff_mem.2 hc] at h1c; cases h1c
      · have := List.all_eq_true.1 h5 j (by simp; omega)
        rw [hq] at this
        simp only at this
        rw [List.contains_iff_mem.2 hx] at this
        cases this
      · have := List.all_eq_true.1 h3 j (by simpa using hj)
        rw [Bool.or_eq_true] at this
        rcases this with h | h
        · exact hne (Nat.eq_of_beq_eq_true h)
        · rw [e] at h; simp at h
      · have := List.all_eq_true.1 h4 c hc
        rw [hd] at this
        simp only at this
        rw [List.contains_iff_mem.2 hx] at this
        cases this
  have hcg' : ∀ c ∈ cs, ∃ o, l[c]? = some o ∧ o.guard = none := fun c hc => by
    have := List.all_eq_true.1 hcg c hc
    cases ho : l[c]? with
    | none => rw [ho] at this; cases this
    | some o => rw [ho] at this; exact ⟨o, rfl, by simpa using this⟩
  have hsel' : ∀ (i : Nat) (o : Oper), l[i]? = some o → ∀ cs b, o.op ≠ Op.select cs b := fun i o ho cs b e => by
    have := List.all_eq_true.1 hsel o (List.mem_of_getElem? ho)
    rw [e] at this
    cases this
  have hnew : ∀ p ∈ fs, floatsF fs ρ p.2.1 = p.2.2 := floatsF_new fs ρ (by
    have := ndB_nodup hnd
    rw [List.map_map] at this
    exact this)
  have hlt : ∀ (i : Nat) (o : Oper), l[i]? = some o → i < l.length := fun i o ho => (List.getElem?_eq_some_iff.1 ho).1
  -- all are done
  have fin : ∀ (listed : Array Bool) (a : Act) (w : World) (ρc : Slots) (wc : World) (rest : List Nat), FInv l fs cs X I n (floatsF fs ρ) ρc wc rest listed a w → chainX P l X I (fun ch w' => ∀ ρ', Q (.panic ch) ρ' w') (fun ρ w => Q .normal ρ w) rest ρc wc → (∀ i, i < l.length → On listed i) → ∃ ρ', Fits n ρ' a ∧ Q .normal ρ' w := fun listed a w ρc wc rest h hc hall => by
    obtain ⟨u, hu, hu1, hu2⟩ := h.suffix
    cases rest with
    | nil => exact ⟨ρc, ⟨h.tmps, h.defers, fun t => h.agree t (fun p hp hno => by
        obtain ⟨o, ho, -⟩ := hfl' p hp
        exact absurd (hall p.1 (hlt _ _ ho)) hno)⟩, by have e := h.same rfl; subst e; exact hc⟩
    | cons c r =>
      obtain ⟨o, ho, -⟩ := hcg' c (by rw [hu]; simp)
      exact absurd (hall c (hlt _ _ ho)) (hu2 c (by simp))
  intro fuel
  induction fuel with
  | zero =>
    intro listed a w ρc wc rest hfu h hc
    have full : ∀ i, i < l.length → On listed i := fun i hi => by
      have := count_zero _ hfu i (by rw [Array.length_toList, h.size]; omega)
      unfold On
      simp at this
      simp [this]
    refine ⟨?_, fin listed a w ρc wc rest h hc full⟩
    cases hr : Region.ready .any l.toArray listed with
    | nil => rfl
    | cons x xs =>
      exfalso
      have hmem : x ∈ Region.ready .any l.toArray listed := by rw [hr]; simp
      obtain ⟨h1, o, ho, _⟩ := mem_ready.1 hmem
      have hx : x < l.length := by simpa using (Array.getElem?_eq_some_iff.1 ho).1
      have h2 := full x hx
      have hx' : x < listed.size := h2.lt
      unfold On at h2
      simp [hx'] at h1 h2
      rw [h1] at h2
      cases h2
  | succ fuel ih =>
    intro listed a w ρc wc rest hfu h hc
    refine ⟨fun hr => fin listed a w ρc wc rest h hc fun i => ?_, fun i hi => ?_⟩
    · induction i using Nat.strongRecOn with
      | _ i ih2 =>
        intro hi
        refine Classical.byContradiction fun hno => ?_
        have ho : l[i]? = some l[i] := List.getElem?_eq_getElem hi
        have : i ∈ Region.ready .any l.toArray listed := by
          refine mem_ready.2 ⟨?_, l[i], by rw [List.getElem?_toArray]; exact ho, fun e he hb => ?_⟩
          · have hi' : i < listed.size := by rw [h.size]; exact hi
            unfold On at hno
            simp [hi'] at hno ⊢
            exact hno
          · have hlt := g.back i _ ho e he hb
            exact ih2 e.on hlt (by omega)
        rw [hr] at this
        cases this
    · obtain ⟨h1, o, ho, hall0⟩ := mem_ready.1 hi
      have ho' : l[i]? = some o := by simpa using ho
      have hilt : i < l.length := hlt i o ho'
      have hil : i < listed.size := by rw [h.size]; exact hilt
      have hno : ¬ On listed i := by
        unfold On
        simp [hil] at h1 ⊢
        exact h1
      have hall : ∀ e ∈ o.after, Region.binds .any e = true → On listed e.on := fun e he hb => hall0 e he hb
      have hI : Inv l (fun _ => []) (fun _ _ => True) (fun _ _ => True) (fun _ _ _ => True) a listed a w :=
        ⟨h.size, h.closed, rfl, rfl, fun _ _ _ => trivial, trivial, fun _ _ => rfl, fun _ _ _ _ _ _ _ _ => trivial⟩
      have hmr : ∀ k, ((masks l []).getD i 0).testBit k = true → On listed k := fun k hk => hI.maskReady ho' hall hk
      have hcnt : ((listed.setIfInBounds i true).toList.filter (!·)).length = fuel := by
        rw [Array.toList_setIfInBounds]
        have := count_set listed.toList i (by
          simp [hil] at h1
          simp [hil, h1])
        omega
      have hcl : ∀ j oj, l[j]? = some oj → On (listed.setIfInBounds i true) j → ∀ e ∈ oj.after, Region.binds .any e = true → On (listed.setIfInBounds i true) e.on := fun j oj hj hon e he hb => by
        rcases (on_set hil).1 hon with rfl | hon
        · obtain rfl : o = oj := by rw [ho'] at hj; exact Option.some.inj hj
          exact (on_set hil).2 (.inr (hall e he hb))
        · exact (on_set hil).2 (.inr (h.closed j oj hj hon e he hb))
      have hF : Fits n (fun t => a.tmps.getD t undef) a := ⟨h.tmps, h.defers, fun t => rfl⟩
      have hroom : ∀ t, o.dst = some t → t < n := fun t ht => g.room i o t ho' ht
      -- what it looks at is as in the frame in order
      have hlook : ∀ t ∈ o.looksAt l.toArray, a.tmps.getD t undef = ρc t := fun t ht => h.agree t fun q hq hnq e => by
        subst e
        obtain ⟨oq, hoq, -, -, hdq, hearly, -⟩ := hfl' q hq
        by_cases hqi : i ≤ q.1
        · exact hearly i o hqi ho' ht
        · exact hnq (hmr q.1 (g.tied i o q.1 oq q.2.1 ho' hoq (by omega) (.inl ⟨hdq, List.mem_append_right _ ht⟩)))
      unfold wpOp
      simp only [List.getElem?_toArray, ho']
      obtain ⟨u, hu, hu1, hu2⟩ := h.suffix
      have hguard : o.guard = none := by
        rcases hcov' i hilt with ⟨p, hp, rfl⟩ | hic
        · obtain ⟨o2, ho2, h2, -⟩ := hfl' p hp
          rw [ho'] at ho2
          cases ho2
          exact h2
        · obtain ⟨o2, ho2, h2⟩ := hcg' i hic
          rw [ho'] at ho2
          cases ho2
          exact h2
      have hw : Region.wanted o (yielded l.toArray a.tmps) = true := by unfold Region.wanted; rw [hguard]
      rw [if_pos hw]
      rcases hcov' i hilt with ⟨p, hp, rfl⟩ | hic
      · refine .inl (wp_of_yields ?_)
        rw [hF.eval]
        obtain ⟨o2, ho2, h2, hpc, hpd, hearly, huniq, hpl⟩ := hfl' p hp
        rw [ho'] at ho2
        cases ho2
        have hghost : ∀ t ∈ o.looksAt l.toArray, a.tmps.getD t undef = floatsF fs ρ t := fun t ht => (hlook t ht).trans (h.ghost t fun c hc e => hpl c hc t e ht)
        rw [exec_agree (ρ := floatsF fs ρ) (hsel' _ _ ho') hghost]
        have hrn : rest ≠ [] := fun e => by
          subst e
          rw [List.append_nil] at hu
          cases hgl : cs.getLast? with
          | none => rw [hgl] at hlast; cases hlast
          | some c =>
            rw [hgl] at hlast
            have hcm : c ∈ cs := List.mem_of_getLast? hgl
            have hb1 := List.all_eq_true.1 hlast (p.1, p.2.1) (List.mem_map.2 ⟨p, hp, rfl⟩)
            exact absurd (hI.mask c p.1 (hu1 c (hu ▸ hcm)) hb1) hno
        have hIw : I w := h.inv.elim (fun e => absurd e hrn) (fun x => x)
        refine Yk.mono (hf.get p hp o ho' w hIw) ?_
        rintro v w' ⟨rfl, hxw⟩
        refine ih _ _ _ ρc wc rest hcnt ⟨by simpa using h.size, hcl, (hF.put o.dst hroom _).size, (hF.put o.dst hroom _).defers, ⟨u, hu, fun c hc => (on_set hil).2 (.inr (hu1 c hc)), fun c hc hx => ?_⟩, fun t ht => ?_, h.ghost, .inr (hIX _ _ hIw hxw), hXt _ _ _ h.turn hxw, fun e => absurd e hrn⟩ hc
        · rcases (on_set hil).1 hx with rfl | hx
          · exact hpc (by rw [hu]; exact List.mem_append_right _ hc)
          · exact hu2 c hc hx
        · rw [(hF.put o.dst hroom _).get t, hpd]
          by_cases e : t = p.2.1
          · subst e
            rw [updO_some, upd_eq, h.ghost _ (fun c hc e => ?_), hnew p hp]
            obtain ⟨oc, hoc, -⟩ := hcg' c hc
            exact huniq c (hlt _ _ hoc) (fun x => hpc (x ▸ hc)) e
          · rw [updO_some, upd_ne e]
            refine h.agree t fun q hq hnq => ?_
            by_cases hqi : q.1 = p.1
            · obtain ⟨oq, hoq, -, -, hdq, -⟩ := hfl' q hq
              rw [hqi, ho'] at hoq
              cases hoq
              rw [hpd] at hdq
              exact fun x => e (x.symm.trans (Option.some.inj hdq).symm)
            · exact ht q hq (fun x => by
                rcases (on_set hil).1 x with x | x
                · exact hqi x
                · exact hnq x)
      · have hir : i ∈ rest := by
          rw [hu] at hic
          rcases List.mem_append.1 hic with x | x
          · exact absurd (hu1 i x) hno
          · exact x
        cases rest with
        | nil => cases hir
        | cons b r =>
          have hib : i = b := by
            refine Classical.byContradiction fun hne => ?_
            rcases List.mem_cons.1 hir with x | x
            · exact hne x
            · exact hu2 b (by simp) (hmr b (pairB_get hpair b i u r hu x))
          subst hib
          have hc' : Yp P (fun v w' => (r = [] ∨ I w') ∧ chainX P l X I (fun ch w' => ∀ ρ', Q (.panic ch) ρ' w') (fun ρ w => Q .normal ρ w) r (updO ρc o.dst v) w') (fun ch w' => ∀ ρ', Q (.panic ch) ρ' w') ((execOp (evalR ρc) o).run P w) := by
            unfold chainX at hc
            rw [ho'] at hc
            exact hc w h.turn
          refine .inl (wp_of_yieldsP (J := fun ch w' => ∀ ρ', Q (.panic ch) ρ' w') ?_ fun ch w' h => ⟨_, hF, h _⟩)
          rw [hF.eval]
          rw [exec_agree (ρ := ρc) (hsel' _ _ ho') hlook]
          refine Yp.mono' hc' ?_ fun _ _ h => h
          rintro v w' ⟨hIw, hcr⟩
          refine ih _ _ _ _ w' r hcnt ⟨by simpa using h.size, hcl, (hF.put o.dst hroom _).size, (hF.put o.dst hroom _).defers, ⟨u ++ [i], by rw [hu]; simp, fun c hcm => ?_, fun c hcm hx => ?_⟩, fun t ht => ?_, fun t ht => ?_, hIw, hX _, fun _ => rfl⟩ hcr
          · rcases List.mem_append.1 hcm with x | x
            · exact (on_set hil).2 (.inr (hu1 c x))
            · exact (on_set hil).2 (.inl (List.mem_singleton.1 x))
          · rcases (on_set hil).1 hx with rfl | hx
            · exact hno (hmr c (pairB_get hpair c c u r hu hcm))
            · exact hu2 c (by simp [hcm]) hx
          · rw [(hF.put o.dst hroom _).get t]
            cases hd : o.dst with
            | none =>
              exact h.agree t fun q hq hnq => ht q hq (fun x => by
                rcases (on_set hil).1 x with x | x
                · obtain ⟨_, _, _, hpc, _⟩ := hfl' q hq
                  exact hpc (x ▸ hic)
                · exact hnq x)
            | some d =>
              rw [updO_some, updO_some]
              by_cases e : t = d
              · subst e; rw [upd_eq, upd_eq]
              · rw [upd_ne e, upd_ne e]
                exact h.agree t fun q hq hnq => ht q hq (fun x => by
                  rcases (on_set hil).1 x with x | x
                  · obtain ⟨_, _, _, hpc, _⟩ := hfl' q hq
                    exact hpc (x ▸ hic)
                  · exact hnq x)
          · have hne := ht i hic
            unfold dstOf at hne
            rw [ho'] at hne
            simp only [Option.bind_some] at hne
            cases hd : o.dst with
            | none => exact h.ghost t ht
            | some d =>
              rw [hd] at hne
              rw [updO_some, upd_ne (fun e => hne (by rw [e]))]
              exact h.ghost t ht
theorem wpF_floatX {X : World → World → Prop} (hX : ∀ a, X a a) (hXt : ∀ a b c, X a b → X b c → X a c) (fs : List (Nat × Tmp × Value)) (cs : List Nat) (I : World → Prop) (hIX : ∀ a b, I a → X a b → I b) {id : Nat} (hm : P.follows .mixedOrders = true) (hg : goodB l n = true) (hb : floatB l (fs.map fun p => (p.1, p.2.1)) cs = true) (hI : I w.drew) (hf : FloatsX P l X I (floatsF fs ρ) fs)
    (hc : chainX P l X I (fun ch w' => ∀ ρ', Q (.panic ch) ρ' w') (fun ρ w => Q .normal ρ w) cs (floatsF fs ρ) w.drew) : wpF P n (.region id l.toArray true) Q ρ w := by
  intro a ha
  exact wp_region_any hm (float_any hX hXt hIX (ρ := ρ) hg hb hf _ _ _ _ (floatsF fs ρ) w.drew cs (by simp) ⟨by simp, fun i o _ h => absurd h On.not_replicate, ha.size, ha.defers, ⟨[], rfl, (fun c hc => by cases hc), fun c _ h => On.not_replicate h⟩, fun t ht => (ha.get t).trans (floatsF_old fs ρ t (fun p hp => ht p hp On.not_replicate)).symm, fun t _ => rfl, .inr hI, hX _, fun _ => rfl⟩ hc)
theorem wpF_float (fs : List (Nat × Tmp × Value)) (cs : List Nat) (I : World → Prop) {id : Nat} (hm : P.follows .mixedOrders = true) (hg : goodB l n = true) (hb : floatB l (fs.map fun p => (p.1, p.2.1)) cs = true) (hI : I w.drew) (hf : FloatsO P l I (floatsF fs ρ) fs)
    (hc : chainF P l I (fun ρ w => Q .normal ρ w) cs (floatsF fs ρ) w.drew) : wpF P n (.region id l.toArray true) Q ρ w :=
  wpF_floatX (X := Eq) (fun _ => rfl) (fun _ _ _ h1 h2 => h1.trans h2) fs cs I (fun _ _ h e => e ▸ h) hm hg hb hI hf.toX hc.toX
theorem wpF_floatE (fs : List (Nat × Tmp × Value)) (cs : List Nat) (I : World → Prop) (hIX : ∀ a b, I a → Ext a b → I b) {id : Nat} (hm : P.follows .mixedOrders = true) (hg : goodB l n = true) (hb : floatB l (fs.map fun p => (p.1, p.2.1)) cs = true) (hI : I w.drew) (hf : FloatsX P l Ext I (floatsF fs ρ) fs)
    (hc : chainX P l Ext I (fun ch w' => ∀ ρ', Q (.panic ch) ρ' w') (fun ρ w => Q .normal ρ w) cs (floatsF fs ρ) w.drew) : wpF P n (.region id l.toArray true) Q ρ w :=
  wpF_floatX Ext.refl (fun _ _ _ h1 h2 => h1.trans h2) fs cs I hIX hm hg hb hI hf hc
end
open Go.RowKit
set_option maxHeartbeats 400000 in
theorem putText_any (w : World) (v : Value) (l : List UInt8) (hr : RB w v l) (s : ByteArray) (hl : l.length + s.size + 16 ≤ 140737488355328) :
    Calls Tryd.prog 52 #[v, .string s] w fun e w' => ∃ v', e = .returned v' ∧ NewB 5 w w' v' (l ++ Lib.uvarint s.size ++ s.data.toList) := by
  obtain ⟨i0, hi, hz0, hz1, hz2⟩ := info_parts infoB
  have h9 := uvarint_len63 s.size (by omega)
  have hss : s.data.toList.length = s.size := by simp
  have HSS := Lib.hid hss
  clear hss
  go_enter Tryd.func52, Tryd.ntmps52
  go_wp2_with fail
  refine (own_any _ _ l hr (by omega)).mono ?_
  rintro e w1 ⟨v1, rfl, h1⟩
  go_wp2_with fail
  refine (number_any w.heap.size l.length s.size (by omega) v1 _ w1 h1.own h1.by_.size (by omega)).mono ?_
  rintro e w2 ⟨v2, rfl, ho, g⟩
  have h2 := h1.more g ho
  go_wp2_with (at_builtin; refine wpList_append_src _ rfl _ _ 26 9 rfl w.heap.size 5 i0 (.int .u8 0) 1 1 u22 hi hz0 hz1 hz2 rfl _ _ _ rfl h2.own (.string s) _ _ rfl (srcString uStr _ s) ?c1 ?c2 ?c3 ?_)
  case c1 => have := HSS.out; rw [this, List.length_append]; unfold maxLen; omega
  case c2 => have := HSS.out; rw [this, List.length_append]; omega
  case c3 => exact h2.by_.size
  intro v' w3 hown' hgrow
  go_wp2
  go_ret
  exact ⟨v', rfl, h2.more hgrow (by rw [HSS.out, List.length_append]; exact hown')⟩

open Go.RowKit
def textB (s : Bs) : Bs := Lib.uvarint s.length ++ s
theorem putTextL (w : World) (v : Value) (l : Bs) (hr : RB w v l) (s : Bs) (hl : l.length + s.length + 16 ≤ 140737488355328) :
    Calls Tryd.prog 52 #[v, St s] w fun e w' => ∃ v', e = .returned v' ∧ NewB 5 w w' v' (l ++ textB s) := by
  have hs : (⟨s.toArray⟩ : ByteArray).size = s.length := by show s.toArray.size = _; rw [List.size_toArray]
  have h := putText_any w v l hr ⟨s.toArray⟩ (by rw [hs]; omega)
  have e : l ++ Lib.uvarint (⟨s.toArray⟩ : ByteArray).size ++ (⟨s.toArray⟩ : ByteArray).data.toList = l ++ textB s := by
    unfold textB
    rw [hs, List.append_assoc]
  rw [e] at h
  exact h
theorem uvarint_len9 {n : Nat} (h : n ≤ 9223372036854775807) : (Lib.uvarint n).length ≤ 9 := uvarint_len63 n (by omega)
open Go.RowKit
section
variable {P : Program} {K : Value → World → Prop} {ρ : Slots} {w : World} {d : Option Tmp} {ty : TypeId} {pos : String} {af : Array Edge} {gd : Option (Nat × Bool)}
theorem Yk.lit0G {α : Type} {k : Nat} {enc : α → List Value} {t e : TypeId} (hr : ∀ (w : World), (Instr.buildSlice t 0 #[]).run P w = .ok (.slice (some ⟨w.heap.size, 0, none⟩) 0 0) (w.alloc (.cells #[] e)))
    (hk : ∀ v w', OG w.heap.size e k enc w' v [] → Ext w w' → K v w') : Yk P K ((execOp (evalR ρ) ⟨d, .buildSlice t 0 #[], ty, pos, af, gd⟩).run P w) := by
  have hr' : (execOp (evalR ρ) ⟨d, .buildSlice t 0 #[], ty, pos, af, gd⟩).run P w = .ok (.value (.slice (some ⟨w.heap.size, 0, none⟩) 0 0)) (w.alloc (.cells #[] e)) := by
    unfold execOp
    simp only [List.map_toArray, List.map_nil, Sem.run_bind, hr, Result.andThen_ok, Sem.run_pure]
  rw [hr']
  refine hk _ _ ⟨fun x hx => (List.not_mem_nil hx).elim, ⟨by simp, .inr ⟨w.heap.size, 0, #[], rfl, Nat.le_refl _, heap_alloc_new w _, Nat.le_refl _, by simp [maxLen], by simp, by simp⟩⟩⟩ (Below.alloc (Below.refl _ _) (Nat.le_refl _) _)
end
theorem og_eq {w : World} {α : Type} {b k : Nat} {e : TypeId} {enc : α → List Value} {v : Value} {l l' : List α} (h : OG b e k enc w v l) (e' : l = l') : OG b e k enc w v l' := by rw [← e']; exact h
open Go.RowKit
theorem info_ex {P : Program} {e : TypeId} {k b : Nat} (h : (P.info? e).map (fun i => (i.zero.map (fun z => z.cells.size), i.size, i.bytes)) = some (some k, k, b)) : ∃ z, (P.info? e).map (fun i => (i.zero, i.size, i.bytes)) = some (some z, k, b) ∧ z.cells.size = k := by
  cases hi : P.info? e with
  | none => rw [hi] at h; cases h
  | some i =>
    rw [hi] at h
    simp only [Option.map_some, Option.some.injEq, Prod.mk.injEq] at h
    cases hz : i.zero with
    | none => rw [hz] at h; cases h.1
    | some z =>
      rw [hz] at h
      simp only [Option.map_some, Option.some.injEq] at h
      exact ⟨z, by simp [hz, h.2.1, h.2.2], h.1⟩
open Go.RowKit
set_option maxRecDepth 100000
theorem take_snoc {α : Type} {l : List α} {i : Nat} {d : α} (h : i < l.length) : l.take i ++ [l.getD i d] = l.take (i + 1) := by
 rw [List.take_add_one, List.getElem?_eq_getElem h, List.getD_eq_getElem?_getD, List.getElem?_eq_getElem h]; rfl
set_option maxHeartbeats 1600000
open Go.RowKit
structure NamesLt (r : Refs) : Prop where
  bn : ∀ u ∈ r.branches, u.name.length ≤ 9223372036854775807
  tn : ∀ u ∈ r.tags, u.name.length ≤ 9223372036854775807
  head : r.head.length ≤ 9223372036854775807
theorem few_of {a b c : Nat} (h : ((decide (80 < a) || decide (80 < b)) || decide (80 < c)) = false) : a ≤ 80 ∧ b ≤ 80 ∧ c ≤ 80 := by
  simp only [Bool.or_eq_false_iff, decide_eq_false_iff_not] at h
  omega
theorem lt_of {r : Refs} (h : NamesLt r) (hc : r.branches.length ≤ 80 ∧ r.tags.length ≤ 80 ∧ r.log.length ≤ 80) : RefsLt r := ⟨by omega, by omega, by omega, h.bn, h.tn, h.head⟩
open Go.RowKit
set_option maxRecDepth 100000
open Go.ChangeShapes Go.WideShapes Go.ChangeAt Go.Deep
theorem open_nmd_69 {H : Type} {enc : TypeId × Value → H} {W : World} : Opn enc Tryd.prog W 69 nmdC (fun x : Nmd => x.name.length ≤ 9223372036854775807) := fun fuel cs x h => by
 have ht : Tryd.prog.underlying 69 = some (.struct (Tryd.prog.fieldsOf 69)) := by kernel_rfl
 obtain ⟨a0, e0, k0⟩ := field_open (i := 0) (ty := 9) (o := 0) (k := 1) ht h (by kernel_rfl) (by kernel_rfl) (Opn.strL (by kernel_rfl))
 obtain ⟨a1, e1, k1⟩ := field_open (i := 1) (ty := 25) (o := 1) (k := 32) ht h (by kernel_rfl) (by kernel_rfl) (Opn.id (e := 5) (by kernel_rfl) (by kernel_rfl) (by kernel_rfl) (by kernel_rfl))
 have hl : cs.drop 33 = [] := List.drop_of_length_le (Nat.le_of_eq ((struct_len ht h).trans (by kernel_rfl)))
 refine ⟨⟨a0, a1⟩, ?_, k0⟩
 rw [show cs = cs.drop 0 from rfl]
 rw [e0]
 rw [show cs.drop (0 + 1) = _ from e1]
 rw [show cs.drop (1 + 32) = [] from hl]
 simp [nmdC]
instance : Inhabited Nmd := ⟨dNmd⟩
instance : Inhabited Ent := ⟨dEntry⟩
theorem open_upd_67 {H : Type} {enc : TypeId × Value → H} {W : World} : Opn enc Tryd.prog W 67 updC (fun x : Upd => True) := fun fuel cs x h => by
 have ht : Tryd.prog.underlying 67 = some (.struct (Tryd.prog.fieldsOf 67)) := by kernel_rfl
 obtain ⟨a0, e0, k0⟩ := field_open (i := 0) (ty := 5) (o := 0) (k := 1) ht h (by kernel_rfl) (by kernel_rfl) (Opn.u8 (by kernel_rfl))
 obtain ⟨a1, e1, k1⟩ := field_open (i := 1) (ty := 9) (o := 1) (k := 1) ht h (by kernel_rfl) (by kernel_rfl) (Opn.str (by kernel_rfl))
 obtain ⟨a2, e2, k2⟩ := field_open (i := 2) (ty := 25) (o := 2) (k := 32) ht h (by kernel_rfl) (by kernel_rfl) (Opn.id (e := 5) (by kernel_rfl) (by kernel_rfl) (by kernel_rfl) (by kernel_rfl))
 obtain ⟨a3, e3, k3⟩ := field_open (i := 3) (ty := 25) (o := 34) (k := 32) ht h (by kernel_rfl) (by kernel_rfl) (Opn.id (e := 5) (by kernel_rfl) (by kernel_rfl) (by kernel_rfl) (by kernel_rfl))
 have hl : cs.drop 66 = [] := List.drop_of_length_le (Nat.le_of_eq ((struct_len ht h).trans (by kernel_rfl)))
 refine ⟨⟨a0, a1, a2, a3⟩, ?_, trivial⟩
 rw [show cs = cs.drop 0 from rfl]
 rw [e0]
 rw [show cs.drop (0 + 1) = _ from e1]
 rw [show cs.drop (1 + 1) = _ from e2]
 rw [show cs.drop (2 + 32) = _ from e3]
 rw [show cs.drop (34 + 32) = [] from hl]
 simp [updC]
theorem open_ent_122 {H : Type} {enc : TypeId × Value → H} {W : World} : Opn enc Tryd.prog W 122 entC (fun _ : Ent => True) := fun fuel cs _ h => by
 have ht : Tryd.prog.underlying 122 = some (.struct (Tryd.prog.fieldsOf 122)) := by kernel_rfl
 obtain ⟨a0, e0, -⟩ := field_open (i := 0) (ty := 67) (o := 0) (k := 66) ht h (by kernel_rfl) (by kernel_rfl) (open_upd_67)
 obtain ⟨a1, e1, -⟩ := field_open (i := 1) (ty := 9) (o := 66) (k := 1) ht h (by kernel_rfl) (by kernel_rfl) (Opn.str (by kernel_rfl))
 have hl : cs.drop 67 = [] := List.drop_of_length_le (Nat.le_of_eq ((struct_len ht h).trans (by kernel_rfl)))
 refine ⟨⟨a0.kind, a0.name, a0.old, a0.new, a1⟩, ?_, trivial⟩
 rw [show cs = cs.drop 0 from rfl]
 rw [e0]
 rw [show cs.drop (0 + 66) = _ from e1]
 rw [show cs.drop (66 + 1) = [] from hl]
 simp [updC, entC]
theorem open_refs_49 {H : Type} {enc : TypeId × Value → H} {W : World} : Opn enc Tryd.prog W 49 refsC (fun x : RefsV => RG 33 nmdC W x.2.branches x.1.branches ∧ (∀ u ∈ x.1.branches, u.name.length ≤ 9223372036854775807) ∧ RG 33 nmdC W x.2.tags x.1.tags ∧ (∀ u ∈ x.1.tags, u.name.length ≤ 9223372036854775807) ∧ x.1.head.length ≤ 9223372036854775807 ∧ RG 67 entC W x.2.log x.1.log) := fun fuel cs x h => by
 have ht : Tryd.prog.underlying 49 = some (.struct (Tryd.prog.fieldsOf 49)) := by kernel_rfl
 obtain ⟨a0, e0, k0⟩ := field_open (i := 0) (ty := 46) (o := 0) (k := 1) ht h (by kernel_rfl) (by kernel_rfl) (Opn.slice (by kernel_rfl) (by kernel_rfl) (by decide) open_nmd_69 (fun a _ => nmd_len a))
 obtain ⟨a1, e1, k1⟩ := field_open (i := 1) (ty := 46) (o := 1) (k := 1) ht h (by kernel_rfl) (by kernel_rfl) (Opn.slice (by kernel_rfl) (by kernel_rfl) (by decide) open_nmd_69 (fun a _ => nmd_len a))
 obtain ⟨a2, e2, k2⟩ := field_open (i := 2) (ty := 9) (o := 2) (k := 1) ht h (by kernel_rfl) (by kernel_rfl) (Opn.strL (by kernel_rfl))
 obtain ⟨a3, e3, k3⟩ := field_open (i := 3) (ty := 25) (o := 3) (k := 32) ht h (by kernel_rfl) (by kernel_rfl) (Opn.id (e := 5) (by kernel_rfl) (by kernel_rfl) (by kernel_rfl) (by kernel_rfl))
 obtain ⟨a4, e4, k4⟩ := field_open (i := 4) (ty := 47) (o := 35) (k := 1) ht h (by kernel_rfl) (by kernel_rfl) (Opn.slice (by kernel_rfl) (by kernel_rfl) (by decide) open_ent_122 (fun a _ => ent_len a))
 have hl : cs.drop 36 = [] := List.drop_of_length_le (Nat.le_of_eq ((struct_len ht h).trans (by kernel_rfl)))
 refine ⟨(⟨a0.2, a1.2, a2, a3, a4.2⟩, ⟨a0.1, a1.1, a4.1⟩), ?_, ⟨k0.1, k0.2, k1.1, k1.2, k2, k4.1⟩⟩
 rw [show cs = cs.drop 0 from rfl]
 rw [e0]
 rw [show cs.drop (0 + 1) = _ from e1]
 rw [show cs.drop (1 + 1) = _ from e2]
 rw [show cs.drop (2 + 1) = _ from e3]
 rw [show cs.drop (3 + 32) = _ from e4]
 rw [show cs.drop (35 + 1) = [] from hl]
 simp [refsC]
theorem open_refs {H : Type} {enc : TypeId × Value → H} {W : World} {r : Reach} {b0 : Nat} {v : Value} {d : DataW H} {ps : List MemPlace} (hval : Value.okWide Tryd.prog W r b0 49 v) (hd : DataW.Trod enc Tryd.prog W 0 (fun _ => true) true 49 v d ps) :
  ∃ x : RefsV, v = .agg (refsC x).toArray ∧ RefsAt W x ∧ NamesLt x.1 ∧ ∀ p ∈ ps, p.block < W.heap.size := by
 obtain ⟨fuel, hf⟩ := hd
 have hlt := DataW.trod_lt fuel _ _ _ hf
 obtain ⟨cs, rfl, -⟩ := okWide_struct (fs := Tryd.prog.fieldsOf 49) (by kernel_rfl) hval
 obtain ⟨x, h1, h2, h3, h4, h5, h6, h7⟩ := open_refs_49 _ _ _ hf
 have h1 : cs.toList = refsC x := h1
 exact ⟨x, by rw [← h1], ⟨h2, h4, h7⟩, ⟨h3, h5, h6⟩, hlt⟩
open Go.RowKit
def SB (g k lo n c : Nat) (v : Value) : Prop := ∃ o, v = .slice (some ⟨g, o, none⟩) n c ∧ (0 < c → o = lo * k)
def SrcAt (w : World) (v : Value) (n c : Nat) (news : List Value) : Prop := ∃ a, v = .slice (some a) n c ∧ ∀ j u, news[j]? = some u → w.cell? (a.add j) = some u
theorem SB.src {w : World} {g k lo n c : Nat} {v : Value} {C : List Value} {T : TypeId} {fr : Nat × Nat} (h : SB g k lo n c v) (m : Nat) (hc : 0 < c ∨ m = 0) (hC : w.heap[g]? = some (.cells C.toArray T fr)) {D : List Value} (hD : (C.drop (lo * k)).take m = D) : SrcAt w v n c D := by
  obtain ⟨o, rfl, ho⟩ := h
  subst hD
  refine ⟨_, rfl, fun j u hu => ?_⟩
  rcases hc with hc | rfl
  · obtain rfl := ho hc
    rw [Addr.add_lit]
    rw [List.getElem?_take] at hu
    split at hu
    · rw [List.getElem?_drop] at hu
      exact cellAt hC hu
    · cases hu
  · simp at hu
theorem SB.of {g k lo n c : Nat} {v x : Value} (h : SB g k lo n c v) (e : x = v) : SB g k lo n c x := by rw [e]; exact h
theorem SB.first (g k n c : Nat) : SB g k 0 n c (.slice (some ⟨g, 0, none⟩) n c) := ⟨0, rfl, fun _ => (Nat.zero_mul _).symm⟩
theorem SB.eq {g k lo lo' n n' c c' : Nat} {v : Value} (h : SB g k lo n c v) (e1 : lo = lo') (e2 : n = n') (e3 : c = c') : SB g k lo' n' c' v := by subst e1 e2 e3; exact h
theorem row_info {P : Program} {e : TypeId} {k b : Nat} (h : (P.info? e).map (fun i => (i.size, i.bytes, i.zero.map fun z => (z.cells.size, z.cells.toList.all fun u => u.oneCell'))) = some (k, b, some (k, true))) : ∃ i z, P.info? e = some i ∧ i.size = k ∧ i.bytes = b ∧ i.zero = some z ∧ z.cells.size = k ∧ ∀ u ∈ z.cells.toList, u.oneCell' = true := by
  cases hi : P.info? e with
  | none => rw [hi] at h; cases h
  | some i =>
    rw [hi] at h
    simp only [Option.map_some, Option.some.injEq, Prod.mk.injEq] at h
    obtain ⟨h1, h2, h3⟩ := h
    cases hz : i.zero with
    | none => rw [hz] at h3; cases h3
    | some z =>
      rw [hz] at h3
      simp only [Option.map_some, Option.some.injEq, Prod.mk.injEq, List.all_eq_true] at h3
      exact ⟨i, z, rfl, h1, h2, hz, h3.1, h3.2⟩
theorem zeroCells_one {z : Value} (h : ∀ u ∈ z.cells.toList, u.oneCell' = true) (n : Nat) : ∀ u ∈ (Builtin.zeroCells z.cells n).toList, u.oneCell' = true := by
  intro u hu
  simp only [Builtin.zeroCells, Array.mem_toList_iff, Array.mem_map, Array.mem_range] at hu
  obtain ⟨i, hi, rfl⟩ := hu
  have h0 : 0 < z.cells.size := by
    rcases Nat.eq_zero_or_pos z.cells.size with e | e
    · rw [e] at hi; omega
    · exact e
  have hl := Nat.mod_lt i h0
  rw [getElem!_pos z.cells _ hl]
  exact h _ (Array.getElem_mem_toList hl)
theorem grown_setRow {w : World} {g : Nat} {C : Array Value} : w.grownBy (w.setRow g C) (some g) := ⟨rfl, rfl, rfl, by simp, fun k _ hk => setRow_other w g k _ (fun e => hk (by rw [e]))⟩
section
variable {P : Program} {K : Value → World → Prop} {ρ : Slots} {w : World} {d : Option Tmp} {ty : TypeId} {pos : String} {af : Array Edge} {gd : Option (Nat × Bool)}
variable {g k lo n c : Nat} {s x : Operand}
theorem Yk.sliceSB {t e : TypeId} (ht : P.underlying t = some (.slice e)) (he : ∀ w' : World, (sizeOf e).run P w' = .ok k w') {a b : Option Operand} (h : SB g k lo n c (evalR ρ x)) (l r : Nat)
    (ha : a.map (evalR ρ) = none ∧ l = 0 ∨ ∃ q, a.map (evalR ρ) = some (.int q (l : Int))) (hb : b.map (evalR ρ) = none ∧ r = n ∨ ∃ q, b.map (evalR ρ) = some (.int q (r : Int))) (h1 : l ≤ r) (h2 : r ≤ c)
    (hk : ∀ v, SB g k (lo + l) (r - l) (c - l) v → K v w) : Yk P K ((execOp (evalR ρ) ⟨d, .slice t x a b none, ty, pos, af, gd⟩).run P w) := by
  obtain ⟨o, hx, ho⟩ := h
  have hE : P.elem t = e := by simp [Program.elem, ht]
  have ht' : P.underlying t = some (.slice (P.elem t)) := by rw [hE]; exact ht
  refine Yk.value (v := sliced (some ⟨g, o, none⟩) l r c k) (w' := w) ?_ (hk _ ?_)
  · unfold execOp
    have h1' : (l : Int) ≤ (r : Int) := by omega
    have h2' : (r : Int) ≤ (c : Int) := by omega
    have hr : (Instr.sliceAt t (.slice (some ⟨g, o, none⟩) n c) (a.map (evalR ρ)) (b.map (evalR ρ)) none).run P w = .ok (sliced (some ⟨g, o, none⟩) l r c k) w := by
      rw [run_sliceAt_slice (P := P) w t _ _ _ _ ht']
      rcases ha with ⟨e1, rfl⟩ | ⟨q, e1⟩ <;> rcases hb with ⟨e2, rfl⟩ | ⟨q', e2⟩ <;> rw [e1, e2]
      · rw [run_slice_all (P := P) w t _ _ _ ht', hE, he]; rfl
      · rw [run_slice_h (P := P) w t _ _ _ ht' q' r (by omega) h2', hE, he]; rfl
      · rw [run_slice_l (P := P) w t _ _ _ ht' q l (by omega) h1', hE, he]; rfl
      · rw [run_slice_lh (P := P) w t _ _ _ ht' q q' l r (by omega) h1' h2', hE, he]; rfl
    simp only [hx, Option.map_none, hr, Sem.run_bind, Sem.run_pure, Result.andThen_ok]
  · refine ⟨if c = l then o else o + l * k, ?_, fun h => ?_⟩
    · unfold sliced
      split <;> simp [Addr.add_lit]
    · rw [if_neg (by omega), ho (by omega), Nat.add_mul]
theorem Yk.sliceSB3 {t e : TypeId} (ht : P.underlying t = some (.slice e)) (he : ∀ w' : World, (sizeOf e).run P w' = .ok k w') {a b y : Operand} (h : SB g k lo n c (evalR ρ x)) {l r m : Nat} {q1 q2 q3 : IntKind}
    (ha : evalR ρ a = .int q1 (l : Int)) (hb : evalR ρ b = .int q2 (r : Int)) (hm : evalR ρ y = .int q3 (m : Int)) (h1 : l ≤ r) (h2 : r ≤ m) (h3 : m ≤ c)
    (hk : ∀ v, SB g k (lo + l) (r - l) (m - l) v → K v w) : Yk P K ((execOp (evalR ρ) ⟨d, .slice t x (some a) (some b) (some y), ty, pos, af, gd⟩).run P w) := by
  obtain ⟨o, hx, ho⟩ := h
  have hE : P.elem t = e := by simp [Program.elem, ht]
  have ht' : P.underlying t = some (.slice (P.elem t)) := by rw [hE]; exact ht
  refine Yk.value (v := sliced (some ⟨g, o, none⟩) l r m k) (w' := w) ?_ (hk _ ?_)
  · unfold execOp
    have hr : (Instr.sliceAt t (.slice (some ⟨g, o, none⟩) n c) (some (.int q1 (l : Int))) (some (.int q2 (r : Int))) (some (.int q3 (m : Int)))).run P w = .ok (sliced (some ⟨g, o, none⟩) l r m k) w := by
      rw [run_sliceAt_slice (P := P) w t _ _ _ _ ht', run_slice_lhm (P := P) w t _ _ _ ht' q1 q2 q3 l r m (by omega) (by omega) (by omega) (by omega), hE, he]
      rfl
    simp only [hx, ha, hb, hm, Option.map_some, hr, Sem.run_bind, Sem.run_pure, Result.andThen_ok]
  · refine ⟨if m = l then o else o + l * k, ?_, fun h => ?_⟩
    · unfold sliced
      split <;> simp [Addr.add_lit]
    · rw [if_neg (by omega), ho (by omega), Nat.add_mul]
theorem Yk.lenSB {t e : TypeId} (ht : P.underlying t = some (.slice e)) (h : SB g k lo n c (evalR ρ x)) (hk : K (NI n) w) : Yk P K ((execOp (evalR ρ) ⟨d, .call ⟨.builtin .len, #[x], #[t]⟩, ty, pos, af, gd⟩).run P w) := by
  obtain ⟨o, hx, -⟩ := h
  exact Yk.lenSl ht hx hk
theorem Yk.capSB {t e : TypeId} (ht : P.underlying t = some (.slice e)) (h : SB g k lo n c (evalR ρ x)) (hk : K (NI c) w) : Yk P K ((execOp (evalR ρ) ⟨d, .call ⟨.builtin .cap, #[x], #[t]⟩, ty, pos, af, gd⟩).run P w) := by
  obtain ⟨o, hx, -⟩ := h
  have hE : P.elem t = e := by simp [Program.elem, ht]
  refine Yk.value (v := NI c) (w' := w) ?_ hk
  have hr := run_cap_slice (P := P) w t ty (some ⟨g, o, none⟩) n c (by rw [hE]; exact ht)
  unfold execOp
  simp only [resolve, invoke, builtin, hx, List.map_toArray, List.map_cons, List.map_nil, Sem.run_bind, hr, Result.andThen_ok, Sem.run_pure]
  rfl
theorem Yk.copySB {dT sT e T : TypeId} (ht : P.underlying dT = some (.slice e)) (he : ∀ w' : World, (sizeOf e).run P w' = .ok k w') (hd : SB g k lo n c (evalR ρ s)) (hc : 0 < c) {C : List Value} (hC : w.heap[g]? = some (.cells C.toArray T (0, 0)))
    {n2 c2 : Nat} (m : Nat) {news : List Value} (hs : SrcAt w (evalR ρ x) n2 c2 news) (hm : Nat.min n2 n = m) (hl : news.length = m * k) (h1 : ∀ u ∈ news, u.oneCell' = true) (hfit : lo * k + m * k ≤ C.length)
    (hk : ∀ w', w'.heap[g]? = some (.cells (C.take (lo * k) ++ news ++ C.drop (lo * k + m * k)).toArray T (0, 0)) → w.grownBy w' (some g) → w'.heap.size = w.heap.size → K (NI m) w') :
    Yk P K ((execOp (evalR ρ) ⟨d, .call ⟨.builtin .copy, #[s, x], #[dT, sT]⟩, ty, pos, af, gd⟩).run P w) := by
  obtain ⟨o, hx, ho⟩ := hd
  obtain rfl := ho hc
  obtain ⟨a, hy, hn⟩ := hs
  have hst := run_storeCells_at P g (lo * k) T news 0 C.toArray w hC (by simp only [List.size_toArray]; omega) h1
  simp only [Nat.add_zero, hl] at hst
  have hf := run_firstCells_some (P := P) w k m a n2 c2 news hl hn
  refine Yk.value (v := NI m) (w' := w.setRow g (C.take (lo * k) ++ news ++ C.drop (lo * k + m * k)).toArray) ?_ (hk _ (setRow_heap w g C.toArray _ T (0, 0) hC) grown_setRow (by simp))
  unfold execOp
  have hr : (Builtin.copy_ #[dT, sT] ty #[.slice (some ⟨g, lo * k, none⟩) n c, .slice (some a) n2 c2]).run P w = .ok (NI m) (w.setRow g (C.take (lo * k) ++ news ++ C.drop (lo * k + m * k)).toArray) := by
    simp only [Builtin.copy_, List.getElem?_toArray, List.getElem?_cons_zero, List.getElem?_cons_succ, Sem.run_bind, run_underlying ht, Result.andThen_ok, he, Builtin.lenOf, Sem.run_pure, hm, hf, hst]
    rfl
  simp only [resolve, invoke, builtin, hx, hy, List.map_toArray, List.map_cons, List.map_nil, Sem.run_bind, hr, Result.andThen_ok, Sem.run_pure]
theorem Yk.appendSB {t e : TypeId} {i : TypeInfo} (ht : P.underlying t = some (.slice e)) (hi : P.info? e = some i) (hik : i.size = k) (hd : SB g k 0 n c (evalR ρ s)) (hc : 0 < c) {C : List Value} (hC : w.heap[g]? = some (.cells C.toArray e (0, 0)))
    {m c2 : Nat} {news : List Value} (hs : SrcAt w (evalR ρ x) m c2 news) (hl : news.length = m * k) (h1 : ∀ u ∈ news, u.oneCell' = true) (hroom : n + m ≤ c) (hfit : (n + m) * k ≤ C.length)
    (hk : ∀ w', w'.heap[g]? = some (.cells (C.take (n * k) ++ news ++ C.drop (n * k + m * k)).toArray e (0, 0)) → w.grownBy w' (some g) → w'.heap.size = w.heap.size → K (.slice (some ⟨g, 0, none⟩) (n + m) c) w') :
    Yk P K ((execOp (evalR ρ) ⟨d, .call ⟨.builtin .append, #[s, x], #[t, t]⟩, ty, pos, af, gd⟩).run P w) := by
  obtain ⟨o, hx, ho⟩ := hd
  obtain rfl : o = 0 := by rw [ho hc, Nat.zero_mul]
  obtain ⟨a, hy, hn⟩ := hs
  subst hik
  have hr := run_append_room (P := P) w t ty e i ht hi g n c C.toArray hC a m c2 news hl hn h1 hroom (by rw [hl, List.size_toArray, ← Nat.add_mul]; exact hfit)
  simp only [hl] at hr
  refine Yk.value (v := .slice (some ⟨g, 0, none⟩) (n + m) c) (w' := w.setRow g (C.take (n * i.size) ++ news ++ C.drop (n * i.size + m * i.size)).toArray) ?_ (hk _ (setRow_heap w g C.toArray _ e (0, 0) hC) grown_setRow (by simp))
  unfold execOp
  simp only [resolve, invoke, builtin, hx, hy, List.map_toArray, List.map_cons, List.map_nil, Sem.run_bind, hr, Result.andThen_ok, Sem.run_pure]
theorem Yk.clearSB {t e T : TypeId} {i : TypeInfo} {z : Value} (ht : P.underlying t = some (.slice e)) (hi : P.info? e = some i) (hz : i.zero = some z) (hzs : z.cells.size = k) (hd : SB g k lo n c (evalR ρ s)) (hc : 0 < c) (hn : 0 < n) {C : List Value} (hC : w.heap[g]? = some (.cells C.toArray T (0, 0)))
    (h1 : ∀ u ∈ (Builtin.zeroCells z.cells n).toList, u.oneCell' = true) (hfit : lo * k + n * k ≤ C.length)
    (hk : ∀ w' Z, Z.length = n * k → w'.heap[g]? = some (.cells (C.take (lo * k) ++ Z ++ C.drop (lo * k + n * k)).toArray T (0, 0)) → w.grownBy w' (some g) → w'.heap.size = w.heap.size → K (.tuple #[]) w') :
    Yk P K ((execOp (evalR ρ) ⟨d, .call ⟨.builtin .clear, #[s], #[t]⟩, ty, pos, af, gd⟩).run P w) := by
  obtain ⟨o, hx, ho⟩ := hd
  obtain rfl := ho hc
  have hZ : (Builtin.zeroCells z.cells n).toList.length = n * k := by rw [Array.length_toList, size_zeroCells, hzs]
  have hst := run_storeCells_at P g (lo * k) T (Builtin.zeroCells z.cells n).toList 0 C.toArray w hC (by rw [hZ]; simp only [List.size_toArray]; omega) h1
  simp only [Nat.add_zero, hZ] at hst
  obtain ⟨m, rfl⟩ : ∃ m, n = m + 1 := ⟨n - 1, by omega⟩
  have hr : (Builtin.clear_ #[t] ty #[.slice (some ⟨g, lo * k, none⟩) (m + 1) c]).run P w = .ok (.tuple #[]) (w.setRow g (C.take (lo * k) ++ (Builtin.zeroCells z.cells (m + 1)).toList ++ C.drop (lo * k + (m + 1) * k)).toArray) := by
    simp [Builtin.clear_, run_underlying ht, zeroValue, typeInfo, hi, hz, hst]
  refine Yk.value (v := .tuple #[]) (w' := _) ?_ (hk _ _ hZ (setRow_heap w g C.toArray _ T (0, 0) hC) grown_setRow (by simp))
  unfold execOp
  simp only [resolve, invoke, builtin, hx, List.map_toArray, List.map_cons, List.map_nil, Sem.run_bind, hr, Result.andThen_ok, Sem.run_pure]
theorem Yk.appendMakeSB {t tn e T : TypeId} {kn kq : IntKind} {i : TypeInfo} {z : Value} (ht : P.underlying t = some (.slice e)) (htn : P.underlying tn = some (.int kn)) (hi : P.info? e = some i) (hz : i.zero = some z) (hik : i.size = k) (hzs : z.cells.size = k) (hk0 : 0 < k) (hd : SB g k 0 n c (evalR ρ s)) (hc : 0 < c) {C : List Value} (hC : w.heap[g]? = some (.cells C.toArray T (0, 0)))
    {m : Nat} (hy : evalR ρ x = .int kq (m : Int)) (hm : 0 < m) (hroom : c < n + m) (hfit : n * k ≤ C.length) (hb : (n + m) * i.bytes ≤ 140737488355328) (h63 : n + m ≤ maxLen)
    (hk : ∀ b w' cap Z, w.heap.size = b → cap ≤ maxLen → n + m ≤ cap → Z.length = cap * k - n * k → w'.heap[b]? = some (.cells (C.take (n * k) ++ Z).toArray e (0, 0)) → Ext w w' → w'.heap.size = w.heap.size + 1 → K (.slice (some ⟨b, 0, none⟩) (n + m) cap) w') :
    Yk P K ((execOp (evalR ρ) ⟨d, .call ⟨.builtin .append, #[s, x], #[t, tn]⟩, ty, pos, af, gd⟩).run P w) := by
  obtain ⟨o, hx, ho⟩ := hd
  obtain rfl : o = 0 := by rw [ho hc, Nat.zero_mul]
  subst hik
  have holds : ∀ j u, (C.take (n * i.size))[j]? = some u → w.drew.cell? ((⟨g, 0, none⟩ : Addr).add j) = some u := fun j u hu => by
    rw [List.getElem?_take] at hu
    split at hu
    · rw [Addr.add_lit, Nat.zero_add]; exact cellAt (w := w.drew) hC hu
    · cases hu
  have hl : (C.take (n * i.size)).length = n * i.size := by rw [List.length_take]; omega
  have hr := Lib.run_append_grow_zeros (P := P) w t tn ty e i z kq kn ht htn hi hz (some ⟨g, 0, none⟩) n c (C.take (n * i.size)) (run_firstCells_some w.drew i.size n ⟨g, 0, none⟩ n c _ hl holds) m hm hk0 hroom (by have := h63; simp only [maxLen] at this; omega)
    (Nat.le_trans (Nat.mul_le_mul_right _ (Nat.le_add_left m n)) (Nat.le_trans hb (by decide))) (growslice_fits hroom hb)
  have hge := grownCap_ge w (n + m) c e
  have hcm := grownCap_le_maxLen w (n + m) c e h63
  refine Yk.value (v := .slice (some ⟨w.heap.size, 0, none⟩) (n + m) (grownCap w (n + m) c e)) (w' := w.drew.alloc (.cells ((C.take (n * i.size)).toArray ++ Builtin.zeroCells z.cells m ++ Builtin.zeroCells z.cells (grownCap w (n + m) c e - (n + m))) e)) ?_
    (hk w.heap.size _ _ ((Builtin.zeroCells z.cells m).toList ++ (Builtin.zeroCells z.cells (grownCap w (n + m) c e - (n + m))).toList) rfl hcm hge ?_ ?_ (Ext.of ⟨rfl, rfl, rfl, by simp, fun k hk _ => heap_alloc_old w.drew _ hk⟩) (by simp))
  · unfold execOp
    simp only [resolve, invoke, builtin, hx, hy, List.map_toArray, List.map_cons, List.map_nil, Sem.run_bind, hr, Result.andThen_ok, Sem.run_pure]
  · rw [List.length_append, Array.length_toList, Array.length_toList, size_zeroCells, size_zeroCells, hzs, ← Nat.add_mul, ← Nat.sub_mul]
    congr 1
    omega
  · have := heap_alloc_new w.drew (.cells ((C.take (n * i.size)).toArray ++ Builtin.zeroCells z.cells m ++ Builtin.zeroCells z.cells (grownCap w (n + m) c e - (n + m))) e)
    rw [show (C.take (n * i.size) ++ ((Builtin.zeroCells z.cells m).toList ++ (Builtin.zeroCells z.cells (grownCap w (n + m) c e - (n + m))).toList)).toArray = (C.take (n * i.size)).toArray ++ Builtin.zeroCells z.cells m ++ Builtin.zeroCells z.cells (grownCap w (n + m) c e - (n + m)) from by
      apply Array.toList_inj.1
      simp]
    exact this
end
theorem overlaps_apart {P : Program} {w : World} {tS tR e : TypeId} (ht : P.underlying tS = some (.slice e)) {k : Nat} (hz : ∀ w, (Go.sizeOf e).run P w = .ok k w) {a b : Nat} {v x : Value} {lo' n' c' lo n c : Nat} (hv : SB a k lo' n' c' v) (hx : SB b k lo n c x) (hne : a ≠ b) {A B : List Value} {tA tB : TypeId}
    (hA : w.heap[a]? = some (.cells A.toArray tA (0, 0))) (hB : w.heap[b]? = some (.cells B.toArray tB (0, 0))) (h0 : B ≠ []) :
    (Extern.SlicesOverlaps.overlaps #[tS, tS] #[tR] #[v, x]).run P w = .ok (.bool false) w := by
  obtain ⟨o, rfl, -⟩ := hx
  obtain ⟨oa, rfl, -⟩ := hv
  exact Lib.run_overlaps_apart w tS tR e ht k hz ⟨a, oa, none⟩ ⟨b, o, none⟩ n' c' n c hne tA tB A.length B.length (by simp [World.shape?, hA]) (by simp [World.shape?, hB]) (by simpa using h0) (by simp [World.frozen?, hA]) (by simp [World.frozen?, hA])
open Go.RowKit
section
variable {P : Program}
theorem run_reslice_readsW {t e : TypeId} {size : Nat} (ht : P.underlying t = some (.slice e)) (he : ∀ w' : World, (sizeOf e).run P w' = .ok size w') {w : World} {v : Value} {n : Nat} {xs : List Value} (hr : Reads w size v n xs) (lo hi : Option Value) (l h : Nat) (hlh : l ≤ h) (hn : h ≤ n)
    (hlo : lo = none ∧ l = 0 ∨ ∃ k, lo = some (.int k l)) (hhi : hi = none ∧ h = n ∨ ∃ k, hi = some (.int k h)) :
    ∃ ao c, ((∀ w : World, (Instr.sliceAt t v lo hi none).run P w = .ok (.slice ao (h - l) c) w) ∧ (Value.slice ao (h - l) c).ownBlock = v.ownBlock) ∧ Reads w size (.slice ao (h - l) c) (h - l) ((xs.drop (l * size)).take ((h - l) * size)) := by
  obtain ⟨h1, ao, cap, rfl, h2, h3, h4, h5⟩ := hr
  have hE : P.elem t = e := by simp [Program.elem, ht]
  have ht' : P.underlying t = some (.slice (P.elem t)) := by rw [hE]; exact ht
  refine ⟨if cap = l then ao else ao.map (·.add (l * size)), cap - l, ⟨?_, ?_⟩, ?_, _, _, rfl, by omega, by omega, ?_, ?_⟩
  · intro w
    rw [run_sliceAt_slice (P := P) w t _ _ _ _ ht']
    have hl' : (l : Int) ≤ (h : Int) := by omega
    have hh' : (h : Int) ≤ (cap : Int) := by omega
    have hn' : (l : Int) ≤ (n : Int) := by omega
    rcases hlo with ⟨rfl, rfl⟩ | ⟨k, rfl⟩ <;> rcases hhi with ⟨rfl, rfl⟩ | ⟨k', rfl⟩
    · rw [run_slice_all (P := P) w t ao h cap ht', hE, he]
      simp [Result.andThen, sliced]
    · rw [run_slice_h (P := P) w t ao n cap ht' k' h (by omega) hh', hE, he]
      simp [Result.andThen, sliced]
    · rw [run_slice_l (P := P) w t ao h cap ht' k l (by omega) hl', hE, he]
      simp [Result.andThen, sliced]
    · rw [run_slice_lh (P := P) w t ao n cap ht' k k' l h (by omega) hl' hh', hE, he]
      simp [Result.andThen, sliced]
  · cases ao with
    | none => simp [Value.ownBlock]
    | some x =>
      split
      · rfl
      · simp only [Option.map_some, Value.ownBlock, Option.some.injEq]
        unfold Addr.add
        split <;> rfl
  · rw [List.length_take, List.length_drop, h1]
    have : (h - l) * size ≤ n * size - l * size := by rw [← Nat.sub_mul]; exact Nat.mul_le_mul_right _ (by omega)
    omega
  · intro hnone
    have : ao = none := by
      cases ao with
      | none => rfl
      | some x => split at hnone <;> simp at hnone
    obtain ⟨h6, h7⟩ := h4 this
    omega
  · intro a ha j u hu
    have hj : j < ((xs.drop (l * size)).take ((h - l) * size)).length := (List.getElem?_eq_some_iff.1 hu).1
    have hj2 : j < (h - l) * size := by rw [List.length_take] at hj; omega
    have hhl : h - l ≠ 0 := fun e => by rw [e] at hj2; simp at hj2
    rw [if_neg (by omega)] at ha
    cases ao with
    | none => simp at ha
    | some x =>
      simp at ha
      subst ha
      rw [addr_add_add]
      refine h5 x rfl _ _ ?_
      rw [List.getElem?_take, if_pos hj2, List.getElem?_drop] at hu
      exact hu
end
section
variable {P : Program} {K : Value → World → Prop} {ρ : Slots} {w w0 : World} {d : Option Tmp} {ty : TypeId} {pos : String} {af : Array Edge} {gd : Option (Nat × Bool)}
variable {α : Type} {k : Nat} {enc : α → List Value} {t e : TypeId}
theorem Yk.sliceLoW (ht : P.underlying t = some (.slice e)) (he : ∀ w' : World, (sizeOf e).run P w' = .ok k w') {x lo : Operand} {v : Value} {xs : List α} (hx : evalR ρ x = v) (h : RG k enc w0 v xs) {kd : IntKind} {l : Nat} (hlo : evalR ρ lo = .int kd (l : Int)) (hl : l ≤ xs.length)
    (hk : ∀ v', RG k enc w0 v' (xs.drop l) → v'.ownBlock = v.ownBlock → K v' w) : Yk P K ((execOp (evalR ρ) ⟨d, .slice t x (some lo) none none, ty, pos, af, gd⟩).run P w) := by
  obtain ⟨ao, c, ⟨hrun, hb⟩, hR⟩ := run_reslice_readsW ht he h.2 (some (.int kd l)) none l xs.length hl (Nat.le_refl _) (.inr ⟨kd, rfl⟩) (.inl ⟨rfl, rfl⟩)
  have hR' := RG.cut h.1 hl (Nat.le_refl _) hR
  rw [List.take_of_length_le (by rw [List.length_drop]; exact Nat.le_refl _)] at hR'
  refine Yk.value (v := .slice ao (xs.length - l) c) (w' := w) ?_ (hk _ hR' hb)
  unfold execOp
  simp only [hx, hlo, Option.map_some, Option.map_none, hrun, Sem.run_bind, Sem.run_pure, Result.andThen_ok]
end
theorem OG.block {α : Type} {b k : Nat} {t : TypeId} {enc : α → List Value} {w : World} {v : Value} {l : List α} (h : OG b t k enc w v l) {i : Nat} (hi : i < l.length) : ∃ g, v.ownBlock = some g := by
  obtain ⟨-, -, ⟨-, h⟩ | ⟨g, cap, cur, rfl, -⟩⟩ := h
  · omega
  · exact ⟨g, rfl⟩
theorem own_block {b : Nat} {t : TypeId} {w : World} {v : Value} {n z : Nat} {xs : List Value} (h : w.ownsRow b t z v n xs) {i : Nat} (hi : i < n) : ∃ g, v.ownBlock = some g := by
  obtain ⟨-, ⟨-, h⟩ | ⟨g, cap, cur, rfl, -⟩⟩ := h
  · omega
  · exact ⟨g, rfl⟩
section
variable {P : Program} {K : Value → World → Prop} {ρ : Slots} {w : World} {d : Option Tmp} {ty : TypeId} {pos : String} {af : Array Edge} {gd : Option (Nat × Bool)}
theorem Yk.atOwnK {k : Nat} {t e : TypeId} (ht : P.underlying t = some (.slice e)) (he : ∀ w' : World, (sizeOf e).run P w' = .ok k w') {b n g : Nat} {xs : List Value} {e' : TypeId} {v : Value} {x y : Operand} (hx : evalR ρ x = v) (h : w.ownsRow b e' k v n xs) (hg : v.ownBlock = some g) {kd : IntKind} {i : Nat} (hy : evalR ρ y = .int kd (i : Int)) (hi : i < n)
    (hk : K (PQ g (i * k)) w) : Yk P K ((execOp (evalR ρ) ⟨d, .indexAddr t x y, ty, pos, af, gd⟩).run P w) := by
  obtain ⟨-, ⟨-, h0⟩ | ⟨g', cap, cur, rfl, -⟩⟩ := h
  · omega
  · obtain rfl : g' = g := by simpa [Value.ownBlock] using hg
    refine Yk.value (v := PQ g' (i * k)) (w' := w) ?_ hk
    have hE : P.elem t = e := by simp [Program.elem, ht]
    have hr := run_indexAt_slice (P := P) w t ⟨g', 0, none⟩ n cap kd (i : Int) (by rw [hE]; exact ht)
    rw [if_pos (by omega), hE, he] at hr
    unfold execOp
    simp only [hx, hy, Sem.run_bind, hr, Result.andThen_ok, Sem.run_pure]
    simp [Addr.add_lit]
end
open Go.RowKit
section
variable {P : Program} {K : Value → World → Prop} {ρ : Slots} {w : World} {d : Option Tmp} {ty : TypeId} {pos : String} {af : Array Edge} {gd : Option (Nat × Bool)}
theorem Yk.gtSt {t ty2 : TypeId} {x y : Operand} {l m : List UInt8} (hx : evalR ρ x = St l) (hy : evalR ρ y = St m) (hk : K (.bool (!(Op.bytesLess l m || l == m))) w) : Yk P K ((execOp (evalR ρ) ⟨d, .binOp .gtr t x y ty2, ty, pos, af, gd⟩).run P w) := by
  refine Yk.value (v := .bool (!(Op.bytesLess l m || l == m))) (w' := w) ?_ hk
  unfold execOp
  simp only [hx, hy, eqGuard, Go.binOp, Op.stringOp, ba_list, Sem.run_bind, Sem.run_pure]
  rfl
end
def cmpN (a b : List UInt8) : Int := if Op.bytesLess a b = true then -1 else if (!(Op.bytesLess a b || a == b)) = true then 1 else 0
theorem cmpN_neg {a b : List UInt8} : cmpN a b < 0 ↔ a < b := by
  unfold cmpN
  rw [bytesLess_eq]
  by_cases h : a < b
  · simp [h]
  · simp only [h, decide_false, Bool.false_eq_true, if_false, iff_false]
    split <;> omega
theorem cmpN_zero {a b : List UInt8} : cmpN a b = 0 ↔ a = b := by
  unfold cmpN
  rw [bytesLess_eq]
  by_cases h : a < b
  · simp only [h, decide_true, if_true]
    constructor
    · intro e; omega
    · rintro rfl; exact absurd h (List.lt_irrefl _)
  · simp only [h, decide_false, Bool.false_eq_true, if_false, Bool.false_or]
    by_cases e : a = b
    · subst e; simp
    · simp [e]
def sortN (l : List Nmd) : Prop := ∀ i j, i < j → j < l.length → (l.getD i dNmd).name < (l.getD j dNmd).name
def placeAt (l : List Nmd) (s : List UInt8) (p : Nat) : Prop := p ≤ l.length ∧ (∀ j, j < p → (l.getD j dNmd).name < s) ∧ (∀ j, p ≤ j → j < l.length → ¬ (l.getD j dNmd).name < s)
theorem place_low {l : List Nmd} {s : List UInt8} {m : Nat} (hs : sortN l) (hm : m < l.length) (h : (l.getD m dNmd).name < s) : ∀ j, j < m + 1 → (l.getD j dNmd).name < s := fun j hj => by
  by_cases e : j = m
  · rw [e]; exact h
  · exact List.lt_trans (hs j m (by omega) hm) h
theorem place_high {l : List Nmd} {s : List UInt8} {m : Nat} (hs : sortN l) (h : ¬ (l.getD m dNmd).name < s) : ∀ j, m ≤ j → j < l.length → ¬ (l.getD j dNmd).name < s := fun j hj hl hk => by
  by_cases e : m = j
  · subst e; exact h hk
  · exact h (List.lt_trans (hs m j (by omega) hl) hk)
open Go.RowKit
set_option maxRecDepth 100000
theorem wr29_fo70_0 : FieldOff Tryd.prog 70 0 0 := fun b o w => by simp [go_sem]
theorem wr29_ty9 : Tryd.prog.underlying 9 = some (.string) := by kernel_rfl
theorem wr29_ty51 : Tryd.prog.underlying 51 = some (.slice 70) := by kernel_rfl
theorem wr29_ty3 : Tryd.prog.underlying 3 = some (.int .i64) := by kernel_rfl
theorem wr29_ty171 : Tryd.prog.underlying 171 = some (.int .u64) := by kernel_rfl
theorem wr29_szg70 : ∀ w' : World, (sizeOf 70).run Tryd.prog w' = .ok 33 w' := fun _ => by kernel_rfl
theorem wr29_ty70 : ∃ fs, Tryd.prog.underlying 70 = some (.struct fs) := struct_of (by kernel_rfl)
theorem wr29_isz70 : (Tryd.prog.info? 70).map (·.size) = some 33 := by kernel_rfl
theorem wr29_pl128 : Plain Tryd.prog 128 := fun _ _ => by kernel_rfl
set_option maxHeartbeats 1600000
theorem placeCmp_any (w : World) (n : Nmd) (s : Bs) :
  Calls Tryd.prog 128 #[.agg (nmdC n).toArray, St s] w fun e w' => e = .returned (.int .i64 (cmpN n.name s)) ∧ Ext w w' := by
 refine calls_of_wpF (args := [.agg (nmdC n).toArray, St (s)]) Tryd.func128 rfl 15 rfl (Nat.le_of_ble_eq_true rfl) ?_
 intro ρ0 hb
 have T0 : ρ0 0 = (.agg (nmdC n).toArray : Value) := hb.get 0
 have T1 : ρ0 1 = (St (s) : Value) := hb.get 1
 clear hb
 have hE := Ext.refl w
 refine sk fun K1 hK1 => (wt (oS rfl (Yk.box (cs := (nmdC n : List Value).toArray) T0 fun n2 w3 hn4 hb5 hx6 hs7 => ?_)))
 have hE := hE.trans hx6
 have hb8 := hb5; clear hb5
 have hl9 : n2 < w3.heap.size := by omega
 refine oA rfl (oZ (tN (hK1 _ _ (sk fun K10 hK10 => (wpF_block (sk fun K11 hK11 => (wt (oS rfl (Yk.fieldAt wr29_fo70_0 (vr (PQ n2 0) rfl) (oS rfl (Yk.cell1 wr29_ty9 rfl (vr (PQ n2 0) rfl) (cellAt hb8 (show (nmdC n)[0]? = some (St (n.name) : Value) from nmd_g0 n)) (oM rfl (oS rfl (Yk.ltSt (l := n.name) (m := s) (.inl rfl) (vr (St (n.name)) rfl) T1 (Op.bytesLess n.name s) rfl (oA rfl (oZ (tN (hK11 _ _ ?_))))))))))))))))))
 refine wpF_condB (Op.bytesLess n.name s) (vr (.bool (Op.bytesLess n.name s)) rfl) (fun hc0 => ?_) (fun hc0 => ?_)
 ·refine sk fun K12 hK12 => (wt (oA rfl (oZ (tN (hK12 _ _ (wpF_ret (inBlockF_ret (thenF_ret (postF_ret (fn := Tryd.f128) _ rfl [.int .i64 (-1 : Int)] (.int .i64 (-1 : Int)) rfl ⟨rfl, trivial⟩ ?_)))))))))
  exact ⟨congrArg Ending.returned (congrArg (Value.int .i64) (by unfold cmpN; (rw [if_pos hc0]) <;> rfl)), hE⟩
 refine sk fun K13 hK13 => (wt (oS rfl (Yk.fieldAt wr29_fo70_0 (vr (PQ n2 0) rfl) (oS rfl (Yk.cell1 wr29_ty9 rfl (vr (PQ n2 0) rfl) (cellAt hb8 (show (nmdC n)[0]? = some (St (n.name) : Value) from nmd_g0 n)) (oM rfl (oS rfl (Yk.gtSt (l := n.name) (m := s) (vr (St (n.name)) rfl) T1 (oA rfl (oZ (tN (hK13 _ _ ?_))))))))))))
 refine wpF_condB (!(Op.bytesLess n.name s || n.name == s)) (vr (.bool (!(Op.bytesLess n.name s || n.name == s))) rfl) (fun hc1 => ?_) (fun hc1 => ?_)
 ·refine sk fun K14 hK14 => (wt (oA rfl (oZ (tN (hK14 _ _ (wpF_ret (inBlockF_ret (thenF_ret (postF_ret (fn := Tryd.f128) _ rfl [NI 1] (NI 1) rfl ⟨rfl, trivial⟩ ?_)))))))))
  exact ⟨congrArg Ending.returned (congrArg (Value.int .i64) (by unfold cmpN; (rw [if_neg (by rw [hc0]; decide), if_pos hc1]) <;> rfl)), hE⟩
 refine wpF_skip (bN (tN (hK10 _ _ (sk fun K15 hK15 => (wt (oA rfl (oZ (tN (hK15 _ _ (wpF_ret (postF_ret (fn := Tryd.f128) _ rfl [NI 0] (NI 0) rfl ⟨rfl, trivial⟩ ?_)))))))))))
 exact ⟨congrArg Ending.returned (congrArg (Value.int .i64) (by unfold cmpN; (rw [if_neg (by rw [hc0]; decide), if_neg (by rw [hc1]; decide)]) <;> rfl)), hE⟩

theorem search_any (w : World) (v : Value) (l : List Nmd) (hr : RG 33 nmdC w v l) (hl : l.length ≤ 1000) (hs : sortN l) (s : Bs) :
  Calls Tryd.prog 127 #[v, St s, .func (.func 128) #[] #[]] w fun e w' => (∃ p, e = .returned (.tuple #[NI p, .bool (decide (p < l.length) && decide ((cmpN (l.getD p dNmd).name s) = ((0 : Nat) : Int)))]) ∧ placeAt l s p) ∧ Ext w w' := by
 refine calls_of_wpF (args := [v, St (s), .func (.func 128) #[] #[]]) Tryd.func127 rfl 49 rfl (Nat.le_of_ble_eq_true rfl) ?_
 intro ρ0 hb
 have T0 : ρ0 0 = (v : Value) := hb.get 0
 have T1 : ρ0 1 = (St (s) : Value) := hb.get 1
 have T2 : ρ0 2 = (.func (.func 128) #[] #[] : Value) := hb.get 2
 clear hb
 have hE := Ext.refl w
 refine sk fun K1 hK1 => (wt (oA rfl (oA rfl (oZ (tN (hK1 _ _ (sk fun K2 hK2 => (wt (oM rfl (oS rfl (Yk.lenRG wr29_ty51 (RG.of hr T0) (oA rfl (oZ (tN (hK2 _ _ (sk fun K3 hK3 => (wt (oM rfl ?_))))))))))))))))))
 refine oA rfl (oA rfl (oL_ [(0, v), (1, St (s)), (2, .func (.func 128) #[] #[]), (6, NI 0), (7, .bool (false)), (8, NI l.length), (9, NI 0), (10, NI l.length)] ⟨T0, T1, T2, rfl, rfl, rfl, rfl, rfl, trivial⟩ fun ρ4 ⟨T0, T1, T2, T6, T7, T8, T9, T10, _⟩ => (tN (hK3 _ _ (sk fun K5 hK5 => (wpF_block (wpF_loop (fun (ρ : Slots) (wz : World) => ∃ i : Nat, ∃ k : Nat, ρ 0 = (v : Value) ∧ ρ 1 = (St (s) : Value) ∧ ρ 2 = (.func (.func 128) #[] #[] : Value) ∧ ρ 6 = (NI 0 : Value) ∧ ρ 7 = (.bool (false) : Value) ∧ ρ 8 = (NI l.length : Value) ∧ ρ 9 = (NI i : Value) ∧ ρ 10 = (NI k : Value) ∧ RG 33 nmdC wz v l ∧ Ext w wz ∧ (i ≤ k) ∧ (k ≤ l.length) ∧ (∀ j, j < i → (l.getD j dNmd).name < s) ∧ (∀ j, k ≤ j → j < l.length → ¬ (l.getD j dNmd).name < s) ∧ True) (fun ρ _ => (intOf (ρ 10)).toNat - (intOf (ρ 9)).toNat) ⟨0, l.length, T0, T1, T2, T6, T7, T8, T9, T10, hr, hE, Nat.zero_le _, Nat.le_refl _, fun j hj => absurd hj (Nat.not_lt_zero _), fun j h1 h2 => by omega, trivial⟩ ?_)))))))
 clear hr hE
 rintro ρ6 w7 ⟨i, k, T0, T1, T2, T6, T7, T8, T9, T10, hr, hE, hik, hkl, hlo, hhi, -⟩
 have q10 := T10
 have q9 := T9
 refine sk fun K8 hK8 => (sk fun K9 hK9 => (wt (oM rfl (oM rfl (oS rfl (Yk.eqI (a := (i : Nat)) (b := (k : Nat)) T9 T10 (k_lss _ _ _ _) (oZ (tN (hK9 _ _ ?_)))))))))
 refine wpF_cond ((i) < (k)) (vr (.bool (decide ((i) < (k)))) rfl) (fun hc0 => ?_) (fun hc0 => ?_)
 ·have hlt : i < k := hc0
  have hm0 : ((i + k) / 2 ^ (1)) < l.length := by omega
  refine wpF_skip (tN (hK8 _ _ (wpF_block (sk fun K10 hK10 => (wt (oM rfl (oM rfl (oS rfl (Yk.bin (xv := NI i) (yv := NI k) T9 T10 rfl (i64_add _ _ _ (by omega)) (oS rfl (Yk.convI wr29_ty3 wr29_ty171 (vr (NI ((i) + (k))) rfl) (wrap_u64 ((i) + (k)) (by omega)) (oS rfl (Yk.bin (xv := .int .u64 (((i) + (k) : Nat) : Int)) (yv := .int .u64 ((1 : Nat) : Int)) rfl rfl rfl (u64_shr _ _ _ _ (by omega)) (oS rfl (Yk.convI wr29_ty171 wr29_ty3 (vr (.int .u64 ((((i) + (k)) / 2 ^ (1) : Nat) : Int)) rfl) (wrap_i64 (((i) + (k)) / 2 ^ (1)) (by omega)) (oA rfl (oZ (tN (hK10 _ _ (sk fun K11 hK11 => (wt ?_)))))))))))))))))))))
  refine oM rfl (oM rfl (oM rfl ?_))
  have hl14 : (nmdC (l.getD (((i) + (k)) / 2 ^ (1)) dNmd)).length = 33 := (RG.elem hr dNmd (by omega))
  refine oS rfl (Yk.atRG wr29_ty51 wr29_szg70 (by decide) dNmd (RG.of hr T0) (vr (NI (((i) + (k)) / 2 ^ (1))) rfl) (by omega) fun v12 hp13 => (oS rfl (Yk.loadPR (PR.of hp13 (vr v12 rfl)) (wr29_ty70).choose_spec rfl (by rw [nmd_len]; exact wr29_isz70) (oM rfl (oS rfl (Yk.clo wr29_pl128 (caps := #[]) T2 #[.agg (nmdC (l.getD (((i) + (k)) / 2 ^ (1)) dNmd)).toArray, St (s)] (by simp only [List.map_toArray, List.map_cons, List.map_nil, List.append_toArray, List.cons_append, List.nil_append]; exact congrArg List.toArray (list2 (vr (.agg (nmdC (l.getD (((i) + (k)) / 2 ^ (1)) dNmd)).toArray) rfl) T1)) ((placeCmp_any _ (l.getD (((i) + (k)) / 2 ^ (1)) dNmd) s).mono ?_)))))))
  rintro e w16 ⟨rfl, hx15⟩
  refine ⟨_, rfl, ?_⟩
  have hr := hr.keep hx15
  have hE := hE.trans hx15
  have hp13 := PR.keep hp13 hx15
  refine oS rfl (Yk.eqI (vr (.int .i64 ((cmpN (l.getD (((i) + (k)) / 2 ^ (1)) dNmd).name s) : Int)) rfl) (vr (NI 0) rfl) (z_lss _ .i64 ((cmpN (l.getD (((i) + (k)) / 2 ^ (1)) dNmd).name s) : Int) ((0 : Nat) : Int)) (oZ ?_))
  clear hp13
  refine tN (hK11 _ _ ?_)
  refine wpF_cond (((cmpN (l.getD (((i) + (k)) / 2 ^ (1)) dNmd).name s) : Int) < ((0 : Nat) : Int)) (vr (.bool (decide (((cmpN (l.getD (((i) + (k)) / 2 ^ (1)) dNmd).name s) : Int) < ((0 : Nat) : Int)))) rfl) (fun hc1 => ?_) (fun hc1 => ?_)
  ·refine wt (oM rfl (oS rfl (Yk.bin (xv := NI (((i) + (k)) / 2 ^ (1))) (yv := NI 1) rfl rfl rfl (i64_add _ _ _ (by omega)) (oA rfl (oL_ [(0, v), (1, St (s)), (2, .func (.func 128) #[] #[]), (6, NI 0), (7, .bool (false)), (8, NI l.length), (9, NI ((((i) + (k)) / 2 ^ (1)) + (1))), (10, NI k), (11, NI (((i) + (k)) / 2 ^ (1)))] ⟨T0, T1, T2, T6, T7, T8, rfl, T10, rfl, trivial⟩ fun ρ17 ⟨T0, T1, T2, T6, T7, T8, T9, T10, T11, _⟩ => (bN (tN (And.intro ⟨((i + k) / 2 ^ (1)) + 1, k, T0, T1, T2, T6, T7, T8, T9, T10, hr, hE, by omega, by omega, place_low hs (by omega) (cmpN_neg.1 hc1), hhi, trivial⟩ ?_))))))))
   show (intOf (ρ17 10)).toNat - (intOf (ρ17 9)).toNat < (intOf (ρ6 10)).toNat - (intOf (ρ6 9)).toNat
   rw [T10, T9, q10, q9]
   simp only [intOf, Int.toNat_natCast]; omega
  refine wt (oM rfl (oA rfl (oL_ [(0, v), (1, St (s)), (2, .func (.func 128) #[] #[]), (6, NI 0), (7, .bool (false)), (8, NI l.length), (9, NI i), (10, NI (((i) + (k)) / 2 ^ (1))), (11, NI (((i) + (k)) / 2 ^ (1)))] ⟨T0, T1, T2, T6, T7, T8, T9, rfl, rfl, trivial⟩ fun ρ18 ⟨T0, T1, T2, T6, T7, T8, T9, T10, T11, _⟩ => (bN (tN (And.intro ⟨i, ((i + k) / 2 ^ (1)), T0, T1, T2, T6, T7, T8, T9, T10, hr, hE, by omega, by omega, hlo, place_high hs (fun h => hc1 (cmpN_neg.2 h)), trivial⟩ ?_))))))
  show (intOf (ρ18 10)).toNat - (intOf (ρ18 9)).toNat < (intOf (ρ6 10)).toNat - (intOf (ρ6 9)).toNat
  rw [T10, T9, q10, q9]
  simp only [intOf, Int.toNat_natCast]; omega
 refine wpF_exit (thenF_exit (thenF_exit (inBlockF_hit (tN (hK5 _ _ (sk fun K19 hK19 => (wt (oM rfl (oM rfl (oM rfl (oS rfl (Yk.eqI (a := (i : Nat)) (b := (l.length : Nat)) T9 T8 (k_lss _ _ _ _) (oM rfl (opsF_mayV (.func (.func 128) #[] #[]) rfl rfl (gT (vr (.bool (decide ((i) < (l.length)))) rfl)) (fun hG20 => Yk.move T2 ⟨rfl, rfl⟩) (opsF_mayV (v) rfl rfl (gT (vr (.bool (decide ((i) < (l.length)))) rfl)) (fun hG21 => Yk.move T0 ⟨rfl, rfl⟩) (opsF_mayV (NI i) rfl rfl (gT (vr (.bool (decide ((i) < (l.length)))) rfl)) (fun hG22 => Yk.move T9 ⟨rfl, rfl⟩) ?_))))))))))))))))
 have hl26 : ((decide ((i) < (l.length)))) = true → (nmdC (l.getD (i) dNmd)).length = 33 := fun hG23 => (RG.elem hr dNmd (by simp only [gA, gB, gC, gD, gE] at hG23; omega))
 refine opsF_mayX (fun v24 => PR (nmdC (l.getD (i) dNmd)) v24 w7) rfl rfl (gT (vr (.bool (decide ((i) < (l.length)))) rfl)) (fun hG23 => Yk.atRG wr29_ty51 wr29_szg70 (by decide) dNmd (RG.of hr (mayT (vr (cond ((decide ((i) < (l.length)))) (v) undef) rfl) hG23)) (mayT (vr (cond ((decide ((i) < (l.length)))) (NI i) undef) rfl) hG23) (by simp only [gA, gB, gC, gD, gE] at hG23; omega) fun _ h => ⟨h, rfl⟩) fun v24 hp25 => (opsF_mayV (.agg (nmdC (l.getD (i) dNmd)).toArray) rfl rfl (gT (vr (.bool (decide ((i) < (l.length)))) rfl)) (fun hG27 => Yk.loadPR (PR.of (hp25 hG27) (vr v24 rfl)) (wr29_ty70).choose_spec rfl (by rw [nmd_len]; exact wr29_isz70) ⟨rfl, rfl⟩) (opsF_mayV (St (s)) rfl rfl (gT (vr (.bool (decide ((i) < (l.length)))) rfl)) (fun hG28 => Yk.move T1 ⟨rfl, rfl⟩) (opsF_mayC (.int .i64 ((cmpN (l.getD (i) dNmd).name s) : Int)) rfl rfl (gT (vr (.bool (decide ((i) < (l.length)))) rfl)) (fun hG29 => Yk.clo wr29_pl128 (caps := #[]) (mayT (vr (cond ((decide ((i) < (l.length)))) (.func (.func 128) #[] #[]) undef) rfl) hG29) #[.agg (nmdC (l.getD (i) dNmd)).toArray, St (s)] (by simp only [List.map_toArray, List.map_cons, List.map_nil, List.append_toArray, List.cons_append, List.nil_append]; exact congrArg List.toArray (list2 (mayT (vr (cond ((decide ((i) < (l.length)))) (.agg (nmdC (l.getD (i) dNmd)).toArray) undef) rfl) hG29) (mayT (vr (cond ((decide ((i) < (l.length)))) (St (s)) undef) rfl) hG29))) ((placeCmp_any _ (l.getD (i) dNmd) s).mono (by rintro e w2 ⟨rfl, hx⟩; exact ⟨_, rfl, rfl, hx⟩))) fun w31 hx32 => ?_)))
 have hp25 := fun (e_ : ((decide ((i) < (l.length)))) = true) => (PR.keep (hp25 e_) hx32)
 have hr := hr.keep hx32
 have hE := hE.trans hx32
 refine opsF_mayV (.bool (decide (((cmpN (l.getD (i) dNmd).name s) : Int) = ((0 : Nat) : Int)))) rfl rfl (gT (vr (.bool (decide ((i) < (l.length)))) rfl)) (fun hG33 => Yk.eqI (mayT (vr (cond ((decide ((i) < (l.length)))) (.int .i64 ((cmpN (l.getD (i) dNmd).name s) : Int)) undef) rfl) hG33) (vr (NI 0) rfl) (z_eql _ .i64 ((cmpN (l.getD (i) dNmd).name s) : Int) ((0 : Nat) : Int)) ⟨rfl, rfl⟩) (oS rfl (Yk.pickAndN (vr (.bool (decide ((i) < (l.length)))) rfl) (fun hA => (mayT (vr (cond ((decide ((i) < (l.length)))) (.bool (decide (((cmpN (l.getD (i) dNmd).name s) : Int) = ((0 : Nat) : Int)))) undef) rfl) hA)) (vr (.bool (false)) rfl) fun bb34 hbb35 => (oA rfl (oA rfl (oZ ?_)))))
 clear hp25
 refine tN (hK19 _ _ (wpF_ret (postF_ret (fn := Tryd.f127) _ rfl [NI i, .bool (bb34)] (.tuple #[NI i, .bool (bb34)]) rfl ⟨T9, rfl, trivial⟩ ?_)))
 subst hbb35
 exact ⟨⟨i, rfl, by omega, hlo, fun j hj => hhi j (by omega)⟩, hE⟩
open Go.RowKit
section
variable {P : Program} {K : Value → World → Prop} {ρ : Slots} {w : World} {d : Option Tmp} {ty : TypeId} {pos : String} {af : Array Edge} {gd : Option (Nat × Bool)}
theorem run_slNil {t e : TypeId} (ht : P.underlying t = some (.slice e)) (a : Option Addr) (n c : Nat) (w : World) : (Op.equal t (.slice a n c) (.slice none 0 0)).run P w = .ok a.isNone w := by
  unfold Op.equal
  rw [show Op.maxDepth = (Op.maxDepth - 1) + 1 from rfl]
  cases a <;> simp [Op.equalIn, run_underlying ht, Sem.run_bind, Sem.run_pure]
theorem Yk.eqlNilSl {t e ty2 : TypeId} (ht : P.underlying t = some (.slice e)) {x : Operand} {a : Option Addr} {n c : Nat} (hx : evalR ρ x = .slice a n c) (hk : K (.bool a.isNone) w) : Yk P K ((execOp (evalR ρ) ⟨d, .binOp .eql t x (.const (.slice none 0 0)) ty2, ty, pos, af, gd⟩).run P w) := by
  have hy : evalR ρ (.const (.slice none 0 0)) = .slice none 0 0 := rfl
  refine Yk.value (v := .bool a.isNone) (w' := w) ?_ hk
  have hr := run_slNil ht a n c w
  unfold execOp
  simp only [hx, hy]
  cases a <;> simp [eqGuard, Go.binOp, hr]
end
open Go.RowKit
set_option maxRecDepth 100000
def uE1 (u : Upd) : Bool := (decide (u.kind.toNat = 2) && (!zeroB u.old)) && (!zeroB u.new)
def uE2 (u : Upd) : Bool := decide (u.kind.toNat = 3) && ((!zeroB u.old) || (decide (u.name = []) == zeroB u.new))
def uE3 (u : Upd) : Bool := (!nameB u.name) && (decide (u.kind.toNat ≠ 3) || decide (u.name ≠ []))
def updErr (u : Upd) : Nat := if (!kindB u.kind) = true then 1 else if uE1 u = true then 1 else if uE2 u = true then 1 else if uE3 u = true then 10 else 0
def foundN (l : List Nmd) (s : Bs) (p : Nat) : Bool := decide (p < l.length) && decide ((l.getD p dNmd).name = s)
theorem found_eq (l : List Nmd) (s : Bs) (p : Nat) : (decide (p < l.length) && decide ((cmpN (l.getD p dNmd).name s) = ((0 : Nat) : Int))) = foundN l s p := by
 unfold foundN
 rw [show decide ((cmpN (l.getD p dNmd).name s) = ((0 : Nat) : Int)) = decide ((l.getD p dNmd).name = s) from decide_eq_decide.2 cmpN_zero]
theorem wr30_ty51 : Tryd.prog.underlying 51 = some (.slice 70) := by kernel_rfl
theorem wr30_l0_51 (w : World) : (Instr.buildSlice 51 0 #[]).run Tryd.prog w = .ok (.slice (some ⟨w.heap.size, 0, none⟩) 0 0) (w.alloc (.cells #[] 70)) := by kernel_rfl
theorem wr30_ig70 : ∃ z, (Tryd.prog.info? 70).map (fun i => (i.zero, i.size, i.bytes)) = some (some z, 33, 48) ∧ z.cells.size = 33 := info_ex (by kernel_rfl)
theorem wr30_ty47 : Tryd.prog.underlying 47 = some (.slice 122) := by kernel_rfl
theorem wr30_l0_47 (w : World) : (Instr.buildSlice 47 0 #[]).run Tryd.prog w = .ok (.slice (some ⟨w.heap.size, 0, none⟩) 0 0) (w.alloc (.cells #[] 122)) := by kernel_rfl
theorem wr30_ig122 : ∃ z, (Tryd.prog.info? 122).map (fun i => (i.zero, i.size, i.bytes)) = some (some z, 67, 104) ∧ z.cells.size = 67 := info_ex (by kernel_rfl)
theorem wr30_pl127 : Plain Tryd.prog 127 := fun _ _ => by kernel_rfl
theorem wr30_fo67_0 : FieldOff Tryd.prog 67 0 0 := fun b o w => by simp [go_sem]
theorem wr30_ty5 : Tryd.prog.underlying 5 = some (.int .u8) := by kernel_rfl
theorem wr30_pl84 : Plain Tryd.prog 84 := fun _ _ => by kernel_rfl
theorem wr30_fo67_2 : FieldOff Tryd.prog 67 2 2 := fun b o w => by simp [go_sem]
theorem wr30_ty25 : Tryd.prog.underlying 25 = some (.array 32 5) := by kernel_rfl
theorem wr30_pl83 : Plain Tryd.prog 83 := fun _ _ => by kernel_rfl
theorem wr30_fo67_3 : FieldOff Tryd.prog 67 3 34 := fun b o w => by simp [go_sem]
theorem wr30_fo67_1 : FieldOff Tryd.prog 67 1 1 := fun b o w => by simp [go_sem]
theorem wr30_ty9 : Tryd.prog.underlying 9 = some (.string) := by kernel_rfl
theorem wr30_ty4 : Tryd.prog.underlying 4 = some (.bool) := by kernel_rfl
theorem wr30_pl59 : Plain Tryd.prog 59 := fun _ _ => by kernel_rfl
set_option maxHeartbeats 1600000
theorem cloneNmdN (w : World) :
  Calls Tryd.prog 74 #[(.slice none 0 0)] w fun e w' => ∃ v', e = .returned v' ∧ OG w.heap.size 70 33 nmdC w' v' [] ∧ Ext w w' := by
 refine calls_of_wpF (args := [(.slice none 0 0)]) Tryd.func74 rfl 8 rfl (Nat.le_of_ble_eq_true rfl) ?_
 intro ρ0 hb
 have T0 : ρ0 0 = ((.slice none 0 0) : Value) := hb.get 0
 clear hb
 have hE := Ext.refl w
 refine sk fun K1 hK1 => (wt (oA rfl (oZ (tN (hK1 _ _ (sk fun K2 hK2 => (sk fun K3 hK3 => (wt (oM rfl (oS rfl (Yk.eqlNilSl wr30_ty51 T0 (oZ (tN (hK3 _ _ (wpF_true (vr (.bool (true)) rfl) (sk fun K4 hK4 => (wt (oA rfl ?_))))))))))))))))))
 refine oZ (tN (hK4 _ _ (wpF_ret (thenF_ret (postF_ret (fn := Tryd.f74) _ rfl [(Value.slice none 0 0)] ((Value.slice none 0 0)) rfl ⟨rfl, trivial⟩ ?_)))))
 exact ⟨_, rfl, OG.nil _ _ _ _ _, hE⟩

theorem cloneNmdS (w : World) (a : Addr) (c : Nat) (l : List Nmd) (hr : RG 33 nmdC w (.slice (some a) l.length c) l) (hl : l.length < 1000000) :
  Calls Tryd.prog 74 #[(.slice (some a) l.length c)] w fun e w' => ∃ v', e = .returned v' ∧ OG w.heap.size 70 33 nmdC w' v' l ∧ Ext w w' := by
 refine calls_of_wpF (args := [(.slice (some a) l.length c)]) Tryd.func74 rfl 8 rfl (Nat.le_of_ble_eq_true rfl) ?_
 intro ρ0 hb
 have T0 : ρ0 0 = ((.slice (some a) l.length c) : Value) := hb.get 0
 clear hb
 have hE := Ext.refl w
 refine sk fun K1 hK1 => (wt (oA rfl (oZ (tN (hK1 _ _ (sk fun K2 hK2 => (sk fun K3 hK3 => (wt (oM rfl (oS rfl (Yk.eqlNilSl wr30_ty51 T0 (oZ (tN (hK3 _ _ (wpF_false (vr (.bool (false)) rfl) (wpF_skip (tN (hK2 _ _ (sk fun K4 hK4 => ?_)))))))))))))))))))
 refine wt (oS rfl (Yk.lit0G (k := 33) (enc := nmdC) wr30_l0_51 fun v5 w6 ho7 hx8 => ?_))
 have hE := hE.trans hx8
 refine oM rfl (oS rfl (Yk.appendRG _ _ w.heap.size _ 48 wr30_ty51 wr30_ig70.choose_spec.1 wr30_ig70.choose_spec.2 wr30_ty51 ([]) (l) (OG.of ho7 (vr v5 rfl)) (RG.of (hr.keep hE) T0) (fun _ _ => nmd_one) (by simp only [List.length_nil]; omega) (by simp only [List.length_nil]; omega) hE.size fun v9 w10 ho11 hg12 => ?_))
 have hg12 : Grew w6 w10 v5 v9 := hg12
 have hE := ext_grew hE hg12 ho7.2 (Nat.le_refl _)
 clear ho7
 refine oA rfl (oZ (tN (hK4 _ _ (wpF_ret (postF_ret (fn := Tryd.f74) _ rfl [v9] (v9) rfl ⟨rfl, trivial⟩ ?_)))))
 exact ⟨_, rfl, (show OG _ _ _ _ _ _ _ from by simpa using ho11), hE⟩

theorem cloneNmd_any (w : World) (v : Value) (l : List Nmd) (h : RG 33 nmdC w v l) (hl : l.length < 1000000) :
  Calls Tryd.prog 74 #[v] w fun e w' => ∃ v', e = .returned v' ∧ OG w.heap.size 70 33 nmdC w' v' l ∧ Ext w w' := by
 obtain ⟨h0, h1, ao, cap, rfl, h2, h3, h4, h5⟩ := id h
 cases ao with
 | none =>
  have hl := h4 rfl
  have : l = [] := List.eq_nil_of_length_eq_zero hl.1
  subst this
  rw [show cap = 0 from hl.2]
  exact cloneNmdN w
 | some a => exact cloneNmdS w a cap l h hl

theorem cloneEntN (w : World) :
  Calls Tryd.prog 75 #[(.slice none 0 0)] w fun e w' => ∃ v', e = .returned v' ∧ OG w.heap.size 122 67 entC w' v' [] ∧ Ext w w' := by
 refine calls_of_wpF (args := [(.slice none 0 0)]) Tryd.func75 rfl 8 rfl (Nat.le_of_ble_eq_true rfl) ?_
 intro ρ0 hb
 have T0 : ρ0 0 = ((.slice none 0 0) : Value) := hb.get 0
 clear hb
 have hE := Ext.refl w
 refine sk fun K1 hK1 => (wt (oA rfl (oZ (tN (hK1 _ _ (sk fun K2 hK2 => (sk fun K3 hK3 => (wt (oM rfl (oS rfl (Yk.eqlNilSl wr30_ty47 T0 (oZ (tN (hK3 _ _ (wpF_true (vr (.bool (true)) rfl) (sk fun K4 hK4 => (wt (oA rfl ?_))))))))))))))))))
 refine oZ (tN (hK4 _ _ (wpF_ret (thenF_ret (postF_ret (fn := Tryd.f75) _ rfl [(Value.slice none 0 0)] ((Value.slice none 0 0)) rfl ⟨rfl, trivial⟩ ?_)))))
 exact ⟨_, rfl, OG.nil _ _ _ _ _, hE⟩

theorem cloneEntS (w : World) (a : Addr) (c : Nat) (l : List Ent) (hr : RG 67 entC w (.slice (some a) l.length c) l) (hl : l.length < 1000000) :
  Calls Tryd.prog 75 #[(.slice (some a) l.length c)] w fun e w' => ∃ v', e = .returned v' ∧ OG w.heap.size 122 67 entC w' v' l ∧ Ext w w' := by
 refine calls_of_wpF (args := [(.slice (some a) l.length c)]) Tryd.func75 rfl 8 rfl (Nat.le_of_ble_eq_true rfl) ?_
 intro ρ0 hb
 have T0 : ρ0 0 = ((.slice (some a) l.length c) : Value) := hb.get 0
 clear hb
 have hE := Ext.refl w
 refine sk fun K1 hK1 => (wt (oA rfl (oZ (tN (hK1 _ _ (sk fun K2 hK2 => (sk fun K3 hK3 => (wt (oM rfl (oS rfl (Yk.eqlNilSl wr30_ty47 T0 (oZ (tN (hK3 _ _ (wpF_false (vr (.bool (false)) rfl) (wpF_skip (tN (hK2 _ _ (sk fun K4 hK4 => ?_)))))))))))))))))))
 refine wt (oS rfl (Yk.lit0G (k := 67) (enc := entC) wr30_l0_47 fun v5 w6 ho7 hx8 => ?_))
 have hE := hE.trans hx8
 refine oM rfl (oS rfl (Yk.appendRG _ _ w.heap.size _ 104 wr30_ty47 wr30_ig122.choose_spec.1 wr30_ig122.choose_spec.2 wr30_ty47 ([]) (l) (OG.of ho7 (vr v5 rfl)) (RG.of (hr.keep hE) T0) (fun _ _ => ent_one) (by simp only [List.length_nil]; omega) (by simp only [List.length_nil]; omega) hE.size fun v9 w10 ho11 hg12 => ?_))
 have hg12 : Grew w6 w10 v5 v9 := hg12
 have hE := ext_grew hE hg12 ho7.2 (Nat.le_refl _)
 clear ho7
 refine oA rfl (oZ (tN (hK4 _ _ (wpF_ret (postF_ret (fn := Tryd.f75) _ rfl [v9] (v9) rfl ⟨rfl, trivial⟩ ?_)))))
 exact ⟨_, rfl, (show OG _ _ _ _ _ _ _ from by simpa using ho11), hE⟩

theorem cloneEnt_any (w : World) (v : Value) (l : List Ent) (h : RG 67 entC w v l) (hl : l.length < 1000000) :
  Calls Tryd.prog 75 #[v] w fun e w' => ∃ v', e = .returned v' ∧ OG w.heap.size 122 67 entC w' v' l ∧ Ext w w' := by
 obtain ⟨h0, h1, ao, cap, rfl, h2, h3, h4, h5⟩ := id h
 cases ao with
 | none =>
  have hl := h4 rfl
  have : l = [] := List.eq_nil_of_length_eq_zero hl.1
  subst this
  rw [show cap = 0 from hl.2]
  exact cloneEntN w
 | some a => exact cloneEntS w a cap l h hl

theorem place_any (w : World) (v : Value) (l : List Nmd) (hr : RG 33 nmdC w v l) (hl : l.length ≤ 1000) (hs : sortN l) (s : Bs) :
  Calls Tryd.prog 88 #[v, St s] w fun e w' => (∃ p, e = .returned (.tuple #[NI p, .bool (foundN l s p)]) ∧ placeAt l s p) ∧ Ext w w' := by
 refine calls_of_wpF (args := [v, St (s)]) Tryd.func88 rfl 11 rfl (Nat.le_of_ble_eq_true rfl) ?_
 intro ρ0 hb
 have T0 : ρ0 0 = (v : Value) := hb.get 0
 have T1 : ρ0 1 = (St (s) : Value) := hb.get 1
 clear hb
 have hE := Ext.refl w
 refine sk fun K1 hK1 => (wt (oA rfl (oA rfl (oZ (tN (hK1 _ _ (sk fun K2 hK2 => (wt (oM rfl (oM rfl (oS rfl (Yk.callA3 wr30_pl127 T0 T1 rfl ((search_any _ v l hr hl hs s).mono ?_)))))))))))))
 rintro e w4 ⟨⟨p, rfl, hp⟩, hx3⟩
 refine ⟨_, rfl, ?_⟩
 have hr := hr.keep hx3
 have hE := hE.trans hx3
 refine oS rfl (Yk.extract (vs := [NI p, .bool ((decide (p < l.length) && decide ((cmpN (l.getD p dNmd).name s) = ((0 : Nat) : Int))))]) (vr (.tuple #[NI p, .bool ((decide (p < l.length) && decide ((cmpN (l.getD p dNmd).name s) = ((0 : Nat) : Int))))]) rfl) (show _ = some (NI p : Value) from rfl) (oS rfl (Yk.extract (vs := [NI p, .bool ((decide (p < l.length) && decide ((cmpN (l.getD p dNmd).name s) = ((0 : Nat) : Int))))]) (vr (.tuple #[NI p, .bool ((decide (p < l.length) && decide ((cmpN (l.getD p dNmd).name s) = ((0 : Nat) : Int))))]) rfl) (show _ = some (.bool ((decide (p < l.length) && decide ((cmpN (l.getD p dNmd).name s) = ((0 : Nat) : Int)))) : Value) from rfl) (oA rfl (oA rfl (oZ (tN (hK2 _ _ (wpF_ret (postF_ret (fn := Tryd.f88) _ rfl [NI p, .bool ((decide (p < l.length) && decide ((cmpN (l.getD p dNmd).name s) = ((0 : Nat) : Int))))] (.tuple #[NI p, .bool ((decide (p < l.length) && decide ((cmpN (l.getD p dNmd).name s) = ((0 : Nat) : Int))))]) rfl ⟨rfl, rfl, trivial⟩ ?_))))))))))
 exact ⟨⟨p, by rw [← found_eq], hp⟩, hE⟩

theorem update_any (w : World) (y : Upd) (hl : y.name.length ≤ 9223372036854775807) :
  Calls Tryd.prog 77 #[.agg (updC y).toArray] w fun e w' => e = .returned (NI (updErr y)) ∧ Ext w w' := by
 refine calls_of_wpF (args := [.agg (updC y).toArray]) Tryd.func77 rfl 56 rfl (Nat.le_of_ble_eq_true rfl) ?_
 intro ρ0 hb
 have T0 : ρ0 0 = (.agg (updC y).toArray : Value) := hb.get 0
 clear hb
 have hE := Ext.refl w
 refine sk fun K1 hK1 => (wt (oS rfl (Yk.box (cs := (updC y : List Value).toArray) T0 fun n2 w3 hn4 hb5 hx6 hs7 => ?_)))
 have hE := hE.trans hx6
 have hb8 := hb5; clear hb5
 have hl9 : n2 < w3.heap.size := by omega
 refine oA rfl (oZ (tN (hK1 _ _ (sk fun K10 hK10 => (wpF_block (sk fun K11 hK11 => (sk fun K12 hK12 => (wt (oS rfl (Yk.fieldAt wr30_fo67_0 (vr (PQ n2 0) rfl) (oS rfl (Yk.cell1 wr30_ty5 rfl (vr (PQ n2 0) rfl) (cellAt hb8 (show (updC y)[0]? = some (B8 (y.kind) : Value) from upd_g0 y)) (oS rfl (Yk.callA1 wr30_pl84 (vr (B8 (y.kind)) rfl) ((fkind_any _ y.kind).mono ?_)))))))))))))))
 rintro e w14 ⟨rfl, hx13⟩
 refine ⟨_, rfl, ?_⟩
 have hE := hE.trans hx13
 have hb8 := eb hx13 hb8
 refine oS rfl (Yk.notB (vr (.bool (kindB y.kind)) rfl) (oA rfl (oZ (tN (hK12 _ _ ?_)))))
 refine wpF_condB (!(kindB y.kind)) (vr (.bool (!(kindB y.kind))) rfl) (fun hc0 => ?_) (fun hc0 => ?_)
 ·have h0c : (!kindB y.kind) = true := hc0
  refine wpF_skip (tN (hK11 _ _ (wpF_true (vr (.bool (true)) ((show _ = Value.bool ((!kindB y.kind)) from rfl).trans (congrArg Value.bool h0c))) (sk fun K15 hK15 => (wt (oA rfl (oZ (tN (hK15 _ _ (wpF_ret (inBlockF_ret (thenF_ret (postF_ret (fn := Tryd.f77) _ rfl [NI 1] (NI 1) rfl ⟨rfl, trivial⟩ ?_)))))))))))))
  exact ⟨by unfold updErr; rw [if_pos h0c], hE⟩
 have h0c : (!kindB y.kind) = false := hc0
 refine sk fun K16 hK16 => (wt (oS rfl (Yk.fieldAt wr30_fo67_0 (vr (PQ n2 0) rfl) (oS rfl (Yk.cell1 wr30_ty5 rfl (vr (PQ n2 0) rfl) (cellAt hb8 (show (updC y)[0]? = some (B8 (y.kind) : Value) from upd_g0 y)) (oS rfl (Yk.eqI (a := ((y.kind).toNat : Nat)) (b := (2 : Nat)) rfl rfl (k_eql _ _ _ _) (oM rfl (opsF_mayV (PQ n2 2) rfl rfl (gT (vr (.bool (decide (((y.kind).toNat : Nat) = (2)))) rfl)) (fun hG17 => Yk.fieldAt wr30_fo67_2 (vr (PQ n2 0) rfl) ⟨rfl, rfl⟩) (opsF_mayV (AB y.old.1) rfl rfl (gT (vr (.bool (decide (((y.kind).toNat : Nat) = (2)))) rfl)) (fun hG18 => Yk.loadPR (PR.blk hb8 (upd_m2 y) (upd_n2 y) (mayT (vr (cond ((decide (((y.kind).toNat : Nat) = (2)))) (PQ n2 2) undef) rfl) hG18)) wr30_ty25 rfl (sizeId_of y.old.2) ⟨rfl, rfl⟩) (opsF_mayC (.bool (zeroB y.old)) rfl rfl (gT (vr (.bool (decide (((y.kind).toNat : Nat) = (2)))) rfl)) (fun hG19 => Yk.callA1 wr30_pl83 (mayT (vr (cond ((decide (((y.kind).toNat : Nat) = (2)))) (AB y.old.1) undef) rfl) hG19) ((fzero_any _ y.old).mono (by rintro e w2 ⟨rfl, hx⟩; exact ⟨_, rfl, rfl, hx⟩))) fun w21 hx22 => ?_)))))))))))
 have hE := hE.trans hx22
 have hb8 := eb hx22 hb8
 refine opsF_mayV (.bool (!(zeroB y.old))) rfl rfl (gT (vr (.bool (decide (((y.kind).toNat : Nat) = (2)))) rfl)) (fun hG23 => Yk.notB (mayT (vr (cond ((decide (((y.kind).toNat : Nat) = (2)))) (.bool (zeroB y.old)) undef) rfl) hG23) ⟨rfl, rfl⟩) (oS rfl (Yk.pickAndN (vr (.bool (decide (((y.kind).toNat : Nat) = (2)))) rfl) (fun hA => (mayT (vr (cond ((decide (((y.kind).toNat : Nat) = (2)))) (.bool (!(zeroB y.old))) undef) rfl) hA)) (vr (.bool (false)) rfl) fun bb24 hbb25 => (oM rfl (opsF_mayV (PQ n2 34) rfl rfl (gT (vr (.bool (bb24)) rfl)) (fun hG26 => Yk.fieldAt wr30_fo67_3 (vr (PQ n2 0) rfl) ⟨rfl, rfl⟩) (opsF_mayV (AB y.new.1) rfl rfl (gT (vr (.bool (bb24)) rfl)) (fun hG27 => Yk.loadPR (PR.blk hb8 (upd_m3 y) (upd_n3 y) (mayT (vr (cond (bb24) (PQ n2 34) undef) rfl) hG27)) wr30_ty25 rfl (sizeId_of y.new.2) ⟨rfl, rfl⟩) (opsF_mayC (.bool (zeroB y.new)) rfl rfl (gT (vr (.bool (bb24)) rfl)) (fun hG28 => Yk.callA1 wr30_pl83 (mayT (vr (cond (bb24) (AB y.new.1) undef) rfl) hG28) ((fzero_any _ y.new).mono (by rintro e w2 ⟨rfl, hx⟩; exact ⟨_, rfl, rfl, hx⟩))) fun w30 hx31 => ?_))))))
 have hE := hE.trans hx31
 have hb8 := eb hx31 hb8
 refine opsF_mayV (.bool (!(zeroB y.new))) rfl rfl (gT (vr (.bool (bb24)) rfl)) (fun hG32 => Yk.notB (mayT (vr (cond (bb24) (.bool (zeroB y.new)) undef) rfl) hG32) ⟨rfl, rfl⟩) (oS rfl (Yk.pickAndN (vr (.bool (bb24)) rfl) (fun hA => (mayT (vr (cond (bb24) (.bool (!(zeroB y.new))) undef) rfl) hA)) (vr (.bool (false)) rfl) fun bb33 hbb34 => (oA rfl (oZ (tN (hK16 _ _ ?_))))))
 refine wpF_condB (bb33) (vr (.bool (bb33)) rfl) (fun hc1 => ?_) (fun hc1 => ?_)
 ·subst hbb25 hbb34
  have h1c : uE1 y = true := hc1
  refine wpF_skip (tN (hK11 _ _ (wpF_true (vr (.bool (true)) ((show _ = Value.bool (uE1 y) from rfl).trans (congrArg Value.bool h1c))) (sk fun K35 hK35 => (wt (oA rfl (oZ (tN (hK35 _ _ (wpF_ret (inBlockF_ret (thenF_ret (postF_ret (fn := Tryd.f77) _ rfl [NI 1] (NI 1) rfl ⟨rfl, trivial⟩ ?_)))))))))))))
  exact ⟨by unfold updErr; rw [if_neg (by rw [h0c]; decide), if_pos h1c], hE⟩
 subst hbb25 hbb34
 have h1c : uE1 y = false := hc1
 refine wpF_draw [Is (PQ n2 0), Is (B8 (y.kind)), Is (.bool (decide (((y.kind).toNat : Nat) = (3)))), Is (.bool (decide (((y.kind).toNat : Nat) = (3)))), Is (cond ((decide (((y.kind).toNat : Nat) = (3)))) (PQ n2 2) undef), Is (cond ((decide (((y.kind).toNat : Nat) = (3)))) (AB y.old.1) undef), Is (cond ((decide (((y.kind).toNat : Nat) = (3)))) (.bool (zeroB y.old)) undef), Is (cond ((decide (((y.kind).toNat : Nat) = (3)))) (.bool (!(zeroB y.old))) undef), Is (cond ((decide (((y.kind).toNat : Nat) = (3)))) (.bool (!(zeroB y.old))) undef), Is (cond ((decide (((y.kind).toNat : Nat) = (3))) && !(!(zeroB y.old))) (PQ n2 1) undef), Is (cond ((decide (((y.kind).toNat : Nat) = (3))) && !(!(zeroB y.old))) (St (y.name)) undef), Is (cond ((decide (((y.kind).toNat : Nat) = (3))) && !(!(zeroB y.old))) (.bool (decide ((y.name : List UInt8) = (([] : List UInt8) : List UInt8)))) undef), Is (cond ((decide (((y.kind).toNat : Nat) = (3))) && !(!(zeroB y.old))) (PQ n2 34) undef), Is (cond ((decide (((y.kind).toNat : Nat) = (3))) && !(!(zeroB y.old))) (AB y.new.1) undef), Is (cond ((decide (((y.kind).toNat : Nat) = (3))) && !(!(zeroB y.old))) (.bool (zeroB y.new)) undef), Is (cond ((decide (((y.kind).toNat : Nat) = (3))) && !(!(zeroB y.old))) (.bool ((decide ((y.name : List UInt8) = (([] : List UInt8) : List UInt8))) == (zeroB y.new))) undef), Is (cond ((decide (((y.kind).toNat : Nat) = (3)))) (.bool ((!(zeroB y.old)) || ((decide ((y.name : List UInt8) = (([] : List UInt8) : List UInt8))) == (zeroB y.new)))) undef), Is (.bool ((decide (((y.kind).toNat : Nat) = (3))) && ((!(zeroB y.old)) || ((decide ((y.name : List UInt8) = (([] : List UInt8) : List UInt8))) == (zeroB y.new))))), Is (.bool ((decide (((y.kind).toNat : Nat) = (3))) && ((!(zeroB y.old)) || ((decide ((y.name : List UInt8) = (([] : List UInt8) : List UInt8))) == (zeroB y.new)))))] (by kernel_rfl) [23, 24, 25, 26, 27, 28, 29, 30, 31, 32, 33, 34, 35, 36, 37, 38, 39, 40, 3] (by kernel_rfl) (by kernel_rfl) (si7 (si12 trivial)) ?hs1003 ?hQ1003
 case hs1003 =>
  refine ⟨?_, ?_, ?_, ?_, ?_, ?_, ?_, ?_, ?_, ?_, ?_, ?_, ?_, ?_, ?_, ?_, ?_, ?_, ?_, trivial⟩
  ·refine stepN rfl fun σ w1 hC h => ?_
   have e1 : σ 1 = PQ n2 0 := (eqo (h 1 (by decide))).trans rfl
   exact Yk.fieldAt wr30_fo67_0 e1 ⟨Ext.refl _, rfl⟩
  ·refine stepN rfl fun σ w1 hC h => ?_
   have e23 := eqo (h 23 (by decide))
   exact Yk.cell1 wr30_ty5 rfl e23 (cellAt (eb hC hb8) (show (updC y)[0]? = some (B8 (y.kind) : Value) from upd_g0 y)) ⟨Ext.refl _, rfl⟩
  ·refine stepN rfl fun σ w1 hC h => ?_
   have e24 := eqo (h 24 (by decide))
   exact Yk.eqI (a := ((y.kind).toNat : Nat)) (b := (3 : Nat)) e24 rfl (k_eql _ _ _ _) ⟨Ext.refl _, rfl⟩
  ·refine stepN rfl fun σ w1 hC h => ?_
   have e25 := eqo (h 25 (by decide))
   exact Yk.move e25 ⟨Ext.refl _, rfl⟩
  ·refine stepM 3 true 26 (G := (decide (((y.kind).toNat : Nat) = (3)))) rfl rfl (fun x _ (h : x = .bool (decide (((y.kind).toNat : Nat) = (3)))) => gT h) (fun hu_ _ => mayU hu_) fun hG σ w1 hC h => ?_
   have e1 : σ 1 = PQ n2 0 := (eqo (h 1 (by decide))).trans rfl
   exact Yk.fieldAt wr30_fo67_2 e1 ⟨Ext.refl _, mayI hG⟩
  ·refine stepM 3 true 26 (G := (decide (((y.kind).toNat : Nat) = (3)))) rfl rfl (fun x _ (h : x = .bool (decide (((y.kind).toNat : Nat) = (3)))) => gT h) (fun hu_ _ => mayU hu_) fun hG σ w1 hC h => ?_
   have e27 := eqo (h 27 (by decide))
   exact Yk.loadPR (PR.blk (eb hC hb8) (upd_m2 y) (upd_n2 y) (mayT e27 hG)) wr30_ty25 rfl (sizeId_of y.old.2) ⟨Ext.refl _, mayI hG⟩
  ·refine stepM 3 true 26 (G := (decide (((y.kind).toNat : Nat) = (3)))) rfl rfl (fun x _ (h : x = .bool (decide (((y.kind).toNat : Nat) = (3)))) => gT h) (fun hu_ _ => mayU hu_) fun hG σ w1 hC h => ?_
   have e28 := eqo (h 28 (by decide))
   refine Yk.callA1 wr30_pl83 (mayT e28 hG) ((fzero_any _ y.old).mono ?_)
   rintro e w2 ⟨rfl, hx⟩
   exact ⟨_, rfl, hx, mayI hG⟩
  ·refine stepM 3 true 26 (G := (decide (((y.kind).toNat : Nat) = (3)))) rfl rfl (fun x _ (h : x = .bool (decide (((y.kind).toNat : Nat) = (3)))) => gT h) (fun hu_ _ => mayU hu_) fun hG σ w1 hC h => ?_
   have e29 := eqo (h 29 (by decide))
   exact Yk.notB (mayT e29 hG) ⟨Ext.refl _, mayI hG⟩
  ·refine stepM 3 true 26 (G := (decide (((y.kind).toNat : Nat) = (3)))) rfl rfl (fun x _ (h : x = .bool (decide (((y.kind).toNat : Nat) = (3)))) => gT h) (fun hu_ _ => mayU hu_) fun hG σ w1 hC h => ?_
   have e30 := eqo (h 30 (by decide))
   exact Yk.move (mayT e30 hG) ⟨Ext.refl _, mayI hG⟩
  ·refine stepM 8 false 31 (G := (decide (((y.kind).toNat : Nat) = (3))) && !(!(zeroB y.old))) rfl rfl (fun x _ (h : x = cond ((decide (((y.kind).toNat : Nat) = (3)))) (.bool (!(zeroB y.old))) undef) => geF h) (fun hu_ _ => mayU hu_) fun hG σ w1 hC h => ?_
   have e1 : σ 1 = PQ n2 0 := (eqo (h 1 (by decide))).trans rfl
   exact Yk.fieldAt wr30_fo67_1 e1 ⟨Ext.refl _, mayI hG⟩
  ·refine stepM 8 false 31 (G := (decide (((y.kind).toNat : Nat) = (3))) && !(!(zeroB y.old))) rfl rfl (fun x _ (h : x = cond ((decide (((y.kind).toNat : Nat) = (3)))) (.bool (!(zeroB y.old))) undef) => geF h) (fun hu_ _ => mayU hu_) fun hG σ w1 hC h => ?_
   have e32 := eqo (h 32 (by decide))
   exact Yk.cell1 wr30_ty9 rfl (mayT e32 hG) (cellAt (eb hC hb8) (show (updC y)[1]? = some (St (y.name) : Value) from upd_g1 y)) ⟨Ext.refl _, mayI hG⟩
  ·refine stepM 8 false 31 (G := (decide (((y.kind).toNat : Nat) = (3))) && !(!(zeroB y.old))) rfl rfl (fun x _ (h : x = cond ((decide (((y.kind).toNat : Nat) = (3)))) (.bool (!(zeroB y.old))) undef) => geF h) (fun hu_ _ => mayU hu_) fun hG σ w1 hC h => ?_
   have e33 := eqo (h 33 (by decide))
   exact Yk.eqSt (l := y.name) (m := ([] : List UInt8)) (.inl rfl) (mayT e33 hG) (vr (St (([] : List UInt8))) rfl) (decide ((y.name : List UInt8) = (([] : List UInt8) : List UInt8))) rfl ⟨Ext.refl _, mayI hG⟩
  ·refine stepM 8 false 31 (G := (decide (((y.kind).toNat : Nat) = (3))) && !(!(zeroB y.old))) rfl rfl (fun x _ (h : x = cond ((decide (((y.kind).toNat : Nat) = (3)))) (.bool (!(zeroB y.old))) undef) => geF h) (fun hu_ _ => mayU hu_) fun hG σ w1 hC h => ?_
   have e1 : σ 1 = PQ n2 0 := (eqo (h 1 (by decide))).trans rfl
   exact Yk.fieldAt wr30_fo67_3 e1 ⟨Ext.refl _, mayI hG⟩
  ·refine stepM 8 false 31 (G := (decide (((y.kind).toNat : Nat) = (3))) && !(!(zeroB y.old))) rfl rfl (fun x _ (h : x = cond ((decide (((y.kind).toNat : Nat) = (3)))) (.bool (!(zeroB y.old))) undef) => geF h) (fun hu_ _ => mayU hu_) fun hG σ w1 hC h => ?_
   have e35 := eqo (h 35 (by decide))
   exact Yk.loadPR (PR.blk (eb hC hb8) (upd_m3 y) (upd_n3 y) (mayT e35 hG)) wr30_ty25 rfl (sizeId_of y.new.2) ⟨Ext.refl _, mayI hG⟩
  ·refine stepM 8 false 31 (G := (decide (((y.kind).toNat : Nat) = (3))) && !(!(zeroB y.old))) rfl rfl (fun x _ (h : x = cond ((decide (((y.kind).toNat : Nat) = (3)))) (.bool (!(zeroB y.old))) undef) => geF h) (fun hu_ _ => mayU hu_) fun hG σ w1 hC h => ?_
   have e36 := eqo (h 36 (by decide))
   refine Yk.callA1 wr30_pl83 (mayT e36 hG) ((fzero_any _ y.new).mono ?_)
   rintro e w2 ⟨rfl, hx⟩
   exact ⟨_, rfl, hx, mayI hG⟩
  ·refine stepM 8 false 31 (G := (decide (((y.kind).toNat : Nat) = (3))) && !(!(zeroB y.old))) rfl rfl (fun x _ (h : x = cond ((decide (((y.kind).toNat : Nat) = (3)))) (.bool (!(zeroB y.old))) undef) => geF h) (fun hu_ _ => mayU hu_) fun hG σ w1 hC h => ?_
   have e34 := eqo (h 34 (by decide))
   have e37 := eqo (h 37 (by decide))
   exact Yk.eqBool (a := decide ((y.name : List UInt8) = (([] : List UInt8) : List UInt8))) (b := zeroB y.new) wr30_ty4 (mayT e34 hG) (mayT e37 hG) ⟨Ext.refl _, mayI hG⟩
  ·refine stepM 3 true 26 (G := (decide (((y.kind).toNat : Nat) = (3)))) rfl rfl (fun x _ (h : x = .bool (decide (((y.kind).toNat : Nat) = (3)))) => gT h) (fun hu_ _ => mayU hu_) fun hG σ w1 hC h => ?_
   have e31 := eqo (h 31 (by decide))
   have e38 := eqo (h 38 (by decide))
   exact Yk.pickOr (mayT e31 hG) (vr (.bool (true)) rfl) (fun hA => (mayT e38 (and_i hG (not_i hA)))) ⟨Ext.refl _, mayI hG⟩
  ·refine stepN rfl fun σ w1 hC h => ?_
   have e26 := eqo (h 26 (by decide))
   have e39 := eqo (h 39 (by decide))
   exact Yk.pickAnd e26 (fun hA => (mayT e39 hA)) (vr (.bool (false)) rfl) ⟨Ext.refl _, rfl⟩
  ·refine stepN rfl fun σ w1 hC h => ?_
   have e40 := eqo (h 40 (by decide))
   exact Yk.assign e40 ⟨Ext.refl _, rfl⟩
 intro ρ36 w37 hx38 he hf
 obtain ⟨-, -, -, -, -, -, -, -, -, -, -, -, -, -, -, -, -, -, k3, -⟩ := hf
 obtain ⟨T0, T1, T2, -⟩ := he.hold [(0, _), (1, PQ n2 0), (2, NI 0)] ⟨T0, rfl, rfl, trivial⟩ rfl
 clear he
 have hE := hE.trans hx38
 have hb8 := eb hx38 hb8
 have T3 : ρ36 3 = .bool ((decide (((y.kind).toNat : Nat) = (3))) && ((!(zeroB y.old)) || ((decide ((y.name : List UInt8) = (([] : List UInt8) : List UInt8))) == (zeroB y.new)))) := k3
 clear k3
 refine tN (hK11 _ _ ?_)
 refine wpF_condB ((decide (((y.kind).toNat : Nat) = (3))) && ((!(zeroB y.old)) || ((decide ((y.name : List UInt8) = (([] : List UInt8) : List UInt8))) == (zeroB y.new)))) T3 (fun hc2 => ?_) (fun hc2 => ?_)
 ·have h2c : uE2 y = true := hc2
  refine sk fun K39 hK39 => (wt (oA rfl (oZ (tN (hK39 _ _ (wpF_ret (inBlockF_ret (thenF_ret (postF_ret (fn := Tryd.f77) _ rfl [NI 1] (NI 1) rfl ⟨rfl, trivial⟩ ?_)))))))))
  exact ⟨by unfold updErr; rw [if_neg (by rw [h0c]; decide), if_neg (by rw [h1c]; decide), if_pos h2c], hE⟩
 have h2c : uE2 y = false := hc2
 refine sk fun K40 hK40 => (wt (oS rfl (Yk.fieldAt wr30_fo67_1 T1 (oS rfl (Yk.cell1 wr30_ty9 rfl (vr (PQ n2 1) rfl) (cellAt hb8 (show (updC y)[1]? = some (St (y.name) : Value) from upd_g1 y)) (oS rfl (Yk.callA1 wr30_pl59 (vr (St (y.name)) rfl) ((name_any _ y.name hl).mono ?_))))))))
 rintro e w42 ⟨rfl, hx41⟩
 refine ⟨_, rfl, ?_⟩
 have hE := hE.trans hx41
 have hb8 := eb hx41 hb8
 refine oS rfl (Yk.notB (vr (.bool (nameB y.name)) rfl) (oM rfl (opsF_mayV (PQ n2 0) rfl rfl (gT (vr (.bool (!(nameB y.name))) rfl)) (fun hG43 => Yk.fieldAt wr30_fo67_0 T1 ⟨rfl, rfl⟩) (opsF_mayV (B8 (y.kind)) rfl rfl (gT (vr (.bool (!(nameB y.name))) rfl)) (fun hG44 => Yk.cell1 wr30_ty5 rfl (mayT (vr (cond ((!(nameB y.name))) (PQ n2 0) undef) rfl) hG44) (cellAt hb8 (show (updC y)[0]? = some (B8 (y.kind) : Value) from upd_g0 y)) ⟨rfl, rfl⟩) (opsF_mayV (.bool (decide (((y.kind).toNat : Nat) ≠ (3)))) rfl rfl (gT (vr (.bool (!(nameB y.name))) rfl)) (fun hG45 => Yk.eqI (a := (((y.kind).toNat : Nat) : Int)) (b := ((3 : Nat) : Int)) (mayT (vr (cond ((!(nameB y.name))) (B8 (y.kind)) undef) rfl) hG45) (vr (B8 (3)) rfl) (k_neq _ .u8 ((y.kind).toNat) (3)) ⟨rfl, rfl⟩) (opsF_mayV (.bool (decide (((y.kind).toNat : Nat) ≠ (3)))) rfl rfl (gT (vr (.bool (!(nameB y.name))) rfl)) (fun hG46 => Yk.move (mayT (vr (cond ((!(nameB y.name))) (.bool (decide (((y.kind).toNat : Nat) ≠ (3)))) undef) rfl) hG46) ⟨rfl, rfl⟩) (opsF_mayV (PQ n2 1) rfl rfl (geF (vr (cond ((!(nameB y.name))) (.bool (decide (((y.kind).toNat : Nat) ≠ (3)))) undef) rfl)) (fun hG47 => Yk.fieldAt wr30_fo67_1 T1 ⟨rfl, rfl⟩) (opsF_mayV (St (y.name)) rfl rfl (geF (vr (cond ((!(nameB y.name))) (.bool (decide (((y.kind).toNat : Nat) ≠ (3)))) undef) rfl)) (fun hG48 => Yk.cell1 wr30_ty9 rfl (mayT (vr (cond ((!(nameB y.name)) && !(decide (((y.kind).toNat : Nat) ≠ (3)))) (PQ n2 1) undef) rfl) hG48) (cellAt hb8 (show (updC y)[1]? = some (St (y.name) : Value) from upd_g1 y)) ⟨rfl, rfl⟩) (opsF_mayV (.bool (decide ((y.name : List UInt8) ≠ (([] : List UInt8) : List UInt8)))) rfl rfl (geF (vr (cond ((!(nameB y.name))) (.bool (decide (((y.kind).toNat : Nat) ≠ (3)))) undef) rfl)) (fun hG49 => Yk.eqSt (l := y.name) (m := ([] : List UInt8)) (.inr rfl) (mayT (vr (cond ((!(nameB y.name)) && !(decide (((y.kind).toNat : Nat) ≠ (3)))) (St (y.name)) undef) rfl) hG49) (vr (St (([] : List UInt8))) rfl) (decide ((y.name : List UInt8) ≠ (([] : List UInt8) : List UInt8))) rfl ⟨rfl, rfl⟩) (opsF_mayB ((decide (((y.kind).toNat : Nat) ≠ (3))) || (decide ((y.name : List UInt8) ≠ (([] : List UInt8) : List UInt8)))) rfl rfl (gT (vr (.bool (!(nameB y.name))) rfl)) (fun hG50 => Yk.pickOr (mayT (vr (cond ((!(nameB y.name))) (.bool (decide (((y.kind).toNat : Nat) ≠ (3)))) undef) rfl) hG50) (vr (.bool (true)) rfl) (fun hA => (mayT (vr (cond ((!(nameB y.name)) && !(decide (((y.kind).toNat : Nat) ≠ (3)))) (.bool (decide ((y.name : List UInt8) ≠ (([] : List UInt8) : List UInt8)))) undef) rfl) (and_i hG50 (not_i hA)))) ⟨rfl, rfl⟩) fun bb51 hbb52 => (oS rfl (Yk.pickAndN (vr (.bool (!(nameB y.name))) rfl) (fun hA => (mayT (vr (cond ((!(nameB y.name))) (.bool (bb51)) undef) rfl) hA)) (vr (.bool (false)) rfl) fun bb53 hbb54 => (oA rfl (oZ (tN (hK40 _ _ ?_))))))))))))))))
 refine wpF_condB (bb53) (vr (.bool (bb53)) rfl) (fun hc3 => ?_) (fun hc3 => ?_)
 ·subst hbb52 hbb54
  have h3c : uE3 y = true := hc3
  refine sk fun K55 hK55 => (wt (oA rfl (oZ (tN (hK55 _ _ (wpF_ret (inBlockF_ret (thenF_ret (postF_ret (fn := Tryd.f77) _ rfl [NI 10] (NI 10) rfl ⟨rfl, trivial⟩ ?_)))))))))
  exact ⟨by unfold updErr; rw [if_neg (by rw [h0c]; decide), if_neg (by rw [h1c]; decide), if_neg (by rw [h2c]; decide), if_pos h3c], hE⟩
 subst hbb52 hbb54
 have h3c : uE3 y = false := hc3
 refine wpF_skip (bN (tN (hK10 _ _ (sk fun K56 hK56 => (wt (oA rfl (oZ (tN (hK56 _ _ (wpF_ret (postF_ret (fn := Tryd.f77) _ rfl [NI 0] (NI 0) rfl ⟨rfl, trivial⟩ ?_)))))))))))
 exact ⟨by unfold updErr; rw [if_neg (by rw [h0c]; decide), if_neg (by rw [h1c]; decide), if_neg (by rw [h2c]; decide), if_neg (by rw [h3c]; decide)], hE⟩
open Go.RowKit
set_option maxRecDepth 100000
theorem rowInfo : ∃ i z, Tryd.prog.info? 70 = some i ∧ i.size = 33 ∧ i.bytes = 48 ∧ i.zero = some z ∧ z.cells.size = 33 ∧ ∀ u ∈ z.cells.toList, u.oneCell' = true := row_info (by kernel_rfl)
section
variable {A X D R : List Value} {i j : Nat}
theorem cut_mid (hA : A.length = i) (hX : X.length = 33) (hD : D.length = j) : ((A ++ X ++ D ++ R).drop (i + 33)).take j = D := by
 rw [List.append_assoc, List.drop_left' (by rw [List.length_append, hA, hX]), List.take_left' hD]
theorem cut_at2 (hA : A.length = i) (hD : D.length = j) : ((A ++ D ++ R).drop i).take j = D := by rw [List.append_assoc, List.drop_left' hA, List.take_left' hD]
theorem cut_hole {C : List Value} {m : Nat} (hm : i ≤ m) (hC : C.take i = A) : C.take m = A ++ (C.take m).drop i := by rw [← hC, show C.take i = (C.take m).take i by rw [List.take_take, Nat.min_eq_left hm], List.take_append_drop]
theorem cut_fill (hA : A.length = i) (hX : X.length = 33) {Y : List Value} : (A ++ X ++ R).take i ++ Y ++ (A ++ X ++ R).drop (i + 1 * 33) = A ++ Y ++ R := by rw [List.drop_left' (by rw [List.length_append]; omega), List.append_assoc A X R, List.take_left' hA]
theorem overlaps_any {w : World} {a b : Nat} {v x : Value} {lo' n' c' lo n c : Nat} (hv : SB a 33 lo' n' c' v) (hx : SB b 33 lo n c x) (hne : a ≠ b) {A B : List Value} {tA tB : TypeId} (hA : w.heap[a]? = some (.cells A.toArray tA (0, 0))) (hB : w.heap[b]? = some (.cells B.toArray tB (0, 0))) (h0 : B ≠ []) :
  (callFunc 175 #[v, x]).run Tryd.prog w = .ok (.value (.bool false)) w := by
 rw [run_callFunc_extern (e := Extern.SlicesOverlaps.overlaps #[51, 51] #[4]) Tryd.func175 (by kernel_rfl) (by kernel_rfl) (by kernel_rfl) (by kernel_rfl), overlaps_apart (e := 70) rfl (fun _ => by kernel_rfl) hv hx hne hA hB h0]
 rfl
theorem take_pre3 (hA : A.length = i) : (A ++ X ++ D ++ R).take i = A := by rw [List.append_assoc, List.append_assoc, List.take_left' hA]
theorem take_pre2 (h : (A ++ D).length = i) : (A ++ D ++ R).take i = A ++ D := List.take_left' h
end
theorem wr32_ty51 : Tryd.prog.underlying 51 = some (.slice 70) := by kernel_rfl
theorem wr32_szg70 : ∀ w' : World, (sizeOf 70).run Tryd.prog w' = .ok 33 w' := fun _ => by kernel_rfl
theorem wr32_ty3 : Tryd.prog.underlying 3 = some (.int .i64) := by kernel_rfl
theorem wr32_ig70 : ∃ z, (Tryd.prog.info? 70).map (fun i => (i.zero, i.size, i.bytes)) = some (some z, 33, 48) ∧ z.cells.size = 33 := info_ex (by kernel_rfl)
set_option maxHeartbeats 1600000
theorem delete_blk (w : World) (v : Value) (g c i j : Nat) (A X D R : List Value) (hA : A.length = i * 33) (hX : X.length = 33) (hD : D.length = j * 33) (hv : SB g 33 0 (i + 1 + j) c v) (hC : w.heap[g]? = some (.cells (A ++ X ++ D ++ R).toArray 70 (0, 0))) (hL : (A ++ X ++ D ++ R).length = c * 33) (hc : i + 1 + j ≤ c) (hm : c ≤ maxLen) (h1 : ∀ u ∈ D, u.oneCell' = true) :
  Calls Tryd.prog 163 #[v, NI i, NI (i + 1)] w fun e w' => ∃ R', e = .returned (.slice (some ⟨g, 0, none⟩) (i + j) c) ∧ w'.heap[g]? = some (.cells (A ++ D ++ R').toArray 70 (0, 0)) ∧ (A ++ D ++ R').length = c * 33 ∧ w.grownBy w' (some g) := by
 obtain ⟨ri, rz, ri1, ri2, ri3, ri4, ri5, ri6⟩ := rowInfo
 have hgr : w.grownBy w (some g) := ⟨rfl, rfl, rfl, Nat.le_refl _, fun _ _ _ => rfl⟩
 have hgl := (bl hC)
 unfold maxLen at hm
 refine calls_of_wpF (args := [v, NI i, NI (i + 1)]) Tryd.func163 rfl 33 rfl (Nat.le_of_ble_eq_true rfl) ?_
 intro ρ0 hb
 have T0 : ρ0 0 = (v : Value) := hb.get 0
 have T1 : ρ0 1 = (NI i : Value) := hb.get 1
 have T2 : ρ0 2 = (NI (i + 1) : Value) := hb.get 2
 clear hb
 have hE := Ext.refl w
 refine sk fun K1 hK1 => (wt (oA rfl (oZ (tN (hK1 _ _ (sk fun K2 hK2 => (wt (oM rfl (oM rfl (oM rfl (oM rfl (oS rfl (Yk.lenSB wr32_ty51 (SB.of hv T0) (oS rfl (Yk.sliceSB3 (l := i) (r := i + 1) (m := i + 1 + j) wr32_ty51 wr32_szg70 (SB.of hv T0) T1 T2 (vr (NI (i + 1 + j)) rfl) (by omega) (by omega) (by omega) fun v3 hs4 => ?_)))))))))))))))
 have hs4 : SB g 33 (i) (i + 1 - (i)) (i + 1 + j - (i)) v3 := (SB.eq hs4 (by omega) (by omega) (by omega))
 refine oZ (tN (hK2 _ _ (sk fun K5 hK5 => (sk fun K6 hK6 => (wt (oM rfl (oM rfl (oS rfl (Yk.eqI (a := (i : Nat)) (b := (i + 1 : Nat)) T1 T2 (k_eql _ _ _ _) (oZ (tN (hK6 _ _ (wpF_false (vr (.bool (false)) (congrArg Value.bool (decide_eq_false (by omega)))) (wpF_skip (tN (hK5 _ _ (sk fun K7 hK7 => (wt (oM rfl ?_)))))))))))))))))))
 refine oS rfl (Yk.lenSB wr32_ty51 (SB.of hv T0) (oA rfl (oZ (tN (hK7 _ _ (sk fun K8 hK8 => ?_))))))
 refine wpF_draw_cut 6 [Is (v), Is (NI i), fun x _ => SB g 33 (0) (i) (c) x, Is (v), Is (NI (i + 1)), fun x _ => SB g 33 (i + 1) (j) (c - (i + 1)) x] (by kernel_rfl) [20, 21, 22, 23, 24, 25, 26, 0] (by kernel_rfl) (by kernel_rfl) (by kernel_rfl) (by kernel_rfl) rfl rfl (si2 ⟨(fun _ _ _ h _ => h), (si2 ⟨(fun _ _ _ h _ => h), trivial⟩)⟩) ?hs1005 ?hQ1005
 case hs1005 =>
  refine ⟨?_, ?_, ?_, ?_, ?_, ?_, ?_, ?_, trivial⟩
  ·refine stepFC (stepN rfl fun σ w1 hC h => ?_)
   have e0 := (eqo (h 0 (by decide))).trans T0
   exact Yk.move e0 ⟨Ext.refl _, rfl⟩
  ·refine stepFC (stepN rfl fun σ w1 hC h => ?_)
   have e1 := (eqo (h 1 (by decide))).trans T1
   exact Yk.move e1 ⟨Ext.refl _, rfl⟩
  ·refine stepFC (stepN rfl fun σ w1 hC h => ?_)
   have e20 := eqo (h 20 (by decide))
   have e21 := eqo (h 21 (by decide))
   exact Yk.sliceSB wr32_ty51 wr32_szg70 (a := none) (b := some _) (SB.of hv e20) (0) (i) (.inl ⟨rfl, rfl⟩) (.inr ⟨_, congrArg some e21⟩) (by omega) (by omega) fun v h => ⟨Ext.refl _, (SB.eq h (by omega) (by omega) (by omega))⟩
  ·refine stepFC (stepN rfl fun σ w1 hC h => ?_)
   have e0 := (eqo (h 0 (by decide))).trans T0
   exact Yk.move e0 ⟨Ext.refl _, rfl⟩
  ·refine stepFC (stepN rfl fun σ w1 hC h => ?_)
   have e2 := (eqo (h 2 (by decide))).trans T2
   exact Yk.move e2 ⟨Ext.refl _, rfl⟩
  ·refine stepFC (stepN rfl fun σ w1 hC h => ?_)
   have e23 := eqo (h 23 (by decide))
   have e24 := eqo (h 24 (by decide))
   exact Yk.sliceSB wr32_ty51 wr32_szg70 (a := some _) (b := none) (SB.of hv e23) (i + 1) (i + 1 + j) (.inr ⟨_, congrArg some e24⟩) (.inl ⟨rfl, rfl⟩) (by omega) (by omega) fun v h => ⟨Ext.refl _, (SB.eq h (by omega) (by omega) (by omega))⟩
  ·exact trivial
  ·exact trivial
 intro ρ9 w10 hx11 he hf
 obtain ⟨-, -, k22, -, -, k25, -⟩ := hf
 obtain ⟨T1, T2, T6, T7, T16, -⟩ := he.hold [(1, _), (2, _), (6, (Value.slice none 0 0)), (7, NI (i + 1 + j)), (16, _)] ⟨T1, T2, rfl, rfl, (congrArg Value.bool (decide_eq_false (by omega))), trivial⟩ rfl
 clear he
 have hC := eb hx11 hC
 have hgr : w.grownBy w10 (some g) := grownBy_trans hgr hx11.grown (fun _ e => by cases e)
 have hE := hE.trans hx11
 have k22 : (fun x _ => SB g 33 (0) (i) (c) x) (ρ9 22) w10 := k22
 obtain ⟨v12, T22⟩ : ∃ v, ρ9 22 = v := ⟨_, rfl⟩
 rw [T22] at k22
 have hk13 := k22; clear k22
 have k25 : (fun x _ => SB g 33 (i + 1) (j) (c - (i + 1)) x) (ρ9 25) w10 := k25
 obtain ⟨v14, T25⟩ : ∃ v, ρ9 25 = v := ⟨_, rfl⟩
 rw [T25] at k25
 have hk15 := k25; clear k25
 refine oS rfl (Yk.appendSB wr32_ty51 ri1 ri2 (SB.of hk13 T22) (by omega) hC (SB.src (SB.of hk15 T25) (j * 33) (if hj : j = 0 then .inr (by omega) else .inl (by omega)) hC (by rw [show (i + 1) * 33 = i * 33 + 33 by omega]; exact cut_mid hA hX hD)) (hD) (h1) (by omega) (by rw [hL]; omega) fun w16 hb17 hg18 hs19 => ?_)
 have hgr : w.grownBy w16 (some g) := grownBy_trans hgr hg18 (fun _ e => .inl e)
 clear hE
 clear hC
 obtain ⟨T, hT⟩ : ∃ T, T = (A ++ X ++ D ++ R).drop (i * 33 + j * 33) := ⟨_, rfl⟩
 have hLT : (A ++ D ++ T).length = c * 33 := by rw [hT]; simp only [List.length_append, List.length_drop] at hL ⊢; omega
 have hC : w16.heap[g]? = some (.cells (A ++ D ++ T).toArray 70 (0, 0)) := blk_eq hb17 (by rw [hT, take_pre3 hA])
 have hl20 := bl hC
 obtain ⟨v21, hs22⟩ : ∃ v, v = Value.slice (some ⟨g, 0, none⟩) (i + (j)) (c) := ⟨_, rfl⟩
 rw [← hs22]
 replace hs22 : SB g 33 0 (i + j) (c) v21 := hs22 ▸ (SB.first _ _ _ _).eq rfl (by omega) rfl
 refine oA rfl (oZ (tN (hK8 _ _ (sk fun K23 hK23 => (wt (oM rfl (oM rfl (oS rfl (Yk.lenSB wr32_ty51 (SB.of hs22 (vr v21 rfl)) (oM rfl (oS rfl (Yk.sliceSB wr32_ty51 wr32_szg70 (a := some _) (b := some _) (SB.of hs22 (vr v21 rfl)) (i + j) (i + 1 + j) (.inr ⟨_, congrArg some (vr (NI (i + j)) rfl)⟩) (.inr ⟨_, congrArg some T7⟩) (by omega) (by omega) fun v24 hs25 => ?_))))))))))))
 have hs25 : SB g 33 (i + j) (1) (c - (i + j)) v24 := (SB.eq hs25 (by omega) (by omega) (by omega))
 refine oS rfl (Yk.clearSB wr32_ty51 ri1 ri4 ri5 (SB.of hs25 (vr v24 rfl)) (by omega) (by omega) hC (zeroCells_one ri6 _) (by rw [hLT]; omega) fun w26 Z30 hZ31 hb27 hg28 hs29 => ?_)
 have hgr : w.grownBy w26 (some g) := grownBy_trans hgr hg28 (fun _ e => .inl e)
 clear hC
 obtain ⟨U, hU⟩ : ∃ U, U = Z30 ++ (A ++ D ++ T).drop ((i + j) * 33 + 1 * 33) := ⟨_, rfl⟩
 have hLU : (A ++ D ++ U).length = c * 33 := by rw [hU]; simp only [List.length_append, List.length_drop] at hLT ⊢; omega
 have hC : w26.heap[g]? = some (.cells (A ++ D ++ U).toArray 70 (0, 0)) := blk_eq hb27 (by rw [hU, take_pre2 (by rw [List.length_append]; omega), List.append_assoc (A ++ D)])
 have hl32 := bl hC
 refine oZ (tN (hK23 _ _ (sk fun K33 hK33 => (wt (oM rfl (oA rfl (oZ (tN (hK33 _ _ (wpF_ret (postF_ret (fn := Tryd.f163) _ rfl [v21] (v21) rfl ⟨rfl, trivial⟩ ?_)))))))))))
 obtain ⟨o, rfl, ho⟩ := hs22
 obtain rfl : o = 0 := by rw [ho (by omega), Nat.zero_mul]
 exact ⟨_, rfl, hC, hLU, hgr⟩

theorem insert_blk (w : World) (v v2 : Value) (g b c i j : Nat) (TX : TypeId) (A X D R : List Value) (hA : A.length = i * 33) (hXl : X.length = 33) (hD : D.length = j * 33) (hv : SB g 33 0 (i + j) c v) (hC : w.heap[g]? = some (.cells (A ++ D ++ R).toArray 70 (0, 0))) (hL : (A ++ D ++ R).length = c * 33) (hc : i + j ≤ c) (hm : c ≤ maxLen) (hj : 0 < j) (h1 : ∀ u ∈ D, u.oneCell' = true) (hX1 : ∀ u ∈ X, u.oneCell' = true)
  (hv2 : SB b 33 0 1 1 v2) (hX : w.heap[b]? = some (.cells X.toArray TX (0, 0))) (hne : b ≠ g) (hs : i + j ≤ 1000) :
  Calls Tryd.prog 164 #[v, NI i, v2] w fun e w' => ∃ g' c' R', e = .returned (.slice (some ⟨g', 0, none⟩) (i + 1 + j) c') ∧ w'.heap[g']? = some (.cells (A ++ X ++ D ++ R').toArray 70 (0, 0)) ∧ (A ++ X ++ D ++ R').length = c' * 33 ∧ i + 1 + j ≤ c' ∧ c' ≤ 2 ^ 63 - 1 ∧ w.grownBy w' (some g) ∧ (g' = g ∨ w.heap.size ≤ g') := by
 obtain ⟨ri, rz, ri1, ri2, ri3, ri4, ri5, ri6⟩ := rowInfo
 have hgr : w.grownBy w (some g) := ⟨rfl, rfl, rfl, Nat.le_refl _, fun _ _ _ => rfl⟩
 have hgl := (bl hC)
 have hbl := (bl hX)
 unfold maxLen at hm
 refine calls_of_wpF (args := [v, NI i, v2]) Tryd.func164 rfl 95 rfl (Nat.le_of_ble_eq_true rfl) ?_
 intro ρ0 hb
 have T0 : ρ0 0 = (v : Value) := hb.get 0
 have T1 : ρ0 1 = (NI i : Value) := hb.get 1
 have T2 : ρ0 2 = (v2 : Value) := hb.get 2
 clear hb
 have hE := Ext.refl w
 refine sk fun K1 hK1 => (wt (oA rfl (oZ (tN (hK1 _ _ (sk fun K2 hK2 => (wt (oM rfl (oM rfl (oS rfl (Yk.sliceSB wr32_ty51 wr32_szg70 (a := some _) (b := none) (SB.of hv T0) (i) (i + j) (.inr ⟨_, congrArg some T1⟩) (.inl ⟨rfl, rfl⟩) (by omega) (by omega) fun v3 hs4 => ?_)))))))))))
 have hs4 : SB g 33 (i) (i + j - (i)) (c - (i)) v3 := (SB.eq hs4 (by omega) (by omega) (by omega))
 refine oZ (tN (hK2 _ _ (sk fun K5 hK5 => (wt (oM rfl (oS rfl (Yk.lenSB wr32_ty51 (SB.of hv2 T2) (oA rfl (oZ (tN (hK5 _ _ (sk fun K6 hK6 => (sk fun K7 hK7 => (wt (oM rfl (oS rfl (Yk.eqI (a := (1 : Nat)) (b := (0 : Nat)) rfl rfl (k_eql _ _ _ _) (oZ (tN (hK7 _ _ ?_))))))))))))))))))))
 refine wpF_false (vr (.bool (false)) (congrArg Value.bool (decide_eq_false (by omega)))) (wpF_skip (tN (hK6 _ _ (sk fun K8 hK8 => (wt (oM rfl (oS rfl (Yk.lenSB wr32_ty51 (SB.of hv T0) (oA rfl (oZ ?_))))))))))
 by_cases hroom : i + j + 1 ≤ c
 ·refine tN (hK8 _ _ (sk fun K9 hK9 => (sk fun K10 hK10 => (wt (oM rfl (oM rfl (oS rfl (Yk.eqI (a := (i : Nat)) (b := (i + j : Nat)) T1 rfl (k_eql _ _ _ _) (oZ (tN (hK10 _ _ (wpF_false (vr (.bool (false)) (congrArg Value.bool (decide_eq_false (by omega)))) (wpF_skip (tN (hK9 _ _ (sk fun K11 hK11 => (sk fun K12 hK12 => (wt (oM rfl ?_)))))))))))))))))))
  refine oM rfl (oS rfl (Yk.bin (xv := NI (i + j)) (yv := NI 1) rfl rfl rfl (i64_add _ _ _ (by omega)) (oM rfl (oS rfl (Yk.capSB wr32_ty51 (SB.of hv T0) (oS rfl (Yk.eqI (a := ((i + j) + (1) : Nat)) (b := (c : Nat)) rfl rfl (k_gtr _ _ _ _) (oZ (tN (hK12 _ _ (wpF_false (vr (.bool (false)) (congrArg Value.bool (decide_eq_false (by omega)))) (wpF_skip (tN (hK11 _ _ (sk fun K13 hK13 => (wt (oM rfl (oM rfl (oM rfl (oS rfl (Yk.bin (xv := NI (i + j)) (yv := NI 1) rfl rfl rfl (i64_add _ _ _ (by omega)) ?_)))))))))))))))))))))
  refine oS rfl (Yk.sliceSB wr32_ty51 wr32_szg70 (a := none) (b := some _) (SB.of hv T0) (0) ((i + j) + (1)) (.inl ⟨rfl, rfl⟩) (.inr ⟨_, congrArg some (vr (NI ((i + j) + (1))) rfl)⟩) (by omega) (by omega) fun v14 hs15 => ?_)
  have hs15 : SB g 33 (0) (i + 1 + j) (c) v14 := (SB.eq hs15 (by omega) (by omega) (by omega))
  refine oA rfl (oZ (tN (hK13 _ _ (sk fun K16 hK16 => (sk fun K17 hK17 => (wt (oM rfl (oM rfl (oM rfl (oM rfl (oS rfl (Yk.bin (xv := NI i) (yv := NI 1) T1 rfl rfl (i64_add _ _ _ (by omega)) (oS rfl (Yk.sliceSB wr32_ty51 wr32_szg70 (a := some _) (b := none) (SB.of hs15 (vr v14 rfl)) ((i) + (1)) (i + 1 + j) (.inr ⟨_, congrArg some (vr (NI ((i) + (1))) rfl)⟩) (.inl ⟨rfl, rfl⟩) (by omega) (by omega) fun v18 hs19 => ?_))))))))))))))
  have hs19 : SB g 33 (i + 1) (j) (c - (i + 1)) v18 := (SB.eq hs19 (by omega) (by omega) (by omega))
  refine oS rfl (Yk.extern2 rfl rfl (overlaps_any (SB.of hv2 T2) (SB.of hs19 (vr v18 rfl)) hne hX hC (by intro e; rw [e] at hL; simp at hL; omega)) (oS rfl (Yk.notB (vr (.bool (false)) rfl) (oZ (tN (hK17 _ _ (wpF_true (vr (.bool (true)) rfl) (sk fun K20 hK20 => ?_))))))))
  refine wpF_draw_cut 8 [Is (v14), Is (NI i), Is (NI 1), Is (NI ((i) + (1))), fun x _ => SB g 33 (i + 1) (j) (c - (i + 1)) x, Is (v14), Is (NI i), fun x _ => SB g 33 (i) (j + 1) (c - i) x] (by kernel_rfl) [69, 70, 71, 72, 73, 74, 75, 76, 77] (by kernel_rfl) (by kernel_rfl) (by kernel_rfl) (by kernel_rfl) rfl rfl (si4 ⟨(fun _ _ _ h _ => h), (si2 ⟨(fun _ _ _ h _ => h), trivial⟩)⟩) ?hs1015 ?hQ1015
  case hs1015 =>
   refine ⟨?_, ?_, ?_, ?_, ?_, ?_, ?_, ?_, ?_, trivial⟩
   ·refine stepFC (stepN rfl fun σ w1 hC h => ?_)
    have e0 : σ 0 = v14 := (eqo (h 0 (by decide))).trans rfl
    exact Yk.move e0 ⟨Ext.refl _, rfl⟩
   ·refine stepFC (stepN rfl fun σ w1 hC h => ?_)
    have e1 := (eqo (h 1 (by decide))).trans T1
    exact Yk.move e1 ⟨Ext.refl _, rfl⟩
   ·refine stepFC (stepN rfl fun σ w1 hC h => ?_)
    have e7 : σ 7 = NI 1 := (eqo (h 7 (by decide))).trans rfl
    exact Yk.move e7 ⟨Ext.refl _, rfl⟩
   ·refine stepFC (stepN rfl fun σ w1 hC h => ?_)
    have e70 := eqo (h 70 (by decide))
    have e71 := eqo (h 71 (by decide))
    exact Yk.bin (xv := NI i) (yv := NI 1) e70 e71 rfl (i64_add _ _ _ (by omega)) ⟨Ext.refl _, rfl⟩
   ·refine stepFC (stepN rfl fun σ w1 hC h => ?_)
    have e69 := eqo (h 69 (by decide))
    have e72 := eqo (h 72 (by decide))
    exact Yk.sliceSB wr32_ty51 wr32_szg70 (a := some _) (b := none) (SB.of hs15 e69) ((i) + (1)) (i + 1 + j) (.inr ⟨_, congrArg some e72⟩) (.inl ⟨rfl, rfl⟩) (by omega) (by omega) fun v h => ⟨Ext.refl _, (SB.eq h (by omega) (by omega) (by omega))⟩
   ·refine stepFC (stepN rfl fun σ w1 hC h => ?_)
    have e0 : σ 0 = v14 := (eqo (h 0 (by decide))).trans rfl
    exact Yk.move e0 ⟨Ext.refl _, rfl⟩
   ·refine stepFC (stepN rfl fun σ w1 hC h => ?_)
    have e1 := (eqo (h 1 (by decide))).trans T1
    exact Yk.move e1 ⟨Ext.refl _, rfl⟩
   ·refine stepFC (stepN rfl fun σ w1 hC h => ?_)
    have e74 := eqo (h 74 (by decide))
    have e75 := eqo (h 75 (by decide))
    exact Yk.sliceSB wr32_ty51 wr32_szg70 (a := some _) (b := none) (SB.of hs15 e74) (i) (i + 1 + j) (.inr ⟨_, congrArg some e75⟩) (.inl ⟨rfl, rfl⟩) (by omega) (by omega) fun v h => ⟨Ext.refl _, (SB.eq h (by omega) (by omega) (by omega))⟩
   ·exact trivial
  intro ρ21 w22 hx23 he hf
  obtain ⟨-, -, -, -, k73, -, -, k76, -⟩ := hf
  obtain ⟨T0, T1, T2, T6, T7, T8, T16, T22, T31, T68, -⟩ := he.hold [(0, v14), (1, _), (2, _), (6, (Value.slice none 0 0)), (7, NI 1), (8, NI (i + j)), (16, _), (22, _), (31, _), (68, .bool (true))] ⟨rfl, T1, T2, rfl, rfl, rfl, (congrArg Value.bool (decide_eq_false (by omega))), (congrArg Value.bool (decide_eq_false (by omega))), (congrArg Value.bool (decide_eq_false (by omega))), rfl, trivial⟩ rfl
  clear he
  have hC := eb hx23 hC
  have hgr : w.grownBy w22 (some g) := grownBy_trans hgr hx23.grown (fun _ e => by cases e)
  have hX := eb hx23 hX
  have hE := hE.trans hx23
  have k73 : (fun x _ => SB g 33 (i + 1) (j) (c - (i + 1)) x) (ρ21 73) w22 := k73
  obtain ⟨v24, T73⟩ : ∃ v, ρ21 73 = v := ⟨_, rfl⟩
  rw [T73] at k73
  have hk25 := k73; clear k73
  have k76 : (fun x _ => SB g 33 (i) (j + 1) (c - i) x) (ρ21 76) w22 := k76
  obtain ⟨v26, T76⟩ : ∃ v, ρ21 76 = v := ⟨_, rfl⟩
  rw [T76] at k76
  have hk27 := k76; clear k76
  refine oS rfl (Yk.copySB wr32_ty51 wr32_szg70 (SB.of hk25 T73) (by omega) hC (j) (SB.src (SB.of hk27 T76) (j * 33) (.inl (by omega)) hC (cut_at2 hA hD)) (by simp only [Nat.min_def]; split <;> omega) (hD) (h1) (by rw [hL]; omega) fun w28 hb29 hg30 hs31 => ?_)
  have hgr : w.grownBy w28 (some g) := grownBy_trans hgr hg30 (fun _ e => .inl e)
  have hX := kb hg30 hX (by omega)
  clear hE
  clear hC
  obtain ⟨T, hT⟩ : ∃ T, T = (A ++ D ++ R).drop ((i + 1) * 33 + j * 33) := ⟨_, rfl⟩
  obtain ⟨Y0, hY0⟩ : ∃ Y0, Y0 = ((A ++ D ++ R).take ((i + 1) * 33)).drop (i * 33) := ⟨_, rfl⟩
  have hY0l : Y0.length = 33 := by rw [hY0, List.length_drop, List.length_take, hL]; omega
  have hLT : (A ++ Y0 ++ (D ++ T)).length = c * 33 := by rw [hT]; simp only [List.length_append, List.length_drop] at hL ⊢; omega
  have hC : w28.heap[g]? = some (.cells (A ++ Y0 ++ (D ++ T)).toArray 70 (0, 0)) := blk_eq hb29 (by rw [hT, hY0, ← cut_hole (C := A ++ D ++ R) (m := (i + 1) * 33) (by omega) (by rw [List.append_assoc, List.take_left' hA]), List.append_assoc])
  have hl32 := bl hC
  refine oZ (tN (hK20 _ _ (sk fun K33 hK33 => (wt (oM rfl (oM rfl (oS rfl (Yk.sliceSB wr32_ty51 wr32_szg70 (a := some _) (b := none) (SB.of hs15 T0) (i) (i + 1 + j) (.inr ⟨_, congrArg some T1⟩) (.inl ⟨rfl, rfl⟩) (by omega) (by omega) fun v34 hs35 => ?_))))))))
  have hs35 : SB g 33 (i) (j + 1) (c - i) v34 := (SB.eq hs35 (by omega) (by omega) (by omega))
  refine oM rfl ?_
  refine oS rfl (Yk.copySB wr32_ty51 wr32_szg70 (SB.of hs35 (vr v34 rfl)) (by omega) hC (1) (SB.src (SB.of hv2 T2) 33 (.inl (by omega)) hX (by rw [Nat.zero_mul, List.drop_zero, List.take_of_length_le (by omega)])) (by simp only [Nat.min_def]; split <;> omega) (by omega) (hX1) (by rw [hLT]; omega) fun w36 hb37 hg38 hs39 => ?_)
  have hgr : w.grownBy w36 (some g) := grownBy_trans hgr hg38 (fun _ e => .inl e)
  have hX := kb hg38 hX (by omega)
  clear hC
  have hLF : (A ++ X ++ D ++ T).length = c * 33 := by simp only [List.length_append] at hLT ⊢; omega
  have hC : w36.heap[g]? = some (.cells (A ++ X ++ D ++ T).toArray 70 (0, 0)) := blk_eq hb37 (by rw [cut_fill hA hY0l, List.append_assoc (A ++ X)])
  have hl40 := bl hC
  refine oZ (tN (hK33 _ _ (sk fun K41 hK41 => (wt (oM rfl (oA rfl (oZ (tN (hK41 _ _ (wpF_ret (thenF_ret (postF_ret (fn := Tryd.f164) _ rfl [v14] (v14) rfl ⟨T0, trivial⟩ ?_))))))))))))
  obtain ⟨o, rfl, ho⟩ := hs15
  obtain rfl : o = 0 := by rw [ho (by omega), Nat.zero_mul]
  exact ⟨_, _, _, rfl, hC, hLF, (by omega), (by omega), hgr, .inl rfl⟩
 refine tN (hK8 _ _ (sk fun K42 hK42 => (sk fun K43 hK43 => (wt (oM rfl (oM rfl (oS rfl (Yk.eqI (a := (i : Nat)) (b := (i + j : Nat)) T1 rfl (k_eql _ _ _ _) (oZ (tN (hK43 _ _ (wpF_false (vr (.bool (false)) (congrArg Value.bool (decide_eq_false (by omega)))) (wpF_skip (tN (hK42 _ _ (sk fun K44 hK44 => (sk fun K45 hK45 => (wt (oM rfl ?_)))))))))))))))))))
 refine oM rfl (oS rfl (Yk.bin (xv := NI (i + j)) (yv := NI 1) rfl rfl rfl (i64_add _ _ _ (by omega)) (oM rfl (oS rfl (Yk.capSB wr32_ty51 (SB.of hv T0) (oS rfl (Yk.eqI (a := ((i + j) + (1) : Nat)) (b := (c : Nat)) rfl rfl (k_gtr _ _ _ _) (oZ (tN (hK45 _ _ (wpF_true (vr (.bool (true)) (congrArg Value.bool (decide_eq_true (by omega)))) (sk fun K46 hK46 => (wt (oM rfl (oM rfl (oS rfl (Yk.sliceSB wr32_ty51 wr32_szg70 (a := none) (b := some _) (SB.of hv T0) (0) (i) (.inl ⟨rfl, rfl⟩) (.inr ⟨_, congrArg some T1⟩) (by omega) (by omega) fun v47 hs48 => ?_)))))))))))))))))
 have hs48 : SB g 33 (0) (i) (c) v47 := (SB.eq hs48 (by omega) (by omega) (by omega))
 refine oM rfl (oM rfl (oS rfl (Yk.bin (xv := NI (i + j)) (yv := NI 1) rfl rfl rfl (i64_add _ _ _ (by omega)) (oM rfl (oS rfl (Yk.bin (xv := NI ((i + j) + (1))) (yv := NI i) rfl T1 rfl (i64_sub _ _ _ (by omega) (by omega)) (oS rfl (Yk.appendMakeSB (m := ((i + j) + (1)) - (i)) wr32_ty51 wr32_ty3 ri1 ri4 ri2 ri5 (by decide) (SB.of hs48 (vr v47 rfl)) (by omega) hC (vr (NI (((i + j) + (1)) - (i))) rfl) (by omega) (by omega) (by rw [hL]; omega) (by rw [ri3]; omega) (by unfold maxLen; omega) fun n53 w49 n54 Z55 hn56 hm57 hm58 hZ59 hb50 hx60 hs52 => ?_))))))))
 have hlt61 := lte (bl hC) hn56
 have hlt62 := lte (bl hX) hn56
 have hC := eb hx60 hC
 have hgr : w.grownBy w49 (some g) := grownBy_trans hgr hx60.grown (fun _ e => by cases e)
 have hX := eb hx60 hX
 have hE := hE.trans hx60
 have hb50 : w49.heap[n53]? = some (.cells (A ++ Z55).toArray 70 (0, 0)) := blk_eq hb50 (by rw [List.append_assoc, List.take_left' hA])
 have hl63 : n53 < w49.heap.size := by omega
 obtain ⟨v64, hs65⟩ : ∃ v, v = Value.slice (some ⟨n53, 0, none⟩) (i + (((i + j) + (1)) - (i))) n54 := ⟨_, rfl⟩
 rw [← hs65]
 replace hs65 : SB n53 33 0 (i + 1 + j) (n54) v64 := hs65 ▸ (SB.first _ _ _ _).eq rfl (by omega) rfl
 refine oA rfl (oZ ?_)
 unfold maxLen at hm57
 refine tN (hK46 _ _ (sk fun K66 hK66 => (wt (oM rfl (oM rfl (oS rfl (Yk.sliceSB wr32_ty51 wr32_szg70 (a := some _) (b := none) (SB.of hs65 (vr v64 rfl)) (i) (i + 1 + j) (.inr ⟨_, congrArg some T1⟩) (.inl ⟨rfl, rfl⟩) (by omega) (by omega) fun v67 hs68 => ?_)))))))
 have hs68 : SB n53 33 (i) (j + 1) (n54 - i) v67 := (SB.eq hs68 (by omega) (by omega) (by omega))
 refine oM rfl ?_
 refine oS rfl (Yk.copySB wr32_ty51 wr32_szg70 (SB.of hs68 (vr v67 rfl)) (by omega) hb50 (1) (SB.src (SB.of hv2 T2) 33 (.inl (by omega)) hX (by rw [Nat.zero_mul, List.drop_zero, List.take_of_length_le (by omega)])) (by simp only [Nat.min_def]; split <;> omega) (by omega) (hX1) (by rw [List.length_append, hA, hZ59]; omega) fun w69 hb70 hg71 hs72 => ?_)
 have hC := kb hg71 hC (by omega)
 have hgr : w.grownBy w69 (some g) := grownBy_trans hgr hg71 (fun _ e => .inr (by cases e; omega))
 have hX := kb hg71 hX (by omega)
 have hE := row_fresh hE hg71 (Nat.le_trans (Nat.le_refl _) (by omega))
 clear hb50
 obtain ⟨T, hT⟩ : ∃ T, T = (A ++ Z55).drop (i * 33 + 1 * 33) := ⟨_, rfl⟩
 have hLT : (A ++ X ++ T).length = n54 * 33 := by rw [hT]; simp only [List.length_append, List.length_drop]; omega
 have hb50 : w69.heap[n53]? = some (.cells (A ++ X ++ T).toArray 70 (0, 0)) := blk_eq hb70 (by rw [hT, List.take_left' hA])
 have hl73 := bl hb50
 refine oZ (tN (hK66 _ _ (sk fun K74 hK74 => ?_)))
 refine wpF_draw_cut 8 [Is (v64), Is (NI i), Is (NI 1), Is (NI ((i) + (1))), fun x _ => SB n53 33 (i + 1) (j) (n54 - (i + 1)) x, Is (v), Is (NI i), fun x _ => SB g 33 (i) (j) (c - i) x] (by kernel_rfl) [46, 47, 48, 49, 50, 51, 52, 53, 54] (by kernel_rfl) (by kernel_rfl) (by kernel_rfl) (by kernel_rfl) rfl rfl (si4 ⟨(fun _ _ _ h _ => h), (si2 ⟨(fun _ _ _ h _ => h), trivial⟩)⟩) ?hs2011 ?hQ2011
 case hs2011 =>
  refine ⟨?_, ?_, ?_, ?_, ?_, ?_, ?_, ?_, ?_, trivial⟩
  ·refine stepFC (stepN rfl fun σ w1 hC h => ?_)
   have e9 : σ 9 = v64 := (eqo (h 9 (by decide))).trans rfl
   exact Yk.move e9 ⟨Ext.refl _, rfl⟩
  ·refine stepFC (stepN rfl fun σ w1 hC h => ?_)
   have e1 := (eqo (h 1 (by decide))).trans T1
   exact Yk.move e1 ⟨Ext.refl _, rfl⟩
  ·refine stepFC (stepN rfl fun σ w1 hC h => ?_)
   have e7 : σ 7 = NI 1 := (eqo (h 7 (by decide))).trans rfl
   exact Yk.move e7 ⟨Ext.refl _, rfl⟩
  ·refine stepFC (stepN rfl fun σ w1 hC h => ?_)
   have e47 := eqo (h 47 (by decide))
   have e48 := eqo (h 48 (by decide))
   exact Yk.bin (xv := NI i) (yv := NI 1) e47 e48 rfl (i64_add _ _ _ (by omega)) ⟨Ext.refl _, rfl⟩
  ·refine stepFC (stepN rfl fun σ w1 hC h => ?_)
   have e46 := eqo (h 46 (by decide))
   have e49 := eqo (h 49 (by decide))
   exact Yk.sliceSB wr32_ty51 wr32_szg70 (a := some _) (b := none) (SB.of hs65 e46) ((i) + (1)) (i + 1 + j) (.inr ⟨_, congrArg some e49⟩) (.inl ⟨rfl, rfl⟩) (by omega) (by omega) fun v h => ⟨Ext.refl _, (SB.eq h (by omega) (by omega) (by omega))⟩
  ·refine stepFC (stepN rfl fun σ w1 hC h => ?_)
   have e0 := (eqo (h 0 (by decide))).trans T0
   exact Yk.move e0 ⟨Ext.refl _, rfl⟩
  ·refine stepFC (stepN rfl fun σ w1 hC h => ?_)
   have e1 := (eqo (h 1 (by decide))).trans T1
   exact Yk.move e1 ⟨Ext.refl _, rfl⟩
  ·refine stepFC (stepN rfl fun σ w1 hC h => ?_)
   have e51 := eqo (h 51 (by decide))
   have e52 := eqo (h 52 (by decide))
   exact Yk.sliceSB wr32_ty51 wr32_szg70 (a := some _) (b := none) (SB.of hv e51) (i) (i + j) (.inr ⟨_, congrArg some e52⟩) (.inl ⟨rfl, rfl⟩) (by omega) (by omega) fun v h => ⟨Ext.refl _, (SB.eq h (by omega) (by omega) (by omega))⟩
  ·exact trivial
 intro ρ75 w76 hx77 he hf
 obtain ⟨-, -, -, -, k50, -, -, k53, -⟩ := hf
 obtain ⟨T0, T1, T2, T6, T7, T8, T9, T16, T22, T31, -⟩ := he.hold [(0, _), (1, _), (2, _), (6, (Value.slice none 0 0)), (7, NI 1), (8, NI (i + j)), (9, v64), (16, _), (22, _), (31, _)] ⟨T0, T1, T2, rfl, rfl, rfl, rfl, (congrArg Value.bool (decide_eq_false (by omega))), (congrArg Value.bool (decide_eq_false (by omega))), (congrArg Value.bool (decide_eq_true (by omega))), trivial⟩ rfl
 clear he
 have hC := eb hx77 hC
 have hgr : w.grownBy w76 (some g) := grownBy_trans hgr hx77.grown (fun _ e => by cases e)
 have hX := eb hx77 hX
 have hE := hE.trans hx77
 have hb50 := eb hx77 hb50
 have k50 : (fun x _ => SB n53 33 (i + 1) (j) (n54 - (i + 1)) x) (ρ75 50) w76 := k50
 obtain ⟨v78, T50⟩ : ∃ v, ρ75 50 = v := ⟨_, rfl⟩
 rw [T50] at k50
 have hk79 := k50; clear k50
 have k53 : (fun x _ => SB g 33 (i) (j) (c - i) x) (ρ75 53) w76 := k53
 obtain ⟨v80, T53⟩ : ∃ v, ρ75 53 = v := ⟨_, rfl⟩
 rw [T53] at k53
 have hk81 := k53; clear k53
 refine oS rfl (Yk.copySB wr32_ty51 wr32_szg70 (SB.of hk79 T50) (by omega) hb50 (j) (SB.src (SB.of hk81 T53) (j * 33) (.inl (by omega)) hC (cut_at2 hA hD)) (by simp only [Nat.min_def]; split <;> omega) (hD) (h1) (by rw [hLT]; omega) fun w82 hb83 hg84 hs85 => ?_)
 have hC := kb hg84 hC (by omega)
 have hgr : w.grownBy w82 (some g) := grownBy_trans hgr hg84 (fun _ e => .inr (by cases e; omega))
 have hX := kb hg84 hX (by omega)
 have hE := row_fresh hE hg84 (Nat.le_trans (Nat.le_refl _) (by omega))
 clear hb50
 obtain ⟨U, hU⟩ : ∃ U, U = (A ++ X ++ T).drop ((i + 1) * 33 + j * 33) := ⟨_, rfl⟩
 have hLU : (A ++ X ++ D ++ U).length = n54 * 33 := by rw [hU]; simp only [List.length_append, List.length_drop] at hLT ⊢; omega
 have hb50 : w82.heap[n53]? = some (.cells (A ++ X ++ D ++ U).toArray 70 (0, 0)) := blk_eq hb83 (by rw [hU, take_pre2 (by rw [List.length_append]; omega)])
 have hl86 := bl hb50
 refine oZ (tN (hK74 _ _ (sk fun K87 hK87 => (wt (oM rfl (oA rfl (oZ (tN (hK87 _ _ (wpF_ret (thenF_ret (postF_ret (fn := Tryd.f164) _ rfl [v64] (v64) rfl ⟨T9, trivial⟩ ?_))))))))))))
 obtain ⟨o, rfl, ho⟩ := hs65
 obtain rfl : o = 0 := by rw [ho (by omega), Nat.zero_mul]
 exact ⟨_, _, _, rfl, hb50, hLU, (by omega), (by omega), hgr, .inr (Nat.le_of_eq hn56)⟩

theorem insert_end (w0 w : World) (v v2 : Value) (l : List Nmd) (x : Nmd) (hE0 : Ext w0 w) (ho : OG w0.heap.size 70 33 nmdC w v l) (hr2 : RG 33 nmdC w v2 [x]) (hl : l.length ≤ 1000) :
  Calls Tryd.prog 164 #[v, NI l.length, v2] w fun e w' => ∃ v', e = .returned v' ∧ OG w0.heap.size 70 33 nmdC w' v' (l ++ [x]) ∧ Ext w0 w' := by
 refine calls_of_wpF (args := [v, NI l.length, v2]) Tryd.func164 rfl 95 rfl (Nat.le_of_ble_eq_true rfl) ?_
 intro ρ0 hb
 have T0 : ρ0 0 = (v : Value) := hb.get 0
 have T1 : ρ0 1 = (NI l.length : Value) := hb.get 1
 have T2 : ρ0 2 = (v2 : Value) := hb.get 2
 clear hb
 have hE := Ext.refl w
 refine sk fun K1 hK1 => (wt (oA rfl (oZ (tN (hK1 _ _ (sk fun K2 hK2 => (wt (oM rfl (oM rfl (oS rfl (Yk.sliceLoW wr32_ty51 wr32_szg70 T0 (RG.ofOwn ho) T1 (Nat.le_refl _) fun v3 hr4 ha5 => (oZ (tN (hK2 _ _ (sk fun K6 hK6 => (wt (oM rfl (oS rfl (Yk.lenRG wr32_ty51 (RG.of hr2 T2) ?_)))))))))))))))))))
 refine oA rfl (oZ (tN (hK6 _ _ (sk fun K7 hK7 => (sk fun K8 hK8 => (wt (oM rfl (oS rfl (Yk.eqI (a := (([x]).length : Nat)) (b := (0 : Nat)) rfl rfl (k_eql _ _ _ _) (oZ (tN (hK8 _ _ (wpF_false (vr (.bool (false)) (congrArg Value.bool (decide_eq_false (by simp)))) (wpF_skip (tN (hK7 _ _ (sk fun K9 hK9 => (wt (oM rfl ?_)))))))))))))))))))
 refine oS rfl (Yk.lenRG wr32_ty51 (RG.of (RG.ofOwn ho) T0) (oA rfl (oZ (tN (hK9 _ _ (sk fun K10 hK10 => (sk fun K11 hK11 => (wt (oM rfl (oM rfl (oS rfl (Yk.eqI (a := (l.length : Nat)) (b := (l.length : Nat)) T1 rfl (k_eql _ _ _ _) (oZ (tN (hK11 _ _ (wpF_true (vr (.bool (true)) (congrArg Value.bool (decide_eq_true (rfl)))) (sk fun K12 hK12 => (wt (oM rfl ?_)))))))))))))))))))
 refine oM rfl (oS rfl (Yk.appendRG _ _ w0.heap.size _ 48 wr32_ty51 wr32_ig70.choose_spec.1 wr32_ig70.choose_spec.2 wr32_ty51 (l) ([x]) (OG.of ho T0) (RG.of hr2 T2) (fun _ _ => nmd_one) (by simp only [List.length_cons, List.length_nil]; omega) (by simp only [List.length_cons, List.length_nil]; omega) hE0.size fun v13 w14 ho15 hg16 => ?_))
 have hg16 : Grew w w14 v v13 := .eqv T0 hg16
 clear hr2
 clear hE
 have hE0 := ext_grew hE0 hg16 ho.2 (Nat.le_refl _)
 clear hr4
 clear ho
 refine oA rfl (oZ (tN (hK12 _ _ (wpF_ret (thenF_ret (postF_ret (fn := Tryd.f164) _ rfl [v13] (v13) rfl ⟨rfl, trivial⟩ ?_))))))
 exact ⟨_, rfl, ho15, hE0⟩
end Go.Proofs.YtmonlobfofkbdaaDoor
