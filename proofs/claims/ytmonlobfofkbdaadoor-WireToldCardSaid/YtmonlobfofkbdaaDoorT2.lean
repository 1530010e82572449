/- Part 2 of what stands behind these statements: laws and walks of the functions that are reached. Conditions: those that each theorem names. -/
import Derived.Test.YtmonlobfofkbdaaDoorT1
set_option linter.unusedVariables false
set_option linter.unusedSimpArgs false
namespace Go.Proofs.YtmonlobfofkbdaaDoor
open Go.RowKit
set_option maxRecDepth 100000
theorem wr20_ty5 : Tryd.prog.underlying 5 = some (.int .u8) := by kernel_rfl
theorem wr20_ty21 : Tryd.prog.underlying 21 = some (.int .i32) := by kernel_rfl
theorem wr20_ty9 : Tryd.prog.underlying 9 = some (.string) := by kernel_rfl
theorem wr20_pl173 : Plain Tryd.prog 173 := fun _ _ => by kernel_rfl
theorem wr20_pl174 : Plain Tryd.prog 174 := fun _ _ => by kernel_rfl
theorem wr20_pl162 : Plain Tryd.prog 162 := fun _ _ => by kernel_rfl
theorem wr20_pl148 : Plain Tryd.prog 148 := fun _ _ => by kernel_rfl
theorem wr20_pl121 : Plain Tryd.prog 121 := fun _ _ => by kernel_rfl
theorem wr20_pl120 : Plain Tryd.prog 120 := fun _ _ => by kernel_rfl
set_option maxHeartbeats 1600000
theorem may_any (w : World) (r : Nat) :
  Calls Tryd.prog 174 #[.int .i32 (r : Int)] w fun e w' => e = .returned (.bool (mayB r)) ∧ Ext w w' := by
 refine calls_of_wpF (args := [.int .i32 ((r : Nat) : Int)]) Tryd.func174 rfl 17 rfl (Nat.le_of_ble_eq_true rfl) ?_
 intro ρ0 hb
 have T0 : ρ0 0 = (.int .i32 ((r : Nat) : Int) : Value) := hb.get 0
 clear hb
 have hE := Ext.refl w
 refine sk fun K1 hK1 => (wt (oA rfl (oZ (tN (hK1 _ _ (sk fun K2 hK2 => (wt (oM rfl (oS rfl (Yk.eqI (a := (r : Nat)) (b := (0 : Nat)) T0 rfl (k_geq _ _ _ _) (oM rfl (opsF_mayV (.int .i32 ((r : Nat) : Int)) rfl rfl (gT (vr (.bool (decide ((0) ≤ (r)))) rfl)) (fun hG3 => Yk.move T0 ⟨rfl, rfl⟩) (opsF_mayV (.bool (decide ((r) ≤ (1114111)))) rfl rfl (gT (vr (.bool (decide ((0) ≤ (r)))) rfl)) (fun hG4 => Yk.eqI (a := ((r : Nat) : Int)) (b := ((1114111 : Nat) : Int)) (mayT (vr (cond ((decide ((0) ≤ (r)))) (.int .i32 ((r : Nat) : Int)) undef) rfl) hG4) (vr (.int .i32 ((1114111 : Nat) : Int)) rfl) (k_leq _ .i32 (r) (1114111)) ⟨rfl, rfl⟩) (oS rfl (Yk.pickAndN (vr (.bool (decide ((0) ≤ (r)))) rfl) (fun hA => (mayT (vr (cond ((decide ((0) ≤ (r)))) (.bool (decide ((r) ≤ (1114111)))) undef) rfl) hA)) (vr (.bool (false)) rfl) fun bb5 hbb6 => (oM rfl (opsF_mayV (.int .i32 ((r : Nat) : Int)) rfl rfl (gT (vr (.bool (bb5)) rfl)) (fun hG7 => Yk.move T0 ⟨rfl, rfl⟩) (opsF_mayV (.bool (decide ((r) < (55296)))) rfl rfl (gT (vr (.bool (bb5)) rfl)) (fun hG8 => Yk.eqI (a := ((r : Nat) : Int)) (b := ((55296 : Nat) : Int)) (mayT (vr (cond (bb5) (.int .i32 ((r : Nat) : Int)) undef) rfl) hG8) (vr (.int .i32 ((55296 : Nat) : Int)) rfl) (k_lss _ .i32 (r) (55296)) ⟨rfl, rfl⟩) ?_))))))))))))))))))
 refine opsF_mayV (.bool (decide ((r) < (55296)))) rfl rfl (gT (vr (.bool (bb5)) rfl)) (fun hG9 => Yk.move (mayT (vr (cond (bb5) (.bool (decide ((r) < (55296)))) undef) rfl) hG9) ⟨rfl, rfl⟩) (opsF_mayV (.int .i32 ((r : Nat) : Int)) rfl rfl (geF (vr (cond (bb5) (.bool (decide ((r) < (55296)))) undef) rfl)) (fun hG10 => Yk.move T0 ⟨rfl, rfl⟩) (opsF_mayV (.bool (decide ((57343) < (r)))) rfl rfl (geF (vr (cond (bb5) (.bool (decide ((r) < (55296)))) undef) rfl)) (fun hG11 => Yk.eqI (a := ((r : Nat) : Int)) (b := ((57343 : Nat) : Int)) (mayT (vr (cond (bb5 && !(decide ((r) < (55296)))) (.int .i32 ((r : Nat) : Int)) undef) rfl) hG11) (vr (.int .i32 ((57343 : Nat) : Int)) rfl) (k_gtr _ .i32 (r) (57343)) ⟨rfl, rfl⟩) (opsF_mayB ((decide ((r) < (55296))) || (decide ((57343) < (r)))) rfl rfl (gT (vr (.bool (bb5)) rfl)) (fun hG12 => Yk.pickOr (mayT (vr (cond (bb5) (.bool (decide ((r) < (55296)))) undef) rfl) hG12) (vr (.bool (true)) rfl) (fun hA => (mayT (vr (cond (bb5 && !(decide ((r) < (55296)))) (.bool (decide ((57343) < (r)))) undef) rfl) (and_i hG12 (not_i hA)))) ⟨rfl, rfl⟩) fun bb13 hbb14 => (oS rfl (Yk.pickAndN (vr (.bool (bb5)) rfl) (fun hA => (mayT (vr (cond (bb5) (.bool (bb13)) undef) rfl) hA)) (vr (.bool (false)) rfl) fun bb15 hbb16 => (oA rfl (oZ (tN (hK2 _ _ (wpF_ret (postF_ret (fn := Tryd.f174) _ rfl [.bool (bb15)] (.bool (bb15)) rfl ⟨rfl, trivial⟩ ?_)))))))))))
 subst hbb6 hbb14 hbb16
 exact ⟨rfl, hE⟩

theorem lead_any (w : World) (c : UInt8) :
  Calls Tryd.prog 173 #[B8 c] w fun e w' => e = .returned (leadV (leadO c)) ∧ Ext w w' := by
 refine calls_of_wpF (args := [B8 (c)]) Tryd.func173 rfl 40 rfl (Nat.le_of_ble_eq_true rfl) ?_
 intro ρ0 hb
 have T0 : ρ0 0 = (B8 (c) : Value) := hb.get 0
 clear hb
 have hE := Ext.refl w
 refine sk fun K1 hK1 => (wt (oA rfl (oA rfl (oA rfl (oZ (tN (hK1 _ _ (sk fun K2 hK2 => (wpF_block (sk fun K3 hK3 => (wt (oM rfl (oS rfl (Yk.eqI (a := ((c).toNat : Nat)) (b := (128 : Nat)) T0 rfl (k_lss _ _ _ _) (oA rfl (oZ (tN (hK3 _ _ ?_))))))))))))))))))
 refine wpF_cond (((c).toNat) < (128)) (vr (.bool (decide (((c).toNat) < (128)))) rfl) (fun hc0 => ?_) (fun hc0 => ?_)
 ·refine sk fun K4 hK4 => (wt (oM rfl (oS rfl (Yk.convI wr20_ty5 wr20_ty21 T0 (ofByte .i32 (c) (fun n hn => wrap_i32 n (by omega))) (oA rfl (oA rfl (oA rfl (oZ (tN (hK4 _ _ (wpF_ret (inBlockF_ret (thenF_ret (postF_ret (fn := Tryd.f173) _ rfl [NI 0, .int .i32 (((c).toNat : Nat) : Int), .int .i32 ((0 : Nat) : Int)] (.tuple #[NI 0, .int .i32 (((c).toNat : Nat) : Int), .int .i32 ((0 : Nat) : Int)]) rfl ⟨rfl, rfl, rfl, trivial⟩ ?_))))))))))))))
  refine ⟨congrArg Ending.returned ?_, hE⟩
  unfold leadO
  rw [if_pos hc0]
  rfl
 refine sk fun K5 hK5 => (wt (oM rfl (oS rfl (Yk.eqI (a := ((c).toNat : Nat)) (b := (192 : Nat)) T0 rfl (k_geq _ _ _ _) (oM rfl (opsF_mayV (B8 (c)) rfl rfl (gT (vr (.bool (decide ((192) ≤ ((c).toNat)))) rfl)) (fun hG6 => Yk.move T0 ⟨rfl, rfl⟩) (opsF_mayV (.bool (decide (((c).toNat) < (224)))) rfl rfl (gT (vr (.bool (decide ((192) ≤ ((c).toNat)))) rfl)) (fun hG7 => Yk.eqI (a := (((c).toNat : Nat) : Int)) (b := ((224 : Nat) : Int)) (mayT (vr (cond ((decide ((192) ≤ ((c).toNat)))) (B8 (c)) undef) rfl) hG7) (vr (B8 (224)) rfl) (k_lss _ .u8 ((c).toNat) (224)) ⟨rfl, rfl⟩) (oS rfl (Yk.pickAndN (vr (.bool (decide ((192) ≤ ((c).toNat)))) rfl) (fun hA => (mayT (vr (cond ((decide ((192) ≤ ((c).toNat)))) (.bool (decide (((c).toNat) < (224)))) undef) rfl) hA)) (vr (.bool (false)) rfl) fun bb8 hbb9 => (oA rfl (oZ (tN (hK5 _ _ ?_)))))))))))))
 refine wpF_condB (bb8) (vr (.bool (bb8)) rfl) (fun hc1 => ?_) (fun hc1 => ?_)
 ·subst hbb9
  refine sk fun K10 hK10 => (wt (oM rfl (oS rfl (Yk.bin (xv := .int .u8 (((c).toNat : Nat) : Int)) (yv := .int .u8 ((31 : Nat) : Int)) T0 rfl rfl (u8_and _ _ _ (c.toNat_lt) (by decide)) (oS rfl (Yk.convI wr20_ty5 wr20_ty21 (vr (.int .u8 ((((c).toNat) &&& (31) : Nat) : Int)) rfl) (wrap_i32 (((c).toNat) &&& (31)) (Nat.lt_of_le_of_lt Nat.and_le_right (by decide))) (oA rfl (oA rfl (oA rfl (oZ (tN (hK10 _ _ (wpF_ret (inBlockF_ret (thenF_ret (postF_ret (fn := Tryd.f173) _ rfl [NI 1, .int .i32 ((((c).toNat) &&& (31) : Nat) : Int), .int .i32 ((128 : Nat) : Int)] (.tuple #[NI 1, .int .i32 ((((c).toNat) &&& (31) : Nat) : Int), .int .i32 ((128 : Nat) : Int)]) rfl ⟨rfl, rfl, rfl, trivial⟩ ?_))))))))))))))))
  refine ⟨congrArg Ending.returned ?_, hE⟩
  unfold leadO
  rw [if_neg hc0]
  rw [if_pos (by simpa using hc1)]
  rfl
 subst hbb9
 refine sk fun K11 hK11 => (wt (oM rfl (oS rfl (Yk.eqI (a := ((c).toNat : Nat)) (b := (224 : Nat)) T0 rfl (k_geq _ _ _ _) (oM rfl (opsF_mayV (B8 (c)) rfl rfl (gT (vr (.bool (decide ((224) ≤ ((c).toNat)))) rfl)) (fun hG12 => Yk.move T0 ⟨rfl, rfl⟩) (opsF_mayV (.bool (decide (((c).toNat) < (240)))) rfl rfl (gT (vr (.bool (decide ((224) ≤ ((c).toNat)))) rfl)) (fun hG13 => Yk.eqI (a := (((c).toNat : Nat) : Int)) (b := ((240 : Nat) : Int)) (mayT (vr (cond ((decide ((224) ≤ ((c).toNat)))) (B8 (c)) undef) rfl) hG13) (vr (B8 (240)) rfl) (k_lss _ .u8 ((c).toNat) (240)) ⟨rfl, rfl⟩) (oS rfl (Yk.pickAndN (vr (.bool (decide ((224) ≤ ((c).toNat)))) rfl) (fun hA => (mayT (vr (cond ((decide ((224) ≤ ((c).toNat)))) (.bool (decide (((c).toNat) < (240)))) undef) rfl) hA)) (vr (.bool (false)) rfl) fun bb14 hbb15 => (oA rfl (oZ (tN (hK11 _ _ ?_)))))))))))))
 refine wpF_condB (bb14) (vr (.bool (bb14)) rfl) (fun hc2 => ?_) (fun hc2 => ?_)
 ·subst hbb15
  refine sk fun K16 hK16 => (wt (oM rfl (oS rfl (Yk.bin (xv := .int .u8 (((c).toNat : Nat) : Int)) (yv := .int .u8 ((15 : Nat) : Int)) T0 rfl rfl (u8_and _ _ _ (c.toNat_lt) (by decide)) (oS rfl (Yk.convI wr20_ty5 wr20_ty21 (vr (.int .u8 ((((c).toNat) &&& (15) : Nat) : Int)) rfl) (wrap_i32 (((c).toNat) &&& (15)) (Nat.lt_of_le_of_lt Nat.and_le_right (by decide))) (oA rfl (oA rfl (oA rfl (oZ (tN (hK16 _ _ (wpF_ret (inBlockF_ret (thenF_ret (postF_ret (fn := Tryd.f173) _ rfl [NI 2, .int .i32 ((((c).toNat) &&& (15) : Nat) : Int), .int .i32 ((2048 : Nat) : Int)] (.tuple #[NI 2, .int .i32 ((((c).toNat) &&& (15) : Nat) : Int), .int .i32 ((2048 : Nat) : Int)]) rfl ⟨rfl, rfl, rfl, trivial⟩ ?_))))))))))))))))
  refine ⟨congrArg Ending.returned ?_, hE⟩
  unfold leadO
  rw [if_neg hc0]
  rw [if_neg (by simpa using hc1)]
  rw [if_pos (by simpa using hc2)]
  rfl
 subst hbb15
 refine sk fun K17 hK17 => (wt (oM rfl (oS rfl (Yk.eqI (a := ((c).toNat : Nat)) (b := (240 : Nat)) T0 rfl (k_geq _ _ _ _) (oM rfl (opsF_mayV (B8 (c)) rfl rfl (gT (vr (.bool (decide ((240) ≤ ((c).toNat)))) rfl)) (fun hG18 => Yk.move T0 ⟨rfl, rfl⟩) (opsF_mayV (.bool (decide (((c).toNat) < (248)))) rfl rfl (gT (vr (.bool (decide ((240) ≤ ((c).toNat)))) rfl)) (fun hG19 => Yk.eqI (a := (((c).toNat : Nat) : Int)) (b := ((248 : Nat) : Int)) (mayT (vr (cond ((decide ((240) ≤ ((c).toNat)))) (B8 (c)) undef) rfl) hG19) (vr (B8 (248)) rfl) (k_lss _ .u8 ((c).toNat) (248)) ⟨rfl, rfl⟩) (oS rfl (Yk.pickAndN (vr (.bool (decide ((240) ≤ ((c).toNat)))) rfl) (fun hA => (mayT (vr (cond ((decide ((240) ≤ ((c).toNat)))) (.bool (decide (((c).toNat) < (248)))) undef) rfl) hA)) (vr (.bool (false)) rfl) fun bb20 hbb21 => (oA rfl (oZ (tN (hK17 _ _ ?_)))))))))))))
 refine wpF_condB (bb20) (vr (.bool (bb20)) rfl) (fun hc3 => ?_) (fun hc3 => ?_)
 ·subst hbb21
  refine sk fun K22 hK22 => (wt (oM rfl (oS rfl (Yk.bin (xv := .int .u8 (((c).toNat : Nat) : Int)) (yv := .int .u8 ((7 : Nat) : Int)) T0 rfl rfl (u8_and _ _ _ (c.toNat_lt) (by decide)) (oS rfl (Yk.convI wr20_ty5 wr20_ty21 (vr (.int .u8 ((((c).toNat) &&& (7) : Nat) : Int)) rfl) (wrap_i32 (((c).toNat) &&& (7)) (Nat.lt_of_le_of_lt Nat.and_le_right (by decide))) (oA rfl (oA rfl (oA rfl (oZ (tN (hK22 _ _ (wpF_ret (inBlockF_ret (thenF_ret (postF_ret (fn := Tryd.f173) _ rfl [NI 3, .int .i32 ((((c).toNat) &&& (7) : Nat) : Int), .int .i32 ((65536 : Nat) : Int)] (.tuple #[NI 3, .int .i32 ((((c).toNat) &&& (7) : Nat) : Int), .int .i32 ((65536 : Nat) : Int)]) rfl ⟨rfl, rfl, rfl, trivial⟩ ?_))))))))))))))))
  refine ⟨congrArg Ending.returned ?_, hE⟩
  unfold leadO
  rw [if_neg hc0]
  rw [if_neg (by simpa using hc1)]
  rw [if_neg (by simpa using hc2)]
  rw [if_pos (by simpa using hc3)]
  rfl
 subst hbb21
 refine wpF_skip (bN (tN (hK2 _ _ (sk fun K23 hK23 => (wt (oA rfl (oA rfl (oA rfl (oZ (tN (hK23 _ _ (wpF_ret (postF_ret (fn := Tryd.f173) _ rfl [.int .i64 (-1 : Int), .int .i32 ((0 : Nat) : Int), .int .i32 ((0 : Nat) : Int)] (.tuple #[.int .i64 (-1 : Int), .int .i32 ((0 : Nat) : Int), .int .i32 ((0 : Nat) : Int)]) rfl ⟨rfl, rfl, rfl, trivial⟩ ?_)))))))))))))
 refine ⟨congrArg Ending.returned ?_, hE⟩
 unfold leadO
 rw [if_neg hc0]
 rw [if_neg (by simpa using hc1)]
 rw [if_neg (by simpa using hc2)]
 rw [if_neg (by simpa using hc3)]
 rfl

theorem udecode_any (w : World) (l : Bs) (a : Nat) (ha : a < l.length) (hl : l.length ≤ 4611686018427387904) :
  Calls Tryd.prog 162 #[St l, NI a] w fun e w' => (∃ r b k, e = .returned (.tuple #[.int .i32 ((r : Nat) : Int), NI b, .bool k]) ∧ decU l a = if k = true then some b else none) ∧ Ext w w' := by
 refine calls_of_wpF (args := [St (l), NI a]) Tryd.func162 rfl 62 rfl (Nat.le_of_ble_eq_true rfl) ?_
 intro ρ0 hb
 have T0 : ρ0 0 = (St (l) : Value) := hb.get 0
 have T1 : ρ0 1 = (NI a : Value) := hb.get 1
 clear hb
 have hE := Ext.refl w
 refine sk fun K1 hK1 => (wt (oA rfl (oA rfl (oA rfl (oZ ?_)))))
 rcases hq : leadO (l.getD a 0) with _ | ⟨n, r, m⟩
 ·refine tN (hK1 _ _ (sk fun K2 hK2 => (wt (oM rfl (oM rfl (oS rfl (Yk.idxSt (l := l) (i := a) wr20_ty9 T0 T1 (ha) (oS rfl (Yk.callA1 wr20_pl173 (vr (B8 (l.getD (a) 0)) rfl) (((show Calls _ _ _ _ (fun e w2 => e = .returned (.tuple #[.int .i64 ((-1) : Int), .int .i32 ((0 : Nat) : Int), .int .i32 ((0 : Nat) : Int)]) ∧ Ext w w2) from by have h := lead_any w (l.getD a 0); rw [hq] at h; exact h)).mono ?_))))))))))
  rintro e w4 ⟨rfl, hx3⟩
  refine ⟨_, rfl, ?_⟩
  have hE := hE.trans hx3
  refine oM rfl (oS rfl (Yk.extract (vs := [.int .i64 ((-1) : Int), .int .i32 ((0 : Nat) : Int), .int .i32 ((0 : Nat) : Int)]) (vr (.tuple #[.int .i64 ((-1) : Int), .int .i32 ((0 : Nat) : Int), .int .i32 ((0 : Nat) : Int)]) rfl) (show _ = some (.int .i64 ((-1) : Int) : Value) from rfl) (oS rfl (Yk.extract (vs := [.int .i64 ((-1) : Int), .int .i32 ((0 : Nat) : Int), .int .i32 ((0 : Nat) : Int)]) (vr (.tuple #[.int .i64 ((-1) : Int), .int .i32 ((0 : Nat) : Int), .int .i32 ((0 : Nat) : Int)]) rfl) (show _ = some (.int .i32 ((0 : Nat) : Int) : Value) from rfl) (oS rfl (Yk.extract (vs := [.int .i64 ((-1) : Int), .int .i32 ((0 : Nat) : Int), .int .i32 ((0 : Nat) : Int)]) (vr (.tuple #[.int .i64 ((-1) : Int), .int .i32 ((0 : Nat) : Int), .int .i32 ((0 : Nat) : Int)]) rfl) (show _ = some (.int .i32 ((0 : Nat) : Int) : Value) from rfl) (oA rfl (oA rfl (oA rfl (oZ (tN (hK2 _ _ (sk fun K5 hK5 => (sk fun K6 hK6 => (wt (oM rfl (oS rfl (Yk.eqI (vr (.int .i64 ((-1) : Int)) rfl) (vr (NI 0) rfl) (z_lss _ .i64 ((-1) : Int) ((0 : Nat) : Int)) (oM rfl (oN (d := 22) rfl rfl rfl (vr (.bool (true)) (congrArg Value.bool (decide_eq_true (by decide)))) rfl ?_))))))))))))))))))))
  refine oN (d := 22) rfl rfl rfl (vr (.bool (true)) (congrArg Value.bool (decide_eq_true (by decide)))) rfl (oN (d := 22) rfl rfl rfl (vr (.bool (true)) (congrArg Value.bool (decide_eq_true (by decide)))) rfl (oN (d := 22) rfl rfl rfl (vr (.bool (true)) (congrArg Value.bool (decide_eq_true (by decide)))) rfl (oN (d := 22) rfl rfl rfl (vr (.bool (true)) (congrArg Value.bool (decide_eq_true (by decide)))) rfl (oN (d := 22) rfl rfl rfl (vr (.bool (true)) (congrArg Value.bool (decide_eq_true (by decide)))) rfl (oS rfl (Yk.pickT (vr (.bool (true)) (congrArg Value.bool (decide_eq_true (by decide)))) (vr (.bool (true)) rfl) (oZ (tN (hK6 _ _ (wpF_true (vr (.bool (true)) rfl) (sk fun K7 hK7 => (wt (oA rfl (oA rfl (oA rfl (oZ (tN (hK7 _ _ ?_))))))))))))))))))
  refine wpF_ret (thenF_ret (postF_ret (fn := Tryd.f162) _ rfl [.int .i32 ((0 : Nat) : Int), NI 0, .bool (false)] (.tuple #[.int .i32 ((0 : Nat) : Int), NI 0, .bool (false)]) rfl ⟨rfl, rfl, rfl, trivial⟩ ?_))
  exact ⟨⟨_, _, _, rfl, decU_lead hq⟩, hE⟩
 obtain ⟨hn3, hr7, hr5, hm⟩ := lead_bound hq
 refine tN (hK1 _ _ (sk fun K8 hK8 => (wt (oM rfl (oM rfl (oS rfl (Yk.idxSt (l := l) (i := a) wr20_ty9 T0 T1 (ha) (oS rfl (Yk.callA1 wr20_pl173 (vr (B8 (l.getD (a) 0)) rfl) (((show Calls _ _ _ _ (fun e w2 => e = .returned (.tuple #[NI n, .int .i32 ((r : Nat) : Int), .int .i32 ((m : Nat) : Int)]) ∧ Ext w w2) from by have h := lead_any w (l.getD a 0); rw [hq] at h; exact h)).mono ?_))))))))))
 rintro e w10 ⟨rfl, hx9⟩
 refine ⟨_, rfl, ?_⟩
 have hE := hE.trans hx9
 refine oM rfl (oS rfl (Yk.extract (vs := [NI n, .int .i32 ((r : Nat) : Int), .int .i32 ((m : Nat) : Int)]) (vr (.tuple #[NI n, .int .i32 ((r : Nat) : Int), .int .i32 ((m : Nat) : Int)]) rfl) (show _ = some (NI n : Value) from rfl) (oS rfl (Yk.extract (vs := [NI n, .int .i32 ((r : Nat) : Int), .int .i32 ((m : Nat) : Int)]) (vr (.tuple #[NI n, .int .i32 ((r : Nat) : Int), .int .i32 ((m : Nat) : Int)]) rfl) (show _ = some (.int .i32 ((r : Nat) : Int) : Value) from rfl) (oS rfl (Yk.extract (vs := [NI n, .int .i32 ((r : Nat) : Int), .int .i32 ((m : Nat) : Int)]) (vr (.tuple #[NI n, .int .i32 ((r : Nat) : Int), .int .i32 ((m : Nat) : Int)]) rfl) (show _ = some (.int .i32 ((m : Nat) : Int) : Value) from rfl) (oA rfl (oA rfl (oA rfl (oZ (tN (hK8 _ _ (sk fun K11 hK11 => (sk fun K12 hK12 => (wt (oM rfl (oS rfl (Yk.eqI (a := (n : Nat)) (b := (0 : Nat)) rfl rfl (k_lss _ _ _ _) (oM rfl (oY (d := 22) rfl rfl (vr (.bool (false)) (congrArg Value.bool (decide_eq_false (by omega)))) (Yk.move T0 ?_)))))))))))))))))))))
 refine oY (d := 22) rfl rfl (vr (.bool (false)) (congrArg Value.bool (decide_eq_false (by omega)))) (Yk.lenSt (l := l) wr20_ty9 (vr (St (l)) rfl) (oY (d := 22) rfl rfl (vr (.bool (false)) (congrArg Value.bool (decide_eq_false (by omega)))) (Yk.move T1 (oY (d := 22) rfl rfl (vr (.bool (false)) (congrArg Value.bool (decide_eq_false (by omega)))) (Yk.bin (xv := NI l.length) (yv := NI a) rfl rfl rfl (i64_sub _ _ _ (by omega) (by omega)) (oY (d := 22) rfl rfl (vr (.bool (false)) (congrArg Value.bool (decide_eq_false (by omega)))) (Yk.move (vr (NI n) rfl) (oY (d := 22) rfl rfl (vr (.bool (false)) (congrArg Value.bool (decide_eq_false (by omega)))) (Yk.eqI (a := ((l.length) - (a) : Nat)) (b := (n : Nat)) rfl rfl (k_leq _ _ _ _) (oS rfl (Yk.pickF (vr (.bool (false)) (congrArg Value.bool (decide_eq_false (by omega)))) (vr (.bool (decide (((l.length) - (a)) ≤ (n)))) rfl) (oZ (tN (hK12 _ _ ?_))))))))))))))
 refine wpF_cond (((l.length) - (a)) ≤ (n)) (vr (.bool (decide (((l.length) - (a)) ≤ (n)))) rfl) (fun hc0 => ?_) (fun hc0 => ?_)
 ·refine sk fun K13 hK13 => (wt (oA rfl (oA rfl (oA rfl (oZ (tN (hK13 _ _ (wpF_ret (thenF_ret (postF_ret (fn := Tryd.f162) _ rfl [.int .i32 ((0 : Nat) : Int), NI 0, .bool (false)] (.tuple #[.int .i32 ((0 : Nat) : Int), NI 0, .bool (false)]) rfl ⟨rfl, rfl, rfl, trivial⟩ ?_))))))))))
  exact ⟨⟨_, _, _, rfl, decU_short hq (of_decide_eq_true (by simpa using hc0))⟩, hE⟩
 have hs : ¬ l.length - a ≤ n := fun h => by simp [h] at hc0
 refine wpF_skip (tN (hK11 _ _ (sk fun K14 hK14 => (sk fun K15 hK15 => (wt (oM rfl (oM rfl (oL_ [(0, St (l)), (1, NI a), (4, .int .i32 ((0 : Nat) : Int)), (5, NI 0), (6, .bool (false)), (7, NI n), (8, .int .i32 ((r : Nat) : Int)), (9, .int .i32 ((m : Nat) : Int)), (30, NI n), (31, NI 0)] ⟨T0, T1, rfl, rfl, rfl, rfl, rfl, rfl, rfl, rfl, trivial⟩ fun ρ16 ⟨T0, T1, T4, T5, T6, T7, T8, T9, T30, T31, _⟩ => (tN (hK15 _ _ (wpF_block (wpF_loop (fun (ρ : Slots) (wz : World) => ∃ i : Nat, ∃ q : Nat, ρ 0 = (St (l) : Value) ∧ ρ 1 = (NI a : Value) ∧ ρ 7 = (NI n : Value) ∧ ρ 9 = (.int .i32 ((m : Nat) : Int) : Value) ∧ ρ 30 = (NI n : Value) ∧ ρ 31 = (NI i : Value) ∧ ρ 8 = (.int .i32 ((q : Nat) : Int) : Value) ∧ Ext w wz ∧ (i ≤ n) ∧ (q < 2 ^ (7 + 6 * i)) ∧ (tailU l (a + 1) n r = tailU l (a + 1 + i) (n - i) q) ∧ True) (fun ρ _ => n - (intOf (ρ 31)).toNat) ⟨0, r, T0, T1, T7, T9, T30, T31, T8, hE, Nat.zero_le _, hr7, rfl, trivial⟩ ?_))))))))))))
 clear hE
 rintro ρ17 w18 ⟨i, q, T0, T1, T7, T9, T30, T31, T8, hE, hi, hqb, ht, -⟩
 have q31 := T31
 refine sk fun K19 hK19 => (wt (oS rfl (Yk.eqI (a := (i : Nat)) (b := (n : Nat)) T31 T30 (k_lss _ _ _ _) (oZ (tN (hK19 _ _ (sk fun K20 hK20 => ?_)))))))
 refine wpF_cond ((i) < (n)) (vr (.bool (decide ((i) < (n)))) rfl) (fun hc1 => ?_) (fun hc1 => ?_)
 ·have hlt : i < n := hc1
  refine wpF_skip (tN (hK20 _ _ (sk fun K21 hK21 => (wpF_block (sk fun K22 hK22 => (wt (oM rfl (oA rfl (oZ (tN (hK22 _ _ (sk fun K23 hK23 => (wt (oM rfl (oM rfl (oS rfl (Yk.bin (xv := NI a) (yv := NI 1) T1 rfl rfl (i64_add _ _ _ (by omega)) (oM rfl ?_))))))))))))))))))
  refine oS rfl (Yk.bin (xv := NI ((a) + (1))) (yv := NI i) rfl T31 rfl (i64_add _ _ _ (by omega)) (oS rfl (Yk.idxSt (l := l) (i := ((a) + (1)) + (i)) wr20_ty9 T0 (vr (NI (((a) + (1)) + (i))) rfl) (by omega) (oA rfl (oZ (tN (hK23 _ _ (sk fun K24 hK24 => (sk fun K25 hK25 => (wt (oM rfl (oS rfl (Yk.bin (xv := .int .u8 (((l.getD (((a) + (1)) + (i)) 0).toNat : Nat) : Int)) (yv := .int .u8 ((192 : Nat) : Int)) rfl rfl rfl (u8_and _ _ _ (UInt8.toNat_lt _) (by decide)) (oS rfl (Yk.eqI (a := (((l.getD (((a) + (1)) + (i)) 0).toNat) &&& (192) : Nat)) (b := (128 : Nat)) rfl rfl (k_neq _ _ _ _) (oZ (tN (hK25 _ _ ?_))))))))))))))))))
  refine wpF_cond ((((l.getD (((a) + (1)) + (i)) 0).toNat) &&& (192) : Nat) ≠ (128)) (vr (.bool (decide ((((l.getD (((a) + (1)) + (i)) 0).toNat) &&& (192) : Nat) ≠ (128)))) rfl) (fun hc2 => ?_) (fun hc2 => ?_)
  ·refine sk fun K26 hK26 => (wt (oA rfl (oA rfl (oA rfl (oZ (tN (hK26 _ _ (wpF_ret (thenF_ret (inBlockF_ret (thenF_ret (thenF_ret (inBlockF_ret (thenF_ret (postF_ret (fn := Tryd.f162) _ rfl [.int .i32 ((0 : Nat) : Int), NI 0, .bool (false)] (.tuple #[.int .i32 ((0 : Nat) : Int), NI 0, .bool (false)]) rfl ⟨rfl, rfl, rfl, trivial⟩ ?_)))))))))))))))
   exact ⟨⟨_, _, _, rfl, decU_bad hq (ht.trans (tailU_bad hlt hc2))⟩, hE⟩
  refine wpF_skip (tN (hK24 _ _ (wt (oM rfl (oS rfl (Yk.bin (xv := .int .i32 ((q : Nat) : Int)) (yv := .int .u64 ((6 : Nat) : Int)) T8 rfl rfl (i32_shl _ (q) _ (6) (by decide) (tailU_small hqb hlt hn3)) (oM rfl (oS rfl (Yk.bin (xv := .int .u8 (((l.getD (((a) + (1)) + (i)) 0).toNat : Nat) : Int)) (yv := .int .u8 ((63 : Nat) : Int)) rfl rfl rfl (u8_and _ _ _ (UInt8.toNat_lt _) (by decide)) (oS rfl (Yk.convI wr20_ty5 wr20_ty21 (vr (.int .u8 ((((l.getD (((a) + (1)) + (i)) 0).toNat) &&& (63) : Nat) : Int)) rfl) (wrap_i32 (((l.getD (((a) + (1)) + (i)) 0).toNat) &&& (63)) (and63 _)) (oS rfl (Yk.bin (xv := .int .i32 (((q) * 2 ^ (6) : Nat) : Int)) (yv := .int .i32 ((((l.getD (((a) + (1)) + (i)) 0).toNat) &&& (63) : Nat) : Int)) rfl rfl rfl (i32_or _ ((q) * 2 ^ (6)) (((l.getD (((a) + (1)) + (i)) 0).toNat) &&& (63)) (tailU_small hqb hlt hn3) (and63 _)) (oA rfl (oZ (bN (tN (hK21 _ _ (wt (oS rfl (Yk.bin (xv := NI i) (yv := NI 1) T31 rfl rfl (i64_add _ _ _ (by omega)) (oM rfl ?_))))))))))))))))))))))
  refine oL_ [(0, St (l)), (1, NI a), (7, NI n), (8, .int .i32 ((((q) * 2 ^ (6)) ||| (((l.getD (((a) + (1)) + (i)) 0).toNat) &&& (63)) : Nat) : Int)), (9, .int .i32 ((m : Nat) : Int)), (10, NI i), (11, B8 (l.getD (((a) + (1)) + (i)) 0)), (30, NI n), (31, NI ((i) + (1)))] ⟨T0, T1, T7, rfl, T9, T31, rfl, T30, rfl, trivial⟩ fun ρ27 ⟨T0, T1, T7, T8, T9, T10, T11, T30, T31, _⟩ => (tN (And.intro ⟨i + 1, (q * 2 ^ 6 ||| ((l.getD (a + 1 + i) 0).toNat &&& 63)), T0, T1, T7, T9, T30, T31, T8, hE, by omega, tailU_bound hqb, ht.trans (tailU_step hlt (Decidable.of_not_not hc2)), trivial⟩ ?_))
  show n - (intOf (ρ27 31)).toNat < n - (intOf (ρ17 31)).toNat
  rw [T31, q31]
  simp only [intOf, Int.toNat_natCast]; omega
 have hni : ¬ i < n := hc1
 refine wpF_exit (thenF_exit (thenF_exit (inBlockF_hit (tN (hK14 _ _ (sk fun K28 hK28 => (wt (oM rfl (oM rfl (oM rfl (oS rfl (Yk.bin (xv := NI a) (yv := NI n) T1 T7 rfl (i64_add _ _ _ (by omega)) (oS rfl (Yk.bin (xv := NI ((a) + (n))) (yv := NI 1) rfl rfl rfl (i64_add _ _ _ (by omega)) (oM rfl (oM rfl (oS rfl (Yk.eqI (a := (q : Nat)) (b := (m : Nat)) T8 T9 (k_geq _ _ _ _) (oM rfl (opsF_mayV (.int .i32 ((q : Nat) : Int)) rfl rfl (gT (vr (.bool (decide ((m) ≤ (q)))) rfl)) (fun hG29 => Yk.move T8 ⟨rfl, rfl⟩) (opsF_mayC (.bool (mayB q)) rfl rfl (gT (vr (.bool (decide ((m) ≤ (q)))) rfl)) (fun hG30 => Yk.callA1 wr20_pl174 (mayT (vr (cond ((decide ((m) ≤ (q)))) (.int .i32 ((q : Nat) : Int)) undef) rfl) hG30) ((may_any _ q).mono (by rintro e w2 ⟨rfl, hx⟩; exact ⟨_, rfl, rfl, hx⟩))) fun w32 hx33 => ?_)))))))))))))))))))))
 have hE := hE.trans hx33
 refine oS rfl (Yk.pickAndN (vr (.bool (decide ((m) ≤ (q)))) rfl) (fun hA => (mayT (vr (cond ((decide ((m) ≤ (q)))) (.bool (mayB q)) undef) rfl) hA)) (vr (.bool (false)) rfl) fun bb34 hbb35 => (oA rfl (oA rfl (oA rfl (oZ (tN (hK28 _ _ (wpF_ret (postF_ret (fn := Tryd.f162) _ rfl [.int .i32 ((q : Nat) : Int), NI (((a) + (n)) + (1)), .bool (bb34)] (.tuple #[.int .i32 ((q : Nat) : Int), NI (((a) + (n)) + (1)), .bool (bb34)]) rfl ⟨T8, rfl, rfl, trivial⟩ ?_)))))))))
 subst hbb35
 exact ⟨⟨_, _, _, rfl, decU_at hq hs (ht.trans (by rw [show n - i = 0 by omega]; rfl))⟩, hE⟩

theorem check_any (w : World) (l : Bs) (hl : l.length ≤ 4611686018427387904) :
  Calls Tryd.prog 148 #[St l] w fun e w' => (∃ p, e = .returned (.tuple #[NI p, NI (if utfB l 0 = true then 0 else 5)])) ∧ Ext w w' := by
 refine calls_of_wpF (args := [St (l)]) Tryd.func148 rfl 22 rfl (Nat.le_of_ble_eq_true rfl) ?_
 intro ρ0 hb
 have T0 : ρ0 0 = (St (l) : Value) := hb.get 0
 clear hb
 have hE := Ext.refl w
 refine sk fun K1 hK1 => (wt (oA rfl (oA rfl (oL_ [(0, St (l)), (2, NI 0), (3, NI 0)] ⟨T0, rfl, rfl, trivial⟩ fun ρ2 ⟨T0, T2, T3, _⟩ => (tN (hK1 _ _ (sk fun K3 hK3 => (wpF_block (wpF_loop (fun (ρ : Slots) (wz : World) => ∃ p : Nat, ρ 0 = (St (l) : Value) ∧ ρ 2 = (NI p : Value) ∧ Ext w wz ∧ (p ≤ l.length) ∧ (utfB l 0 = utfB l p) ∧ True) (fun ρ _ => l.length - (intOf (ρ 2)).toNat) ⟨0, T0, T2, hE, Nat.zero_le _, rfl, trivial⟩ ?_)))))))))
 clear hE
 rintro ρ4 w5 ⟨p, T0, T2, hE, hp, ht, -⟩
 have q2 := T2
 refine sk fun K6 hK6 => (sk fun K7 hK7 => (wt (oM rfl (oM rfl (oS rfl (Yk.lenSt (l := l) wr20_ty9 T0 (oS rfl (Yk.eqI (a := (p : Nat)) (b := (l.length : Nat)) T2 rfl (k_lss _ _ _ _) (oZ (tN (hK7 _ _ ?_)))))))))))
 refine wpF_cond ((p) < (l.length)) (vr (.bool (decide ((p) < (l.length)))) rfl) (fun hc0 => ?_) (fun hc0 => ?_)
 ·have hlt : p < l.length := hc0
  refine wpF_skip (tN (hK6 _ _ (wpF_block (sk fun K8 hK8 => (wt (oM rfl (oM rfl (oS rfl (Yk.callA2 wr20_pl162 T0 T2 ((udecode_any _ l p hlt hl).mono ?_))))))))))
  rintro e w10 ⟨⟨r, b, k, rfl, hd⟩, hx9⟩
  refine ⟨_, rfl, ?_⟩
  have hE := hE.trans hx9
  refine oM rfl (oS rfl (Yk.extract (vs := [.int .i32 ((r : Nat) : Int), NI b, .bool (k)]) (vr (.tuple #[.int .i32 ((r : Nat) : Int), NI b, .bool (k)]) rfl) (show _ = some (.int .i32 ((r : Nat) : Int) : Value) from rfl) (oS rfl (Yk.extract (vs := [.int .i32 ((r : Nat) : Int), NI b, .bool (k)]) (vr (.tuple #[.int .i32 ((r : Nat) : Int), NI b, .bool (k)]) rfl) (show _ = some (NI b : Value) from rfl) (oS rfl (Yk.extract (vs := [.int .i32 ((r : Nat) : Int), NI b, .bool (k)]) (vr (.tuple #[.int .i32 ((r : Nat) : Int), NI b, .bool (k)]) rfl) (show _ = some (.bool (k) : Value) from rfl) (oA rfl (oA rfl (oA rfl (oZ (tN (hK8 _ _ (sk fun K11 hK11 => (sk fun K12 hK12 => (wt (oM rfl (oS rfl (Yk.notB (vr (.bool (k)) rfl) (oZ (tN (hK12 _ _ ?_)))))))))))))))))))))
  refine wpF_condB (!(k)) (vr (.bool (!(k))) rfl) (fun hc1 => ?_) (fun hc1 => ?_)
  ·have hk : k = false := by simpa using hc1
   rw [hk, if_neg (by decide)] at hd
   refine sk fun K13 hK13 => (wt (oM rfl (oA rfl (oA rfl (oZ (tN (hK13 _ _ (wpF_ret (thenF_ret (inBlockF_ret (thenF_ret (inBlockF_ret (thenF_ret (postF_ret (fn := Tryd.f148) _ rfl [NI p, NI 5] (.tuple #[NI p, NI 5]) rfl ⟨T2, rfl, trivial⟩ ?_))))))))))))))
   exact ⟨⟨_, by rw [ht, utfB_none hlt hd]; rfl⟩, hE⟩
  have hk : k = true := by simpa using hc1
  rw [if_pos hk] at hd
  refine wpF_skip (tN (hK11 _ _ (wt (oM rfl (oA rfl (oL_ [(0, St (l)), (2, NI b), (5, NI b), (6, .bool (k))] ⟨T0, rfl, rfl, rfl, trivial⟩ fun ρ14 ⟨T0, T2, T5, T6, _⟩ => (bN (tN (And.intro ⟨b, T0, T2, hE, (decU_gt hd).2, ht.trans (utfB_some hlt hd), trivial⟩ ?_)))))))))
  show l.length - (intOf (ρ14 2)).toNat < l.length - (intOf (ρ4 2)).toNat
  rw [T2, q2]
  have := decU_gt hd; simp only [intOf, Int.toNat_natCast]; omega
 have hlt := hc0
 refine wpF_exit (thenF_exit (thenF_exit (inBlockF_hit (tN (hK3 _ _ (sk fun K15 hK15 => (wt (oA rfl (oA rfl (oZ (tN (hK15 _ _ (wpF_ret (postF_ret (fn := Tryd.f148) _ rfl [NI 0, NI 0] (.tuple #[NI 0, NI 0]) rfl ⟨rfl, rfl, trivial⟩ ?_))))))))))))))
 exact ⟨⟨_, by rw [ht, utfB_end (show ¬ p < l.length by omega)]; rfl⟩, hE⟩

theorem allright_any (w : World) (r : Nat) :
  Calls Tryd.prog 121 #[.int .i32 (r : Int)] w fun e w' => e = .returned (.bool true) ∧ Ext w w' := by
 refine calls_of_wpF (args := [.int .i32 ((r : Nat) : Int)]) Tryd.func121 rfl 3 rfl (Nat.le_of_ble_eq_true rfl) ?_
 intro ρ0 hb
 have T0 : ρ0 0 = (.int .i32 ((r : Nat) : Int) : Value) := hb.get 0
 clear hb
 have hE := Ext.refl w
 refine sk fun K1 hK1 => (wt (oA rfl (oZ (tN (hK1 _ _ (sk fun K2 hK2 => (wt (oA rfl (oZ (tN (hK2 _ _ (wpF_ret (postF_ret (fn := Tryd.f121) _ rfl [.bool (true)] (.bool (true)) rfl ⟨rfl, trivial⟩ ?_)))))))))))))
 exact ⟨rfl, hE⟩

theorem plain_any (w : World) (l : Bs) (hl : l.length ≤ 4611686018427387904) :
  Calls Tryd.prog 120 #[St l, .func (.func 121) #[] #[]] w fun e w' => e = .returned (.bool (utfB l 0)) ∧ Ext w w' := by
 refine calls_of_wpF (args := [St (l), .func (.func 121) #[] #[]]) Tryd.func120 rfl 25 rfl (Nat.le_of_ble_eq_true rfl) ?_
 intro ρ0 hb
 have T0 : ρ0 0 = (St (l) : Value) := hb.get 0
 have T1 : ρ0 1 = (.func (.func 121) #[] #[] : Value) := hb.get 1
 clear hb
 have hE := Ext.refl w
 refine sk fun K1 hK1 => (wt (oA rfl (oZ ?_)))
 rcases hT : utfB l 0 with _ | _
 ·refine tN (hK1 _ _ (sk fun K2 hK2 => (sk fun K3 hK3 => (wt (oM rfl (oS rfl (Yk.callA1 wr20_pl148 T0 (((show Calls _ _ _ _ (fun e w2 => (∃ p, e = .returned (.tuple #[NI p, NI 5])) ∧ Ext w w2) from by have h := check_any w l hl; rw [hT] at h; exact h)).mono ?_))))))))
  rintro e w5 ⟨⟨p0, rfl⟩, hx4⟩
  refine ⟨_, rfl, ?_⟩
  have hE := hE.trans hx4
  refine oM rfl (oS rfl (Yk.extract (vs := [NI p0, NI 5]) (vr (.tuple #[NI p0, NI 5]) rfl) (show _ = some (NI p0 : Value) from rfl) (oS rfl (Yk.extract (vs := [NI p0, NI 5]) (vr (.tuple #[NI p0, NI 5]) rfl) (show _ = some (NI 5 : Value) from rfl) (oA rfl (oA rfl (oZ (tN (hK3 _ _ (sk fun K6 hK6 => (wt (oM rfl (oS rfl (Yk.eqI (a := (5 : Nat)) (b := (0 : Nat)) rfl rfl (k_neq _ _ _ _) (oZ (tN (hK6 _ _ (wpF_true (vr (.bool (true)) (congrArg Value.bool (decide_eq_true (by decide)))) (sk fun K7 hK7 => (wt ?_))))))))))))))))))))
  refine oA rfl (oZ (tN (hK7 _ _ (wpF_ret (thenF_ret (postF_ret (fn := Tryd.f120) _ rfl [.bool (false)] (.bool (false)) rfl ⟨rfl, trivial⟩ ?_))))))
  exact ⟨by rw [hT], hE⟩
 refine tN (hK1 _ _ (sk fun K8 hK8 => (sk fun K9 hK9 => (wt (oM rfl (oS rfl (Yk.callA1 wr20_pl148 T0 (((show Calls _ _ _ _ (fun e w2 => (∃ p, e = .returned (.tuple #[NI p, NI 0])) ∧ Ext w w2) from by have h := check_any w l hl; rw [hT] at h; exact h)).mono ?_))))))))
 rintro e w11 ⟨⟨p0, rfl⟩, hx10⟩
 refine ⟨_, rfl, ?_⟩
 have hE := hE.trans hx10
 refine oM rfl (oS rfl (Yk.extract (vs := [NI p0, NI 0]) (vr (.tuple #[NI p0, NI 0]) rfl) (show _ = some (NI p0 : Value) from rfl) (oS rfl (Yk.extract (vs := [NI p0, NI 0]) (vr (.tuple #[NI p0, NI 0]) rfl) (show _ = some (NI 0 : Value) from rfl) (oA rfl (oA rfl (oZ (tN (hK9 _ _ (sk fun K12 hK12 => (wt (oM rfl (oS rfl (Yk.eqI (a := (0 : Nat)) (b := (0 : Nat)) rfl rfl (k_neq _ _ _ _) (oZ (tN (hK12 _ _ (wpF_false (vr (.bool (false)) (congrArg Value.bool (decide_eq_false (by decide)))) (wpF_skip (tN (hK8 _ _ ?_)))))))))))))))))))))
 refine sk fun K13 hK13 => (sk fun K14 hK14 => (wt (oM rfl (oS rfl (Yk.rangeSt (l := l) wr20_ty9 T0 fun n15 w16 hn17 hb18 hx19 hs20 => ?_)))))
 have hA21 := Ext.refl w11
 have hea22 := hE
 have hz23 := hE.size
 have hE := hE.trans hx19
 have hA21 := hA21.trans hx19
 have hb24 := hb18; clear hb18
 have hl25 : n15 < w16.heap.size := by omega
 refine oL_ [(0, St (l)), (1, .func (.func 121) #[] #[]), (4, .bool (false)), (6, NI 0), (15, .bool (false)), (17, PQ n15 0)] ⟨T0, T1, rfl, rfl, (congrArg Value.bool (decide_eq_false (by decide))), rfl, trivial⟩ fun ρ26 ⟨T0, T1, T4, T6, T15, T17, _⟩ => (tN (hK14 _ _ (wpF_block (wpF_loop (fun (ρ : Slots) (wz : World) => ∃ p : Nat, ρ 0 = (St (l) : Value) ∧ ρ 1 = (.func (.func 121) #[] #[] : Value) ∧ ρ 6 = (NI 0 : Value) ∧ ρ 15 = (.bool (false) : Value) ∧ ρ 17 = (PQ n15 0 : Value) ∧ Ext w wz ∧ Ext w11 wz ∧ wz.heap[n15]? = some (.stringIter ⟨l.toArray⟩ p) ∧ True) (fun ρ wz => l.length - wz.iterPos n15) ⟨0, T0, T1, T6, T15, T17, hE, hA21, hb24, trivial⟩ ?_))))
 clear hb24
 clear hE hA21
 rintro ρ27 w28 ⟨p, T0, T1, T6, T15, T17, hE, hA21, hI, -⟩
 have hI0 := iterPos_at hI
 by_cases hlt : p < l.length
 ·refine sk fun K29 hK29 => (wt (oS rfl (Yk.nextSt (l := l) (p := p) T17 hI hlt fun n30 n31 w32 hlt33 hb34 hg35 hs36 => ?_)))
  have hE := row_fresh hE hg35 (Nat.le_trans hz23 (by omega))
  have hA21 := row_fresh hA21 hg35 (Nat.le_trans (Nat.le_refl _) (by omega))
  clear hI
  have hI := hb34; clear hb34
  have hl37 := bl hI
  refine oS rfl (Yk.extract (vs := [.bool (true), NI p, .int .i32 ((n31 : Nat) : Int)]) (vr (.tuple #[.bool (true), NI p, .int .i32 ((n31 : Nat) : Int)]) rfl) (show _ = some (.bool (true) : Value) from rfl) (oZ (tN (hK29 _ _ (sk fun K38 hK38 => (wpF_true (vr (.bool (true)) rfl) (wpF_skip (tN (hK38 _ _ (wpF_block (sk fun K39 hK39 => (wt (oS rfl (Yk.extract (vs := [.bool (true), NI p, .int .i32 ((n31 : Nat) : Int)]) (vr (.tuple #[.bool (true), NI p, .int .i32 ((n31 : Nat) : Int)]) rfl) (show _ = some (.int .i32 ((n31 : Nat) : Int) : Value) from rfl) (oA rfl (oZ (tN (hK39 _ _ (sk fun K40 hK40 => (wt ?_))))))))))))))))))))
  refine oM rfl (oM rfl (oS rfl (Yk.clo wr20_pl121 (caps := #[]) T1 #[.int .i32 ((n31 : Nat) : Int)] (by simp only [List.map_toArray, List.map_cons, List.map_nil, List.append_toArray, List.cons_append, List.nil_append]; exact congrArg List.toArray (list1 (vr (.int .i32 ((n31 : Nat) : Int)) rfl))) ((allright_any _ n31).mono ?_))))
  rintro e w42 ⟨rfl, hx41⟩
  refine ⟨_, rfl, ?_⟩
  have hE := hE.trans hx41
  have hA21 := hA21.trans hx41
  have hI := eb hx41 hI
  refine oS rfl (Yk.notB (vr (.bool (true)) rfl) (oZ (tN (hK40 _ _ (wpF_false (vr (.bool (false)) rfl) (wpF_skip (bN (frame_named [(0, St (l)), (1, .func (.func 121) #[] #[]), (6, NI 0), (8, .int .i32 ((n31 : Nat) : Int)), (15, .bool (false)), (17, PQ n15 0), (18, .tuple #[.bool (true), NI p, .int .i32 ((n31 : Nat) : Int)]), (19, .bool (true)), (24, .bool (false))] ⟨T0, T1, T6, rfl, T15, T17, rfl, rfl, rfl, trivial⟩ fun ρ43 ⟨T0, T1, T6, T8, T15, T17, T18, T19, T24, _⟩ => (tN (And.intro ⟨n30, T0, T1, T6, T15, T17, hE, hA21, hI, trivial⟩ ?_))))))))))
  show l.length - w42.iterPos n15 < l.length - w28.iterPos n15
  rw [iterPos_at hI, hI0]; omega
 refine sk fun K44 hK44 => (wt (oS rfl (Yk.nextEnd (l := l) (p := p) T17 hI hlt (oS rfl (Yk.extract (vs := [.bool (false)]) (vr (.tuple #[.bool (false)]) rfl) (show _ = some (.bool (false) : Value) from rfl) (oZ (tN (hK44 _ _ (sk fun K45 hK45 => (wpF_false (vr (.bool (false)) rfl) (wpF_exit (thenF_exit (thenF_exit (inBlockF_hit (tN (hK13 _ _ (sk fun K46 hK46 => (wt (oA rfl (oZ (tN (hK46 _ _ (wpF_ret ?_)))))))))))))))))))))))
 refine postF_ret (fn := Tryd.f120) _ rfl [.bool (true)] (.bool (true)) rfl ⟨rfl, trivial⟩ ?_
 exact ⟨by rw [hT], hE⟩

theorem note_any (w : World) (l : Bs) :
  Calls Tryd.prog 73 #[St l] w fun e w' => e = .returned (.bool (noteB l)) ∧ Ext w w' := by
 refine calls_of_wpF (args := [St (l)]) Tryd.func73 rfl 10 rfl (Nat.le_of_ble_eq_true rfl) ?_
 intro ρ0 hb
 have T0 : ρ0 0 = (St (l) : Value) := hb.get 0
 clear hb
 have hE := Ext.refl w
 refine sk fun K1 hK1 => (wt (oA rfl (oZ (tN (hK1 _ _ (sk fun K2 hK2 => (wt (oM rfl (oS rfl (Yk.lenSt (l := l) wr20_ty9 T0 (oS rfl (Yk.eqI (a := (l.length : Nat)) (b := (256 : Nat)) rfl rfl (k_leq _ _ _ _) (oM rfl (opsF_mayV (St (l)) rfl rfl (gT (vr (.bool (decide ((l.length) ≤ (256)))) rfl)) (fun hG3 => Yk.move T0 ⟨rfl, rfl⟩) (opsF_mayC (.bool (utfB l 0)) rfl rfl (gT (vr (.bool (decide ((l.length) ≤ (256)))) rfl)) (fun hG4 => Yk.callA2 wr20_pl120 (mayT (vr (cond ((decide ((l.length) ≤ (256)))) (St (l)) undef) rfl) hG4) rfl ((plain_any _ l (by simp only [gA, gB, gC, gD, gE] at hG4; omega)).mono (by rintro e w2 ⟨rfl, hx⟩; exact ⟨_, rfl, rfl, hx⟩))) fun w6 hx7 => ?_)))))))))))))))
 have hE := hE.trans hx7
 refine oS rfl (Yk.pickAndN (vr (.bool (decide ((l.length) ≤ (256)))) rfl) (fun hA => (mayT (vr (cond ((decide ((l.length) ≤ (256)))) (.bool (utfB l 0)) undef) rfl) hA)) (vr (.bool (false)) rfl) fun bb8 hbb9 => (oA rfl (oZ (tN (hK2 _ _ (wpF_ret (postF_ret (fn := Tryd.f73) _ rfl [.bool (bb8)] (.bool (bb8)) rfl ⟨rfl, trivial⟩ ?_)))))))
 subst hbb9
 exact ⟨rfl, hE⟩
open Go.RowKit
set_option maxRecDepth 100000
theorem wr1_ty9 : Tryd.prog.underlying 9 = some (.string) := by kernel_rfl
theorem wr1_pl105 : Plain Tryd.prog 105 := fun _ _ => by kernel_rfl
theorem wr1_pl106 : Plain Tryd.prog 106 := fun _ _ => by kernel_rfl
theorem sign_any (w : World) (c : UInt8) :
  Calls Tryd.prog 106 #[B8 c] w fun e w' => e = .returned (.bool (signB c)) ∧ Ext w w' := by
 refine calls_of_wpF (args := [B8 (c)]) Tryd.func106 rfl 37 rfl (Nat.le_of_ble_eq_true rfl) ?_
 intro ρ0 hb
 have T0 : ρ0 0 = (B8 (c) : Value) := hb.get 0
 clear hb
 have hE := Ext.refl w
 refine sk fun K1 hK1 => (wt (oA rfl (oZ (tN (hK1 _ _ (sk fun K2 hK2 => (wt (oM rfl (oS rfl (Yk.eqI (a := ((c).toNat : Nat)) (b := (97 : Nat)) T0 rfl (k_geq _ _ _ _) (oM rfl (opsF_mayV (B8 (c)) rfl rfl (gT (vr (.bool (decide ((97) ≤ ((c).toNat)))) rfl)) (fun hG3 => Yk.move T0 ⟨rfl, rfl⟩) (opsF_mayV (.bool (decide (((c).toNat) ≤ (122)))) rfl rfl (gT (vr (.bool (decide ((97) ≤ ((c).toNat)))) rfl)) (fun hG4 => Yk.eqI (a := (((c).toNat : Nat) : Int)) (b := ((122 : Nat) : Int)) (mayT (vr (cond ((decide ((97) ≤ ((c).toNat)))) (B8 (c)) undef) rfl) hG4) (vr (B8 (122)) rfl) (k_leq _ .u8 ((c).toNat) (122)) ⟨rfl, rfl⟩) (oS rfl (Yk.pickAndN (vr (.bool (decide ((97) ≤ ((c).toNat)))) rfl) (fun hA => (mayT (vr (cond ((decide ((97) ≤ ((c).toNat)))) (.bool (decide (((c).toNat) ≤ (122)))) undef) rfl) hA)) (vr (.bool (false)) rfl) fun bb5 hbb6 => (oM rfl (opsF_mayV (B8 (c)) rfl rfl (gF (vr (.bool (bb5)) rfl)) (fun hG7 => Yk.move T0 ⟨rfl, rfl⟩) (opsF_mayV (.bool (decide ((65) ≤ ((c).toNat)))) rfl rfl (gF (vr (.bool (bb5)) rfl)) (fun hG8 => Yk.eqI (a := (((c).toNat : Nat) : Int)) (b := ((65 : Nat) : Int)) (mayT (vr (cond (!bb5) (B8 (c)) undef) rfl) hG8) (vr (B8 (65)) rfl) (k_geq _ .u8 ((c).toNat) (65)) ⟨rfl, rfl⟩) ?_))))))))))))))))))
 refine opsF_mayV (.bool (decide ((65) ≤ ((c).toNat)))) rfl rfl (gF (vr (.bool (bb5)) rfl)) (fun hG9 => Yk.move (mayT (vr (cond (!bb5) (.bool (decide ((65) ≤ ((c).toNat)))) undef) rfl) hG9) ⟨rfl, rfl⟩) (opsF_mayV (B8 (c)) rfl rfl (geT (vr (cond (!bb5) (.bool (decide ((65) ≤ ((c).toNat)))) undef) rfl)) (fun hG10 => Yk.move T0 ⟨rfl, rfl⟩) (opsF_mayV (.bool (decide (((c).toNat) ≤ (90)))) rfl rfl (geT (vr (cond (!bb5) (.bool (decide ((65) ≤ ((c).toNat)))) undef) rfl)) (fun hG11 => Yk.eqI (a := (((c).toNat : Nat) : Int)) (b := ((90 : Nat) : Int)) (mayT (vr (cond ((!bb5) && (decide ((65) ≤ ((c).toNat)))) (B8 (c)) undef) rfl) hG11) (vr (B8 (90)) rfl) (k_leq _ .u8 ((c).toNat) (90)) ⟨rfl, rfl⟩) (opsF_mayB ((decide ((65) ≤ ((c).toNat))) && (decide (((c).toNat) ≤ (90)))) rfl rfl (gF (vr (.bool (bb5)) rfl)) (fun hG12 => Yk.pickAnd (mayT (vr (cond (!bb5) (.bool (decide ((65) ≤ ((c).toNat)))) undef) rfl) hG12) (fun hA => (mayT (vr (cond ((!bb5) && (decide ((65) ≤ ((c).toNat)))) (.bool (decide (((c).toNat) ≤ (90)))) undef) rfl) (and_i hG12 hA))) (vr (.bool (false)) rfl) ⟨rfl, rfl⟩) fun bb13 hbb14 => (oS rfl (Yk.pickOrN (vr (.bool (bb5)) rfl) (vr (.bool (true)) rfl) (fun hA => (mayT (vr (cond (!bb5) (.bool (bb13)) undef) rfl) (not_i hA))) fun bb15 hbb16 => (oM rfl (opsF_mayV (B8 (c)) rfl rfl (gF (vr (.bool (bb15)) rfl)) (fun hG17 => Yk.move T0 ⟨rfl, rfl⟩) (opsF_mayV (.bool (decide ((48) ≤ ((c).toNat)))) rfl rfl (gF (vr (.bool (bb15)) rfl)) (fun hG18 => Yk.eqI (a := (((c).toNat : Nat) : Int)) (b := ((48 : Nat) : Int)) (mayT (vr (cond (!bb15) (B8 (c)) undef) rfl) hG18) (vr (B8 (48)) rfl) (k_geq _ .u8 ((c).toNat) (48)) ⟨rfl, rfl⟩) (opsF_mayV (.bool (decide ((48) ≤ ((c).toNat)))) rfl rfl (gF (vr (.bool (bb15)) rfl)) (fun hG19 => Yk.move (mayT (vr (cond (!bb15) (.bool (decide ((48) ≤ ((c).toNat)))) undef) rfl) hG19) ⟨rfl, rfl⟩) (opsF_mayV (B8 (c)) rfl rfl (geT (vr (cond (!bb15) (.bool (decide ((48) ≤ ((c).toNat)))) undef) rfl)) (fun hG20 => Yk.move T0 ⟨rfl, rfl⟩) (opsF_mayV (.bool (decide (((c).toNat) ≤ (57)))) rfl rfl (geT (vr (cond (!bb15) (.bool (decide ((48) ≤ ((c).toNat)))) undef) rfl)) (fun hG21 => Yk.eqI (a := (((c).toNat : Nat) : Int)) (b := ((57 : Nat) : Int)) (mayT (vr (cond ((!bb15) && (decide ((48) ≤ ((c).toNat)))) (B8 (c)) undef) rfl) hG21) (vr (B8 (57)) rfl) (k_leq _ .u8 ((c).toNat) (57)) ⟨rfl, rfl⟩) (opsF_mayB ((decide ((48) ≤ ((c).toNat))) && (decide (((c).toNat) ≤ (57)))) rfl rfl (gF (vr (.bool (bb15)) rfl)) (fun hG22 => Yk.pickAnd (mayT (vr (cond (!bb15) (.bool (decide ((48) ≤ ((c).toNat)))) undef) rfl) hG22) (fun hA => (mayT (vr (cond ((!bb15) && (decide ((48) ≤ ((c).toNat)))) (.bool (decide (((c).toNat) ≤ (57)))) undef) rfl) (and_i hG22 hA))) (vr (.bool (false)) rfl) ⟨rfl, rfl⟩) fun bb23 hbb24 => (oS rfl (Yk.pickOrN (vr (.bool (bb15)) rfl) (vr (.bool (true)) rfl) (fun hA => (mayT (vr (cond (!bb15) (.bool (bb23)) undef) rfl) (not_i hA))) fun bb25 hbb26 => ?_))))))))))))))
 refine oM rfl (opsF_mayV (B8 (c)) rfl rfl (gF (vr (.bool (bb25)) rfl)) (fun hG27 => Yk.move T0 ⟨rfl, rfl⟩) (opsF_mayV (.bool (decide (((c).toNat : Nat) = (45)))) rfl rfl (gF (vr (.bool (bb25)) rfl)) (fun hG28 => Yk.eqI (a := (((c).toNat : Nat) : Int)) (b := ((45 : Nat) : Int)) (mayT (vr (cond (!bb25) (B8 (c)) undef) rfl) hG28) (vr (B8 (45)) rfl) (k_eql _ .u8 ((c).toNat) (45)) ⟨rfl, rfl⟩) (oS rfl (Yk.pickOrN (vr (.bool (bb25)) rfl) (vr (.bool (true)) rfl) (fun hA => (mayT (vr (cond (!bb25) (.bool (decide (((c).toNat : Nat) = (45)))) undef) rfl) (not_i hA))) fun bb29 hbb30 => (oM rfl (opsF_mayV (B8 (c)) rfl rfl (gF (vr (.bool (bb29)) rfl)) (fun hG31 => Yk.move T0 ⟨rfl, rfl⟩) (opsF_mayV (.bool (decide (((c).toNat : Nat) = (95)))) rfl rfl (gF (vr (.bool (bb29)) rfl)) (fun hG32 => Yk.eqI (a := (((c).toNat : Nat) : Int)) (b := ((95 : Nat) : Int)) (mayT (vr (cond (!bb29) (B8 (c)) undef) rfl) hG32) (vr (B8 (95)) rfl) (k_eql _ .u8 ((c).toNat) (95)) ⟨rfl, rfl⟩) (oS rfl (Yk.pickOrN (vr (.bool (bb29)) rfl) (vr (.bool (true)) rfl) (fun hA => (mayT (vr (cond (!bb29) (.bool (decide (((c).toNat : Nat) = (95)))) undef) rfl) (not_i hA))) fun bb33 hbb34 => (oM rfl (opsF_mayV (B8 (c)) rfl rfl (gF (vr (.bool (bb33)) rfl)) (fun hG35 => Yk.move T0 ⟨rfl, rfl⟩) (opsF_mayV (.bool (decide (((c).toNat : Nat) = (46)))) rfl rfl (gF (vr (.bool (bb33)) rfl)) (fun hG36 => Yk.eqI (a := (((c).toNat : Nat) : Int)) (b := ((46 : Nat) : Int)) (mayT (vr (cond (!bb33) (B8 (c)) undef) rfl) hG36) (vr (B8 (46)) rfl) (k_eql _ .u8 ((c).toNat) (46)) ⟨rfl, rfl⟩) (oS rfl (Yk.pickOrN (vr (.bool (bb33)) rfl) (vr (.bool (true)) rfl) (fun hA => (mayT (vr (cond (!bb33) (.bool (decide (((c).toNat : Nat) = (46)))) undef) rfl) (not_i hA))) fun bb37 hbb38 => (oA rfl (oZ (tN (hK2 _ _ (wpF_ret ?_)))))))))))))))))))
 refine postF_ret (fn := Tryd.f106) _ rfl [.bool (bb37)] (.bool (bb37)) rfl ⟨rfl, trivial⟩ ?_
 subst hbb6 hbb14 hbb16 hbb24 hbb26 hbb30 hbb34 hbb38
 exact ⟨rfl, hE⟩

theorem pid_any (w : World) (s : Bs) (hl : s.length ≠ 64) :
  Calls Tryd.prog 105 #[St s] w fun e w' => e = .returned (.bool false) ∧ Ext w w' := by
 refine calls_of_wpF (args := [St (s)]) Tryd.func105 rfl 11 rfl (Nat.le_of_ble_eq_true rfl) ?_
 intro ρ0 hb
 have T0 : ρ0 0 = (St (s) : Value) := hb.get 0
 clear hb
 have hE := Ext.refl w
 refine sk fun K1 hK1 => (wt (oA rfl (oZ (tN (hK1 _ _ (sk fun K2 hK2 => (wt (oM rfl (oS rfl (Yk.lenSt (l := s) wr1_ty9 T0 (oS rfl (Yk.eqI (a := (s.length : Nat)) (b := (64 : Nat)) rfl rfl (k_eql _ _ _ _) (oM rfl (oN (d := 6) rfl rfl rfl (vr (.bool (false)) (congrArg Value.bool (decide_eq_false (hl)))) rfl (oN (d := 6) rfl rfl rfl (vr (.bool (false)) (congrArg Value.bool (decide_eq_false (hl)))) rfl (oN (d := 6) rfl rfl rfl (vr (.bool (false)) (congrArg Value.bool (decide_eq_false (hl)))) rfl (oS rfl (Yk.pickF (vr (.bool (false)) (congrArg Value.bool (decide_eq_false (hl)))) (vr (.bool (false)) rfl) (oA rfl ?_)))))))))))))))))))
 refine oZ (tN (hK2 _ _ (wpF_ret (postF_ret (fn := Tryd.f105) _ rfl [.bool (false)] (.bool (false)) rfl ⟨rfl, trivial⟩ ?_))))
 exact ⟨rfl, hE⟩

theorem name_any (w : World) (s : Bs) (hs : s.length ≤ 9223372036854775807) :
  Calls Tryd.prog 59 #[St s] w fun e w' => e = .returned (.bool (nameB s)) ∧ Ext w w' := by
 refine calls_of_wpF (args := [St (s)]) Tryd.func59 rfl 41 rfl (Nat.le_of_ble_eq_true rfl) ?_
 intro ρ0 hb
 have T0 : ρ0 0 = (St (s) : Value) := hb.get 0
 clear hb
 have hE := Ext.refl w
 refine sk fun K1 hK1 => (wt (oA rfl (oZ (tN (hK1 _ _ (sk fun K2 hK2 => (sk fun K3 hK3 => (wt (oM rfl (oS rfl (Yk.lenSt (l := s) wr1_ty9 T0 (oS rfl (Yk.eqI (a := (s.length : Nat)) (b := (1 : Nat)) rfl rfl (k_lss _ _ _ _) (oM rfl (opsF_mayV (St (s)) rfl rfl (gF (vr (.bool (decide ((s.length) < (1)))) rfl)) (fun hG4 => Yk.move T0 ⟨rfl, rfl⟩) (opsF_mayV (NI s.length) rfl rfl (gF (vr (.bool (decide ((s.length) < (1)))) rfl)) (fun hG5 => Yk.lenSt (l := s) wr1_ty9 (mayT (vr (cond (!(decide ((s.length) < (1)))) (St (s)) undef) rfl) hG5) ⟨rfl, rfl⟩) (opsF_mayV (.bool (decide ((32) < (s.length)))) rfl rfl (gF (vr (.bool (decide ((s.length) < (1)))) rfl)) (fun hG6 => Yk.eqI (a := ((s.length : Nat) : Int)) (b := ((32 : Nat) : Int)) (mayT (vr (cond (!(decide ((s.length) < (1)))) (NI s.length) undef) rfl) hG6) (vr (NI 32) rfl) (k_gtr _ .i64 (s.length) (32)) ⟨rfl, rfl⟩) (oS rfl (Yk.pickOrN (vr (.bool (decide ((s.length) < (1)))) rfl) (vr (.bool (true)) rfl) (fun hA => (mayT (vr (cond (!(decide ((s.length) < (1)))) (.bool (decide ((32) < (s.length)))) undef) rfl) (not_i hA))) fun bb7 hbb8 => ?_)))))))))))))))))))
 refine oM rfl (opsF_mayV (St (s)) rfl rfl (gF (vr (.bool (bb7)) rfl)) (fun hG9 => Yk.move T0 ⟨rfl, rfl⟩) (opsF_mayV (B8 (s.getD (0) 0)) rfl rfl (gF (vr (.bool (bb7)) rfl)) (fun hG10 => Yk.idxSt (l := s) (i := 0) wr1_ty9 (mayT (vr (cond (!bb7) (St (s)) undef) rfl) hG10) (vr (NI 0) rfl) (by simp only [hbb8, gA, gB, gC, gD, gE] at hG10; omega) ⟨rfl, rfl⟩) (opsF_mayV (.bool (decide (((s.getD (0) 0).toNat : Nat) = (46)))) rfl rfl (gF (vr (.bool (bb7)) rfl)) (fun hG11 => Yk.eqI (a := (((s.getD (0) 0).toNat : Nat) : Int)) (b := ((46 : Nat) : Int)) (mayT (vr (cond (!bb7) (B8 (s.getD (0) 0)) undef) rfl) hG11) (vr (B8 (46)) rfl) (k_eql _ .u8 ((s.getD (0) 0).toNat) (46)) ⟨rfl, rfl⟩) (oS rfl (Yk.pickOrN (vr (.bool (bb7)) rfl) (vr (.bool (true)) rfl) (fun hA => (mayT (vr (cond (!bb7) (.bool (decide (((s.getD (0) 0).toNat : Nat) = (46)))) undef) rfl) (not_i hA))) fun bb12 hbb13 => (oM rfl (opsF_mayV (St (s)) rfl rfl (gF (vr (.bool (bb12)) rfl)) (fun hG14 => Yk.move T0 ⟨rfl, rfl⟩) (opsF_mayV (B8 (s.getD (0) 0)) rfl rfl (gF (vr (.bool (bb12)) rfl)) (fun hG15 => Yk.idxSt (l := s) (i := 0) wr1_ty9 (mayT (vr (cond (!bb12) (St (s)) undef) rfl) hG15) (vr (NI 0) rfl) (by simp only [hbb8, hbb13, gA, gB, gC, gD, gE] at hG15; omega) ⟨rfl, rfl⟩) (opsF_mayV (.bool (decide (((s.getD (0) 0).toNat : Nat) = (45)))) rfl rfl (gF (vr (.bool (bb12)) rfl)) (fun hG16 => Yk.eqI (a := (((s.getD (0) 0).toNat : Nat) : Int)) (b := ((45 : Nat) : Int)) (mayT (vr (cond (!bb12) (B8 (s.getD (0) 0)) undef) rfl) hG16) (vr (B8 (45)) rfl) (k_eql _ .u8 ((s.getD (0) 0).toNat) (45)) ⟨rfl, rfl⟩) (oS rfl (Yk.pickOrN (vr (.bool (bb12)) rfl) (vr (.bool (true)) rfl) (fun hA => (mayT (vr (cond (!bb12) (.bool (decide (((s.getD (0) 0).toNat : Nat) = (45)))) undef) rfl) (not_i hA))) fun bb17 hbb18 => (oM rfl (opsF_mayV (St (s)) rfl rfl (gF (vr (.bool (bb17)) rfl)) (fun hG19 => Yk.move T0 ⟨rfl, rfl⟩) (opsF_mayV (.bool (decide (s = (([72, 69, 65, 68] : List UInt8) : List UInt8)))) rfl rfl (gF (vr (.bool (bb17)) rfl)) (fun hG20 => Yk.eqSt (l := s) (m := ([72, 69, 65, 68] : List UInt8)) (.inl rfl) (mayT (vr (cond (!bb17) (St (s)) undef) rfl) hG20) (vr (St (([72, 69, 65, 68] : List UInt8))) rfl) (decide (s = (([72, 69, 65, 68] : List UInt8) : List UInt8))) rfl ⟨rfl, rfl⟩) (oS rfl (Yk.pickOrN (vr (.bool (bb17)) rfl) (vr (.bool (true)) rfl) (fun hA => (mayT (vr (cond (!bb17) (.bool (decide (s = (([72, 69, 65, 68] : List UInt8) : List UInt8)))) undef) rfl) (not_i hA))) fun bb21 hbb22 => (oM rfl (opsF_mayV (St (s)) rfl rfl (gF (vr (.bool (bb21)) rfl)) (fun hG23 => Yk.move T0 ⟨rfl, rfl⟩) ?_))))))))))))))))))
 refine opsF_mayC (.bool (false)) rfl rfl (gF (vr (.bool (bb21)) rfl)) (fun hG24 => Yk.callA1 wr1_pl105 (mayT (vr (cond (!bb21) (St (s)) undef) rfl) hG24) ((pid_any _ s (by simp only [hbb8, hbb13, hbb18, hbb22, gA, gB, gC, gD, gE] at hG24; omega)).mono (by rintro e w2 ⟨rfl, hx⟩; exact ⟨_, rfl, rfl, hx⟩))) fun w26 hx27 => ?_
 have hE := hE.trans hx27
 refine oS rfl (Yk.pickOrN (vr (.bool (bb21)) rfl) (vr (.bool (true)) rfl) (fun hA => (mayT (vr (cond (!bb21) (.bool (false)) undef) rfl) (not_i hA))) fun bb28 hbb29 => (oZ (tN (hK3 _ _ ?_))))
 refine wpF_condB (bb28) (vr (.bool (bb28)) rfl) (fun hc0 => ?_) (fun hc0 => ?_)
 ·subst hbb8 hbb13 hbb18 hbb22 hbb29
  rw [Bool.or_false] at hc0
  refine sk fun K30 hK30 => (wt (oA rfl (oZ (tN (hK30 _ _ (wpF_ret (thenF_ret (postF_ret (fn := Tryd.f59) _ rfl [.bool (false)] (.bool (false)) rfl ⟨rfl, trivial⟩ ?_))))))))
  exact ⟨by rw [nameB_head (s := s) hc0], hE⟩
 subst hbb8 hbb13 hbb18 hbb22 hbb29
 rw [Bool.or_false] at hc0
 have hh : headB s = false := hc0
 have hsl := headB_len hh
 refine wpF_skip (tN (hK2 _ _ (sk fun K31 hK31 => (sk fun K32 hK32 => (wt (oM rfl (oS rfl (Yk.lenSt (l := s) wr1_ty9 T0 (oM rfl (oL_ [(0, St (s)), (2, .bool (false)), (31, NI s.length), (32, NI 0)] ⟨T0, rfl, rfl, rfl, trivial⟩ fun ρ33 ⟨T0, T2, T31, T32, _⟩ => (tN (hK32 _ _ (wpF_block (wpF_loop (fun (ρ : Slots) (wz : World) => ∃ i : Nat, ρ 0 = (St (s) : Value) ∧ ρ 31 = (NI s.length : Value) ∧ ρ 32 = (NI i : Value) ∧ Ext w wz ∧ (i ≤ s.length) ∧ ((s.take i).all signB = true) ∧ True) (fun ρ _ => s.length - (intOf (ρ 32)).toNat) ⟨0, T0, T31, T32, hE, Nat.zero_le _, by simp, trivial⟩ ?_))))))))))))))
 clear hE
 rintro ρ34 w35 ⟨i, T0, T31, T32, hE, hi, ha, -⟩
 have q32 := T32
 refine sk fun K36 hK36 => (wt (oS rfl (Yk.eqI (a := (i : Nat)) (b := (s.length : Nat)) T32 T31 (k_lss _ _ _ _) (oZ (tN (hK36 _ _ (sk fun K37 hK37 => ?_)))))))
 refine wpF_cond ((i) < (s.length)) (vr (.bool (decide ((i) < (s.length)))) rfl) (fun hc1 => ?_) (fun hc1 => ?_)
 ·refine wpF_skip (tN (hK37 _ _ (sk fun K38 hK38 => (wpF_block (sk fun K39 hK39 => (wt (oM rfl (oA rfl (oZ (tN (hK39 _ _ (sk fun K40 hK40 => (wt (oM rfl (oM rfl (oS rfl (Yk.idxSt (l := s) (i := i) wr1_ty9 T0 T32 (by omega) (oS rfl (Yk.callA1 wr1_pl106 (vr (B8 (s.getD (i) 0)) rfl) ?_)))))))))))))))))))
  refine (sign_any _ (s.getD (i) 0)).mono ?_
  rintro e w42 ⟨rfl, hx41⟩
  refine ⟨_, rfl, ?_⟩
  have hE := hE.trans hx41
  refine oS rfl (Yk.notB (vr (.bool (signB (s.getD (i) 0))) rfl) (oZ (tN (hK40 _ _ ?_))))
  refine wpF_condB (!(signB (s.getD (i) 0))) (vr (.bool (!(signB (s.getD (i) 0)))) rfl) (fun hc2 => ?_) (fun hc2 => ?_)
  ·refine sk fun K43 hK43 => (wt (oA rfl (oZ (tN (hK43 _ _ (wpF_ret (inBlockF_ret (thenF_ret (thenF_ret (inBlockF_ret (thenF_ret (postF_ret (fn := Tryd.f59) _ rfl [.bool (false)] (.bool (false)) rfl ⟨rfl, trivial⟩ ?_))))))))))))
   exact ⟨by rw [nameB_bad (show i < s.length by omega) (not_e hc2)], hE⟩
  refine wpF_skip (bN (tN (hK38 _ _ (wt (oS rfl (Yk.bin (xv := NI i) (yv := NI 1) T32 rfl rfl (i64_add _ _ _ (by omega)) (oM rfl (oL_ [(0, St (s)), (3, NI i), (31, NI s.length), (32, NI ((i) + (1)))] ⟨T0, T32, T31, rfl, trivial⟩ fun ρ44 ⟨T0, T3, T31, T32, _⟩ => (tN (And.intro ⟨i + 1, T0, T31, T32, hE, by omega, all_step 0 (by omega) ha (not_f hc2), trivial⟩ ?_))))))))))
  show s.length - (intOf (ρ44 32)).toNat < s.length - (intOf (ρ34 32)).toNat
  rw [T32, q32]
  simp only [intOf, Int.toNat_natCast]; omega
 refine wpF_exit (thenF_exit (thenF_exit (inBlockF_hit (tN (hK31 _ _ (sk fun K45 hK45 => (wt (oA rfl (oZ (tN (hK45 _ _ (wpF_ret (postF_ret (fn := Tryd.f59) _ rfl [.bool (true)] (.bool (true)) rfl ⟨rfl, trivial⟩ ?_)))))))))))))
 exact ⟨by rw [nameB_all hh (by omega) ha], hE⟩

open Go.RowKit
open Go.WideMaps (KeyLaw)
structure KL (P : Program) (k : TypeId) (OK : Value → Prop) : Prop where
  check : ∀ (w : World) (em : Bool) {v : Value}, OK v → (Instr.checkKey em 10000 k v).run P w = .ok () w
  find : ∀ (w : World) {x : Value}, OK x → ∀ es : List MapEntry, (∀ e ∈ es, OK e.key) →
    ((Instr.findKey k x es).run P w = .ok none w ∧ ∀ e ∈ es, e.key ≠ x) ∨ ∃ j e, (Instr.findKey k x es).run P w = .ok (some (j, e.val)) w ∧ es[j]? = some e ∧ e.key = x
  stays : ∀ (w : World) {v : Value}, OK v → (Instr.keyThatStays v v).run P w = .ok v w
theorem KL.ofKey {P : Program} {k : TypeId} {d : TypeDesc} (hd : P.underlying k = some d) : KL P k (MapKept.IsKey d) :=
  ⟨fun w em _ h => MapKept.run_checkKey hd h em 9999, fun w x h es he => by
    rcases MapKept.findNow_spec h es 0 he with ⟨h1, h2⟩ | ⟨j, e, h1, h2, h3⟩
    · exact .inl ⟨MapKept.run_findKey hd h1, h2⟩
    · rw [Nat.zero_add] at h1
      exact .inr ⟨j, e, MapKept.run_findKey hd h1, h2, h3⟩, fun w _ h => MapKept.run_keyThatStays h⟩
section
variable {α β : Type} (ek : α → Value) (ev : β → Value) (D : α → Prop)
structure MapIn (G : α → Option β) (es : List MapEntry) : Prop where
  keys : (es.map (·.key)).Nodup
  ent : ∀ e ∈ es, ∃ a y, D a ∧ e.key = ek a ∧ e.val = ev y ∧ G a = some y
  all : ∀ a y, G a = some y → D a ∧ ∃ e ∈ es, e.key = ek a
def MapF (w : World) (b : Nat) (G : α → Option β) : Prop := ∃ es clock, w.heap[b]? = some (.map es.toArray clock) ∧ MapIn ek ev D G es
end
def updM {α β : Type} [DecidableEq α] (G : α → Option β) (a : α) (y : Option β) (c : α) : Option β := if c = a then y else G c
section
variable {α β : Type} {ek : α → Value} {ev : β → Value} {D : α → Prop} {P : Program} {w w' : World} {b : Nat} {G : α → Option β}
theorem MapF.keep (h : MapF ek ev D w b G) (k : Ext w w') : MapF ek ev D w' b G := by
  obtain ⟨es, c, h2, h3⟩ := h
  exact ⟨es, c, Ext.blk' k h2, h3⟩
theorem MapF.lt (h : MapF ek ev D w b G) : b < w.heap.size := by
  obtain ⟨es, c, h2, h3⟩ := h
  exact (Array.getElem?_eq_some_iff.1 h2).1
theorem MapF.other {r : Option Nat} (h : MapF ek ev D w b G) (k : w.grownBy w' r) (hr : r ≠ some b) : MapF ek ev D w' b G := by
  have hl := h.lt
  obtain ⟨es, c, h2, h3⟩ := h
  exact ⟨es, c, (k.block b hl (fun e => hr e.symm)).trans h2, h3⟩
theorem MapF.made (ek : α → Value) (ev : β → Value) (D : α → Prop) (w : World) : MapF ek ev D (w.alloc (.map #[] 0)) w.heap.size (fun _ => none) :=
  ⟨[], 0, heap_alloc_new w _, by simp, by simp, fun _ _ h => by cases h⟩
section
variable {t K E : TypeId} {OK : Value → Prop} (L : KL P K OK) (hD : ∀ a, D a → OK (ek a)) (hi : ∀ a c, ek a = ek c → a = c) (ht : P.underlying t = some (.map K E))
include L hD hi ht
theorem MapF.look {z : Value} (hz : ∀ u : World, (zeroValue E).run P u = .ok z u) (h : MapF ek ev D w b G) {a : α} (ha : D a) (ok : Bool) :
    (Instr.lookup t (.map (some b)) (ek a) ok).run P w = .ok (if ok then .tuple #[(G a).elim z ev, .bool (G a).isSome] else (G a).elim z ev) w := by
  obtain ⟨es, c, hb, H⟩ := h
  have hkeys : ∀ e ∈ es, OK e.key := fun e he => by
    obtain ⟨q, y, k1, k2, -⟩ := H.ent e he
    rw [k2]
    exact hD q k1
  rcases L.find w (hD a ha) es hkeys with ⟨f1, f2⟩ | ⟨j, e0, f1, f2, f3⟩
  · have hG : G a = none := by
      cases hG : G a with
      | none => rfl
      | some y =>
        obtain ⟨-, e, he, hek⟩ := H.all a y hG
        exact absurd hek (f2 e he)
    cases ok <;> simp [Instr.lookup, run_underlying ht, MapKept.run_getObj_map hb, L.check w _ (hD a ha), f1, hz, Result.andThen, hG]
  · obtain ⟨q, y, k1, k2, k3, k4⟩ := H.ent e0 (List.mem_of_getElem? f2)
    have : q = a := hi _ _ (k2.symm.trans f3)
    subst this
    cases ok <;> simp [Instr.lookup, run_underlying ht, MapKept.run_getObj_map hb, L.check w _ (hD q ha), f1, Result.andThen, k4, k3]
variable [DecidableEq α]
omit hi in
theorem MapF.put (h : MapF ek ev D w b G) {a : α} (ha : D a) (y : β) :
    ∃ w', (Instr.mapUpdate t (.map (some b)) (ek a) (ev y)).run P w = .ok () w' ∧ MapF ek ev D w' b (updM G a (some y)) ∧ w.grownBy w' (some b) ∧ w'.heap.size = w.heap.size := by
  obtain ⟨es, c, hb, H⟩ := h
  have hkeys : ∀ e ∈ es, OK e.key := fun e he => by
    obtain ⟨q, y, k1, k2, -⟩ := H.ent e he
    rw [k2]
    exact hD q k1
  have hblt : b < w.heap.size := (Array.getElem?_eq_some_iff.1 hb).1
  have hgr : ∀ o, w.grownBy { w with heap := w.heap.setIfInBounds b o } (some b) := fun o => ⟨rfl, rfl, rfl, by simp, fun i _ hi => by simp only [Array.getElem?_setIfInBounds]; rw [if_neg (fun e => hi (by rw [e]))]⟩
  have hnew : ∀ o, ({ w with heap := w.heap.setIfInBounds b o } : World).heap[b]? = some o := fun o => by simp [hblt]
  rcases L.find w (hD a ha) es hkeys with ⟨f1, f2⟩ | ⟨j, e0, f1, f2, f3⟩
  · have hnone : ∀ x, G a ≠ some x := fun x hx => by
      obtain ⟨-, e, he, hek⟩ := H.all a x hx
      exact f2 e he hek
    refine ⟨{ w with heap := w.heap.setIfInBounds b (.map (es ++ [({ key := ek a, val := ev y, born := c } : MapEntry)]).toArray (c + 1)) }, ?_, ⟨_, _, hnew _, ?_, ?_, ?_⟩, hgr _, by simp⟩
    · simp [Instr.mapUpdate, run_underlying ht, MapKept.run_getObj_map hb, L.check w false (hD a ha), f1, MapKept.run_setObj_map _ hb, Result.andThen]
    · simp only [List.map_append, List.map_cons, List.map_nil]
      refine List.nodup_append.2 ⟨H.keys, by simp, fun x hx z hz e => ?_⟩
      obtain ⟨e1, he1, rfl⟩ := List.mem_map.1 hx
      simp at hz
      exact f2 e1 he1 (e.trans hz)
    · intro e he
      rcases List.mem_append.1 he with h1 | h1
      · obtain ⟨q, z, k1, k2, k3, k4⟩ := H.ent e h1
        refine ⟨q, z, k1, k2, k3, ?_⟩
        unfold updM
        rw [if_neg (fun e1 => f2 e h1 (by rw [k2, e1]))]
        exact k4
      · rw [List.mem_singleton.1 h1]
        exact ⟨a, y, ha, rfl, rfl, by unfold updM; rw [if_pos rfl]⟩
    · intro q z hq
      unfold updM at hq
      split at hq
      · rename_i e1
        subst e1
        exact ⟨ha, _, List.mem_append_right _ (List.mem_singleton.2 rfl), rfl⟩
      · obtain ⟨k1, e, he, hek⟩ := H.all q z hq
        exact ⟨k1, e, List.mem_append_left _ he, hek⟩
  · obtain ⟨q0, y0, k1, k2, k3, k4⟩ := H.ent e0 (List.mem_of_getElem? f2)
    have hjl : j < es.length := (List.getElem?_eq_some_iff.1 f2).1
    have hkeq : (es.modify j fun e => { e with key := ek a, val := ev y }).map (·.key) = es.map (·.key) := by
      rw [Go.ChangeMaps.modify_eq_set _ _ _ _ f2, List.map_set]
      exact Go.WideElems.set_self _ _ _ (by rw [List.getElem?_map, f2]; simp [f3])
    have hj : es.toArray[j]? = some e0 := by simpa using f2
    refine ⟨{ w with heap := w.heap.setIfInBounds b (.map (es.modify j fun e => { e with key := ek a, val := ev y }).toArray c) }, ?_, ⟨_, _, hnew _, ?_, ?_, ?_⟩, hgr _, by simp⟩
    · simp [Instr.mapUpdate, run_underlying ht, MapKept.run_getObj_map hb, L.check w false (hD a ha), f1, f2, f3, L.stays w (hD a ha), MapKept.run_setObj_map _ hb, Result.andThen]
    · rw [hkeq]
      exact H.keys
    · intro e he
      rw [Go.ChangeMaps.modify_eq_set _ _ _ _ f2] at he
      obtain ⟨i, hil, hie⟩ := List.mem_iff_getElem.1 he
      rw [List.getElem_set] at hie
      split at hie
      · subst hie
        exact ⟨a, y, ha, rfl, rfl, by unfold updM; rw [if_pos rfl]⟩
      · rename_i hne
        have hil2 : i < es.length := by simpa using hil
        obtain ⟨q, z, m1, m2, m3, m4⟩ := H.ent e (hie ▸ List.getElem_mem hil2)
        refine ⟨q, z, m1, m2, m3, ?_⟩
        unfold updM
        rw [if_neg ?_]
        · exact m4
        · intro e1
          subst e1
          apply hne
          have hn := H.keys
          have e2 : (es.map (·.key))[j]'(by simpa using hjl) = (es.map (·.key))[i]'(by simpa using hil2) := by
            simp only [List.getElem_map]
            rw [hie, m2, ← f3]
            exact congrArg MapEntry.key (List.getElem?_eq_some_iff.1 f2).2
          exact (List.getElem_inj hn).1 e2
    · intro q z hq
      have hmem : ∀ x, x ∈ es.map (·.key) → ∃ e ∈ (es.modify j fun e => { e with key := ek a, val := ev y }), e.key = x := fun x hx => by
        rw [← hkeq] at hx
        obtain ⟨e, he, rfl⟩ := List.mem_map.1 hx
        exact ⟨e, he, rfl⟩
      unfold updM at hq
      split at hq
      · rename_i e1
        subst e1
        exact ⟨ha, hmem _ (List.mem_map.2 ⟨e0, List.mem_of_getElem? f2, f3⟩)⟩
      · obtain ⟨k1, e, he, hek⟩ := H.all q z hq
        exact ⟨k1, hmem _ (List.mem_map.2 ⟨e, he, hek⟩)⟩
end
end
open Go.RowKit
theorem some_ne {a b : Nat} (h : a ≠ b) : some a ≠ some b := fun e => h (Option.some.inj e)
def ApartV (u v : Value) : Prop := ∀ k, u.ownBlock = some k → v.ownBlock ≠ some k
section
variable {N B : Nat} {r : Option Nat} {w w' w1 w0 : World} {e t : TypeId}
theorem ownsRow_grown {z n : Nat} {v : Value} {xs : List Value} (ho : w.ownsRow B e z v n xs) (k : w.grownBy w1 r) (ha : ∀ k, r = some k → v.ownBlock ≠ some k) : w1.ownsRow B e z v n xs :=
  ho.kept k (by
    cases hv : v.ownBlock with
    | none => exact .inl rfl
    | some g => exact .inr (fun e => ha g e.symm hv))
theorem apartv_new {u v : Value} {b : Nat} {e' : TypeId} {z n z' n' : Nat} {xs ys : List Value} (hu : w.ownsRow b e z u n xs) (hv : w'.ownsRow w.heap.size e' z' v n' ys) : ApartV u v := fun k h1 h2 => by
  have := (hu.lt k h1).2
  have := (hv.lt k h2).1
  omega
theorem apartv_new' {u v : Value} {b : Nat} {e' : TypeId} {z n z' n' : Nat} {xs ys : List Value} (hu : w.ownsRow b e z u n xs) (hv : w'.ownsRow w.heap.size e' z' v n' ys) : ApartV v u := fun k h1 h2 => apartv_new hu hv k h2 h1
theorem apartv_grew {u v v' : Value} {b : Nat} {z n : Nat} {xs : List Value} (gr : Grew w w' v v') (ha : ApartV v u) (hu : w.ownsRow b e z u n xs) : ApartV v' u := fun k h1 h2 => by
  rcases gr.fresh k h1 with h3 | h3
  · exact ha k h3 h2
  · have := (hu.lt k h2).2
    omega
theorem own_grew {v v' u : Value} {b : Nat} {z n : Nat} {xs : List Value} (hu : w.ownsRow b e z u n xs) (gr : Grew w w' v v') (ha : ApartV v u) : w'.ownsRow b e z u n xs := ownsRow_grown hu gr.by_ ha
theorem og_grew {α : Type} {k b : Nat} {enc : α → List Value} {v v' u : Value} {l : List α} (hu : OG b e k enc w u l) (gr : Grew w w' v v') (ha : ApartV v u) : OG b e k enc w' u l := ⟨hu.1, own_grew hu.2 gr ha⟩
end
open Go.RowKit
def Yp (P : Program) (K : Value → World → Prop) (J : List PanicEntry → World → Prop) : Result Next → Prop
  | .ok (.value v) w => K v w
  | .ok .skip w => K undef w
  | .ok (.enter f args) w => Calls P f args w fun e w' => match e with | .returned v => K v w' | .panicked ch => J ch w' | .outgrown => False
  | .halt (.panic v) w => J [{ v, recovered := false }] w
  | _ => False
section
variable {P : Program} {n : Nat} {Q : PostF} {ρ : Slots} {w : World}
theorem Yp.ofK {K : Value → World → Prop} {J : List PanicEntry → World → Prop} {r : Result Next} (h : Yk P K r) : Yp P K J r := by
  unfold Yk at h
  split at h
  · exact h
  · exact h
  · exact h.mono fun e w' hx => by
      obtain ⟨v, rfl, hk⟩ := hx
      exact hk
  · exact h.elim
theorem oP {ops : Array Oper} {rest : List Oper} {dst : Option Tmp} {op : Op} {ty : TypeId} {pos : String} {af : Array Edge} (hd : (match dst with | some d => Nat.blt d n | none => true) = true)
    (h : Yp P (fun v w' => opsF P ops n Q rest (updO ρ dst v) w') (fun ch w' => Q (.panic ch) ρ w') ((execOp (evalR ρ) ⟨dst, op, ty, pos, af, none⟩).run P w)) : opsF P ops n Q (⟨dst, op, ty, pos, af, none⟩ :: rest) ρ w := by
  intro a ha
  have hdn : ∀ t, dst = some t → t < n := fun t ht => by subst ht; exact Nat.le_of_ble_eq_true hd
  refine wpList_plain rfl fun K hK => ?_
  unfold Oper.wp Oper.upon
  rw [ha.eval]
  have hput := fun v => ha.put dst hdn v
  revert h
  generalize (execOp (evalR ρ) ⟨dst, op, ty, pos, af, none⟩).run P w = r
  intro h
  match r, h with
  | .ok (.value v) w', h => exact hK _ _ (h _ (hput v))
  | .ok .skip w', h => exact hK _ _ (h _ (hput undef))
  | .halt (.panic v) w', h => exact ⟨ρ, ha, h⟩
  | .ok (.enter f args) w', h =>
    refine Calls.mono h ?_
    intro e w'' hx
    match e, hx with
    | .returned v, hx => exact hK _ _ (hx _ (hput v))
    | .panicked ch, hx => exact ⟨ρ, ha, hx⟩
theorem Yp.call {f : FuncId} {args : Array Operand} {at_ : Array TypeId} {dst : Option Tmp} {ty : TypeId} {pos : String} {af : Array Edge} {gd : Option (Nat × Bool)} {K : Value → World → Prop} {J : List PanicEntry → World → Prop} (hp : Plain P f) (vs : List Value) (hv : args.toList.map (evalR ρ) = vs)
    (h : Calls P f vs.toArray w fun e w' => match e with | .returned v => K v w' | .panicked ch => J ch w' | .outgrown => False) : Yp P K J ((execOp (evalR ρ) ⟨dst, .call ⟨.value (.func f), args, at_⟩, ty, pos, af, gd⟩).run P w) := by
  subst hv
  have hr := run_execCall hp (evalR ρ) args.toList at_ dst ty pos af gd w rfl
  rw [Array.toArray_toList] at hr
  rw [hr]
  exact h
theorem calls_either {f : FuncId} {args : Array Value} {K : Value → World → Prop} {J : List PanicEntry → World → Prop} {A : Value → World → Prop} {B : List PanicEntry → World → Prop} (h : Calls P f args w fun e w' => (∃ v, e = .returned v ∧ A v w') ∨ ∃ ch, e = .panicked ch ∧ B ch w')
    (hA : ∀ v w', A v w' → K v w') (hB : ∀ ch w', B ch w' → J ch w') : Calls P f args w fun e w' => match e with | .returned v => K v w' | .panicked ch => J ch w' | .outgrown => False :=
  h.mono fun e w' hx => by
    rcases hx with ⟨v, rfl, h1⟩ | ⟨ch, rfl, h1⟩
    · exact hA v w' h1
    · exact hB ch w' h1
theorem Yp.panic {dst : Option Tmp} {ty : TypeId} {pos : String} {af : Array Edge} {gd : Option (Nat × Bool)} {K : Value → World → Prop} {J : List PanicEntry → World → Prop} {x : Operand} {u : TypeId} {v : Value} (hx : evalR ρ x = .iface u v) (h : J [{ v := .iface u v, recovered := false }] w) :
    Yp P K J ((execOp (evalR ρ) ⟨dst, .panic x, ty, pos, af, gd⟩).run P w) := by
  have hr : (execOp (evalR ρ) ⟨dst, .panic x, ty, pos, af, gd⟩).run P w = .halt (.panic (.iface u v)) w := by
    simp [execOp, hx, Instr.panic, goPanic]
  rw [hr]
  exact h
section
variable {Q : PostF} {K : Slots → World → Prop} {ch : List PanicEntry}
theorem thenF_panic (h : Q (.panic ch) ρ w) : thenF K Q (.panic ch) ρ w := h
theorem inBlockF_panic {i : Nat} (h : Q (.panic ch) ρ w) : inBlockF i Q (.panic ch) ρ w := h
end
def postP (P : Program) (fn : Func) (R : Ending → World → Prop) : PostF
  | .normal, ρ, w | .ret, ρ, w => ∀ tmps : Array Value, (∀ t, tmps.getD t undef = ρ t) → ∃ v, (results fn tmps).run P w = .ok v w ∧ R (.returned v) w
  | .panic ch, _, w => R (.panicked ch) w
  | _, _, _ => False
theorem calls_of_wpP {f : FuncId} {fn : Func} {c : Code} {args : List Value} {R : Ending → World → Prop} (hf : P.funcs[f]? = some fn) (hb : fn.body = some c) (m : Nat) (hm : fn.ntmps = m) (hn : args.length ≤ m)
    (h : ∀ ρ, Begun args ρ → wpF P m c (postP P fn R) ρ w) : Calls P f args.toArray w R := by
  subst hm
  refine calls_of_wp hf hb ?_
  have hget : ∀ t, (args.toArray ++ Array.replicate (fn.ntmps - args.toArray.size) undef).getD t undef = args.getD t undef := fun t => by
    simp only [Array.getD_eq_getD_getElem?, List.getD_eq_getElem?_getD, Array.getElem?_append, List.size_toArray, List.getElem?_toArray]
    by_cases ht : t < args.length
    · rw [if_pos ht]
    · rw [if_neg ht, List.getElem?_eq_none (by omega), Array.getElem?_replicate]
      split <;> rfl
  refine wp_mono (h (fun t => args.getD t undef) ⟨fun _ => rfl⟩ _ ⟨?_, rfl, hget⟩) ?_
  · simp
    omega
  · rintro e a' w' ⟨ρ', hf', hQ⟩
    have fin : (∀ tmps : Array Value, (∀ t, tmps.getD t undef = ρ' t) → ∃ v, (results fn tmps).run P w' = .ok v w' ∧ R (.returned v) w') → a'.defers = [] ∧ ∃ v, (results fn a'.tmps).run P w' = .ok v w' ∧ R (.returned v) w' :=
      fun h => ⟨hf'.defers, h a'.tmps hf'.get⟩
    cases e with
    | normal => exact fin hQ
    | ret => exact fin hQ
    | panic ch => exact ⟨hf'.defers, hQ⟩
    | exit _ => exact hQ.elim
    | goto _ => exact hQ.elim
    | outgrown => exact hQ.elim
theorem postP_ret {fn : Func} {R : Ending → World → Prop} (rs : List ResultVar) (hrs : fn.results = rs.toArray) (vs : List Value) (v : Value) (hv : tupled vs = v) (h : ResAll P ρ w rs vs) (hR : R (.returned v) w) : postP P fn R .ret ρ w :=
  fun _ ht => ⟨_, results_fn hrs ht h, by rw [hv]; exact hR⟩
theorem postP_end {fn : Func} {R : Ending → World → Prop} (rs : List ResultVar) (hrs : fn.results = rs.toArray) (vs : List Value) (v : Value) (hv : tupled vs = v) (h : ResAll P ρ w rs vs) (hR : R (.returned v) w) : postP P fn R .normal ρ w :=
  fun _ ht => ⟨_, results_fn hrs ht h, by rw [hv]; exact hR⟩
theorem postP_panic {fn : Func} {R : Ending → World → Prop} {ch : List PanicEntry} (h : R (.panicked ch) w) : postP P fn R (.panic ch) ρ w := h
end
open Go.RowKit
section
variable {P : Program} {K : Value → World → Prop} {ρ : Slots} {w : World} {d : Option Tmp} {ty : TypeId} {pos : String} {af : Array Edge} {gd : Option (Nat × Bool)}
variable {α β : Type} {ek : α → Value} {ev : β → Value} {D : α → Prop} {b : Nat} {G : α → Option β}
variable {t Kt E : TypeId} {OK : Value → Prop}
theorem Yk.lookM (L : KL P Kt OK) (hD : ∀ a, D a → OK (ek a)) (hi : ∀ a c, ek a = ek c → a = c) (ht : P.underlying t = some (.map Kt E)) {z : Value} (hz : ∀ u : World, (zeroValue E).run P u = .ok z u) {x y : Operand} {a : α}
    (hm : evalR ρ x = .map (some b)) (hy : evalR ρ y = ek a) (h : MapF ek ev D w b G) (ha : D a) (hk : K ((G a).elim z ev) w) :
    Yk P K ((execOp (evalR ρ) ⟨d, .lookup t x y false, ty, pos, af, gd⟩).run P w) := by
  have hrun := h.look L hD hi ht hz ha false
  refine Yk.value (v := (G a).elim z ev) (w' := w) ?_ hk
  unfold execOp
  simp only [hm, hy, Sem.run_bind, hrun, Result.andThen_ok, Sem.run_pure]
  rfl
theorem Yk.lookOk (L : KL P Kt OK) (hD : ∀ a, D a → OK (ek a)) (hi : ∀ a c, ek a = ek c → a = c) (ht : P.underlying t = some (.map Kt E)) {z : Value} (hz : ∀ u : World, (zeroValue E).run P u = .ok z u) {x y : Operand} {a : α}
    (hm : evalR ρ x = .map (some b)) (hy : evalR ρ y = ek a) (h : MapF ek ev D w b G) (ha : D a) (hk : K (.tuple #[(G a).elim z ev, .bool (G a).isSome]) w) :
    Yk P K ((execOp (evalR ρ) ⟨d, .lookup t x y true, ty, pos, af, gd⟩).run P w) := by
  have hrun := h.look L hD hi ht hz ha true
  refine Yk.value (v := .tuple #[(G a).elim z ev, .bool (G a).isSome]) (w' := w) ?_ hk
  unfold execOp
  simp only [hm, hy, Sem.run_bind, hrun, Result.andThen_ok, Sem.run_pure]
  rfl
theorem Yk.mkMap (ek : α → Value) (ev : β → Value) (D : α → Prop) (hk : ∀ g w', w.heap.size = g → MapF ek ev D w' g (fun _ => none) → Ext w w' → w'.heap.size = g + 1 → K (.map (some g)) w') :
    Yk P K ((execOp (evalR ρ) ⟨d, .makeMap t none, ty, pos, af, gd⟩).run P w) := by
  refine Yk.value (v := .map (some w.heap.size)) (w' := w.alloc (.map #[] 0)) ?_ (hk _ _ rfl (MapF.made ek ev D w) ((Below.refl _ _).alloc (Nat.le_refl _) _) (by simp))
  unfold execOp
  simp [Instr.makeMap, newObj, Result.andThen]
  rfl
theorem Yk.lookOkS (L : KL P Kt OK) (hD : ∀ a, D a → OK (ek a)) (hi : ∀ a c, ek a = ek c → a = c) (ht : P.underlying t = some (.map Kt E)) {z : Value} (hz : ∀ u : World, (zeroValue E).run P u = .ok z u) {x y : Operand} {a : α} {c : β}
    (hm : evalR ρ x = .map (some b)) (hy : evalR ρ y = ek a) (h : MapF ek ev D w b G) (ha : D a) (hG : G a = some c) (hk : K (.tuple #[ev c, .bool true]) w) : Yk P K ((execOp (evalR ρ) ⟨d, .lookup t x y true, ty, pos, af, gd⟩).run P w) :=
  Yk.lookOk L hD hi ht hz hm hy h ha (by rw [hG]; exact hk)
theorem Yk.lookOkN (L : KL P Kt OK) (hD : ∀ a, D a → OK (ek a)) (hi : ∀ a c, ek a = ek c → a = c) (ht : P.underlying t = some (.map Kt E)) {z : Value} (hz : ∀ u : World, (zeroValue E).run P u = .ok z u) {x y : Operand} {a : α}
    (hm : evalR ρ x = .map (some b)) (hy : evalR ρ y = ek a) (h : MapF ek ev D w b G) (ha : D a) (hG : G a = none) (hk : K (.tuple #[z, .bool false]) w) : Yk P K ((execOp (evalR ρ) ⟨d, .lookup t x y true, ty, pos, af, gd⟩).run P w) :=
  Yk.lookOk L hD hi ht hz hm hy h ha (by rw [hG]; exact hk)
theorem Yk.lookMS (L : KL P Kt OK) (hD : ∀ a, D a → OK (ek a)) (hi : ∀ a c, ek a = ek c → a = c) (ht : P.underlying t = some (.map Kt E)) {z : Value} (hz : ∀ u : World, (zeroValue E).run P u = .ok z u) {x y : Operand} {a : α} {c : β}
    (hm : evalR ρ x = .map (some b)) (hy : evalR ρ y = ek a) (h : MapF ek ev D w b G) (ha : D a) (hG : G a = some c) (hk : K (ev c) w) : Yk P K ((execOp (evalR ρ) ⟨d, .lookup t x y false, ty, pos, af, gd⟩).run P w) :=
  Yk.lookM L hD hi ht hz hm hy h ha (by rw [hG]; exact hk)
theorem Yk.build {parts : Array (Nat × Operand)} {vs : Array (Nat × Value)} {v : Value} (hv : (parts.map fun (i, x) => (i, evalR ρ x)) = vs) (hr : ∀ w : World, (Instr.build t vs).run P w = .ok v w) (hk : K v w) :
    Yk P K ((execOp (evalR ρ) ⟨d, .build t parts, ty, pos, af, gd⟩).run P w) := by
  refine Yk.value (v := v) (w' := w) ?_ hk
  unfold execOp
  simp only [hv, hr, Sem.run_bind, Result.andThen_ok, Sem.run_pure]
theorem Yk.build1 {i0 : Nat} {x0 : Operand} {v0 v : Value} (h0 : evalR ρ x0 = v0) (hr : ∀ w : World, (Instr.build t #[(i0, v0)]).run P w = .ok v w) (hk : K v w) : Yk P K ((execOp (evalR ρ) ⟨d, .build t #[(i0, x0)], ty, pos, af, gd⟩).run P w) :=
  Yk.build (by simp [h0]) hr hk
theorem Yk.build2 {i0 i1 : Nat} {x0 x1 : Operand} {v0 v1 v : Value} (h0 : evalR ρ x0 = v0) (h1 : evalR ρ x1 = v1) (hr : ∀ w : World, (Instr.build t #[(i0, v0), (i1, v1)]).run P w = .ok v w) (hk : K v w) : Yk P K ((execOp (evalR ρ) ⟨d, .build t #[(i0, x0), (i1, x1)], ty, pos, af, gd⟩).run P w) :=
  Yk.build (by simp [h0, h1]) hr hk
theorem RG.slice {k : Nat} {enc : α → List Value} {v : Value} {l : List α} (h : RG k enc w v l) : ∃ ao n c, v = .slice ao n c := by
  obtain ⟨ao, c, rfl⟩ := h.len
  exact ⟨ao, _, c, rfl⟩
theorem Yk.mkIface {fs} (hu : P.underlying t = some (.struct fs)) {x : Operand} {v : Value} (hx : evalR ρ x = v) (hk : K (.iface t v) w) : Yk P K ((execOp (evalR ρ) ⟨d, .makeInterface t x, ty, pos, af, gd⟩).run P w) := by
  refine Yk.value (v := .iface t v) (w' := w) ?_ hk
  unfold execOp
  simp [Instr.makeInterface, hx, run_underlying hu, Result.andThen]
theorem Yk.lit1G {k : Nat} {enc : α → List Value} {e : TypeId} {x : Operand} {a : α} (hx : evalR ρ x = .agg (enc a).toArray) (hl : (enc a).length = k)
    (hr : ∀ (cs : Array Value), cs.size = k → ∀ w : World, (Instr.buildSlice t 1 #[(0, .agg cs)]).run P w = .ok (.slice (some ⟨w.heap.size, 0, none⟩) 1 1) (w.alloc (.cells cs e)))
    (hk : ∀ v w', RG k enc w' v [a] → Ext w w' → K v w') : Yk P K ((execOp (evalR ρ) ⟨d, .buildSlice t 1 #[(0, x)], ty, pos, af, gd⟩).run P w) := by
  have hE : Ext w (w.alloc (.cells (enc a).toArray e)) := (Below.refl _ _).alloc (Nat.le_refl _) _
  refine Yk.value (v := .slice (some ⟨w.heap.size, 0, none⟩) 1 1) (w' := w.alloc (.cells (enc a).toArray e)) ?_ (hk _ _ (RG.single hl (heap_alloc_new w _)) hE)
  unfold execOp
  simp only [List.map_toArray, List.map_cons, List.map_nil, hx, Sem.run_bind, hr _ (show (enc a).toArray.size = k by rw [List.size_toArray]; exact hl), Result.andThen_ok, Sem.run_pure]
theorem RG.elem {k : Nat} {enc : α → List Value} {v : Value} {l : List α} (h : RG k enc w v l) (dd : α) {i : Nat} (hi : i < l.length) : (enc (l.getD i dd)).length = k := by
  refine h.1 _ ?_
  rw [List.getD_eq_getElem?_getD, List.getElem?_eq_getElem hi]
  exact List.getElem_mem hi
theorem Yp.callA1 {f : FuncId} (hp : Plain P f) {x0 : Operand} {v0 : Value} {at_ : Array TypeId} {J : List PanicEntry → World → Prop} (h0 : evalR ρ x0 = v0)
    (h : Calls P f #[v0] w fun e w' => match e with | .returned v => K v w' | .panicked ch => J ch w' | .outgrown => False) : Yp P K J ((execOp (evalR ρ) ⟨d, .call ⟨.value (.func f), #[x0], at_⟩, ty, pos, af, gd⟩).run P w) :=
  Yp.call hp [v0] (by simp [h0]) h
theorem Yp.callA2 {f : FuncId} (hp : Plain P f) {x0 x1 : Operand} {v0 v1 : Value} {at_ : Array TypeId} {J : List PanicEntry → World → Prop} (h0 : evalR ρ x0 = v0) (h1 : evalR ρ x1 = v1)
    (h : Calls P f #[v0, v1] w fun e w' => match e with | .returned v => K v w' | .panicked ch => J ch w' | .outgrown => False) : Yp P K J ((execOp (evalR ρ) ⟨d, .call ⟨.value (.func f), #[x0, x1], at_⟩, ty, pos, af, gd⟩).run P w) :=
  Yp.call hp [v0, v1] (by simp [h0, h1]) h
theorem Yp.callA3 {f : FuncId} (hp : Plain P f) {x0 x1 x2 : Operand} {v0 v1 v2 : Value} {at_ : Array TypeId} {J : List PanicEntry → World → Prop} (h0 : evalR ρ x0 = v0) (h1 : evalR ρ x1 = v1) (h2 : evalR ρ x2 = v2)
    (h : Calls P f #[v0, v1, v2] w fun e w' => match e with | .returned v => K v w' | .panicked ch => J ch w' | .outgrown => False) : Yp P K J ((execOp (evalR ρ) ⟨d, .call ⟨.value (.func f), #[x0, x1, x2], at_⟩, ty, pos, af, gd⟩).run P w) :=
  Yp.call hp [v0, v1, v2] (by simp [h0, h1, h2]) h
end
open Go.RowKit
theorem run_loadBytes {P : Program} {w : World} : ∀ (l : List UInt8) (a : Addr) (acc : ByteArray), (∀ j u, (Lib.byteCells l)[j]? = some u → w.cell? (a.add j) = some u) → (Extern.Bytes.loadBytes a l.length acc).run P w = .ok ⟨acc.data ++ l.toArray⟩ w
  | [], a, acc, _ => by simp [Extern.Bytes.loadBytes, Sem.run_pure]
  | b :: r, a, acc, h => by
    have h0 := h 0 (B8 b) (by simp [Lib.byteCells])
    have ha : a.add 0 = a := by unfold Addr.add; split <;> simp_all
    rw [ha] at h0
    have ih := run_loadBytes (P := P) (w := w) r (a.add 1) (acc.push b) (fun j u hj => by
      rw [addr_add_add]
      refine h (1 + j) u ?_
      rw [Nat.add_comm]
      simpa [Lib.byteCells] using hj)
    have hb : (((b.toNat : Nat) : Int)).toNat.toUInt8 = b := by simp
    have hl : (load a).run P w = .ok (B8 b) w := by simp [load, Sem.run, h0]
    simp only [List.length_cons, Extern.Bytes.loadBytes, Sem.run_bind, hl, Result.andThen_ok]
    rw [hb, ih]
    simp
theorem run_bytesOf {P : Program} {w : World} {v : Value} {l : List UInt8} (h : RB w v l) : (Extern.Bytes.bytesOf v).run P w = .ok ⟨l.toArray⟩ w := by
  obtain ⟨h1, ao, cap, rfl, h2, h3, h4, h5⟩ := h
  cases ao with
  | none =>
    have : l = [] := List.eq_nil_of_length_eq_zero (h4 rfl).1
    subst this
    rfl
  | some a =>
    have := run_loadBytes (P := P) (w := w) l a .empty (h5 a rfl)
    simpa [Extern.Bytes.bytesOf] using this
theorem run_compareRB {P : Program} {w : World} {x y : Value} {l m : List UInt8} (hx : RB w x l) (hy : RB w y m) : (Extern.BytealgCompare.compare #[x, y]).run P w = .ok (.int .i64 (Lib.compareBytes l m)) w := by
  change Sem.run P (do pure (goInt (Extern.BytealgCompare.cmp (← Extern.Bytes.bytesOf x) (← Extern.Bytes.bytesOf y)))) w = _
  simp only [Sem.run_bind, run_bytesOf hx, run_bytesOf hy, Sem.run_pure, Result.andThen_ok]
  rw [Lib.cmp_eq]
  rfl
section
variable {P : Program} {K : Value → World → Prop} {ρ : Slots} {w : World} {d : Option Tmp} {ty : TypeId} {pos : String} {af : Array Edge} {gd : Option (Nat × Bool)}
theorem Yk.extern2 {f : FuncId} {at_ : Array TypeId} {x y : Operand} {v0 v1 v : Value} (hx : evalR ρ x = v0) (hy : evalR ρ y = v1) (hr : (callFunc f #[v0, v1]).run P w = .ok (.value v) w) (hk : K v w) : Yk P K ((execOp (evalR ρ) ⟨d, .call ⟨.value (.func f), #[x, y], at_⟩, ty, pos, af, gd⟩).run P w) := by
  refine Yk.value (v := v) (w' := w) ?_ hk
  have hf : evalR ρ (.func f) = .func (.func f) #[] #[] := rfl
  unfold execOp
  simp [resolve, hf, Deferred.ofValue, invoke, hx, hy, hr]
end
section
variable {P : Program} {w : World}
theorem RB.ofBlk {g : Nat} {l : List UInt8} {t : TypeId} {fr : Nat × Nat} (h : w.heap[g]? = some (.cells (Lib.byteCells l).toArray t fr)) (hl : l.length ≤ 9223372036854775807) : RB w (.slice (some ⟨g, 0, none⟩) l.length l.length) l :=
  ⟨by simp [Lib.byteCells], _, _, rfl, Nat.le_refl _, by unfold maxLen; omega, (fun h => by cases h), fun a ha j u hu => by
    cases ha
    rw [Addr.add_lit, Nat.zero_add]
    exact cellAt h hu⟩
theorem RB.ofBlkN {g n : Nat} {l : List UInt8} {t : TypeId} {fr : Nat × Nat} (h : w.heap[g]? = some (.cells (Lib.byteCells l).toArray t fr)) (hn : l.length = n) (hl : n ≤ 9223372036854775807) : RB w (.slice (some ⟨g, 0, none⟩) n n) l := by
  subst hn
  exact RB.ofBlk h hl
theorem Yk.sliceArr {K : Value → World → Prop} {ρ : Tmp → Value} {t e : TypeId} {n : Nat} (ht : P.underlying t = some (.array n e)) (he : ∀ w' : World, (sizeOf e).run P w' = .ok 1 w') {x : Operand} {d : Option Tmp} {ty : TypeId} {pos : String} {af : Array Edge} {gd : Option (Nat × Bool)} {w : World} {b o : Nat}
    (hx : evalR ρ x = .pointer (some ⟨b, o, none⟩)) (hk : K (.slice (some ⟨b, o, none⟩) n n) w) : Yk P K ((execOp (evalR ρ) ⟨d, .slice t x none none none, ty, pos, af, gd⟩).run P w) := by
  refine Yk.value (v := .slice (some ⟨b, o, none⟩) n n) (w' := w) ?_ hk
  have hE : P.elem t = e := by simp [Program.elem, ht]
  have hN : P.arrayLen t = n := by simp [Program.arrayLen, ht]
  have hr := run_sliceAt_array_all (P := P) (w := w) (t := t) (a := ⟨b, o, none⟩) (by rw [hE, hN]; exact ht)
  rw [hE, he, hN] at hr
  unfold execOp
  simp only [hx, Option.map_none, Sem.run_bind, hr, Result.andThen_ok, Sem.run_pure]
  simp [slicedAt, Addr.add_lit]
end
def zeroB (x : Id32) : Bool := decide (x.1 = List.replicate 32 0)
def setTo (l : List Bs) (i : Nat) : Prop := ∀ j, 0 < j → j < i → Lib.compareBytes (l.getD (j - 1) []) (l.getD j []) < 0
open Classical in
noncomputable def setB (l : List Bs) : Bool := decide (setTo l l.length)
theorem setTo_zero (l : List Bs) : setTo l 0 := fun j _ h => by omega
theorem setTo_one {l : List Bs} {i : Nat} (_h : setTo l i) (h0 : i = 0) : setTo l (i + 1) := fun j h1 h2 => by omega
theorem setTo_step {l : List Bs} {i : Nat} (h : setTo l i) (h1 : Lib.compareBytes (l.getD (i - 1) []) (l.getD i []) < 0) : setTo l (i + 1) := fun j h2 h3 => by
  by_cases e : j < i
  · exact h j h2 e
  · obtain rfl : j = i := by omega
    exact h1
theorem setB_all {l : List Bs} {i : Nat} (hi : l.length ≤ i) (h : setTo l i) : setB l = true := by
  classical
  exact decide_eq_true (fun j h1 h2 => h j h1 (by omega))
theorem setB_no {l : List Bs} {i : Nat} (hi : i < l.length) (h0 : 0 < i) (h : ¬ Lib.compareBytes (l.getD (i - 1) []) (l.getD i []) < 0) : setB l = false := by
  classical
  exact decide_eq_false (fun k => h (k i h0 hi))
theorem drop_cons {α : Type} {l : List α} {i : Nat} (d : α) (h : i < l.length) : l.drop i = l.getD i d :: l.drop (i + 1) := by
  rw [List.drop_eq_getElem_cons h, List.getD_eq_getElem?_getD, List.getElem?_eq_getElem h]; rfl
theorem getD_mem {α : Type} {l : List α} {i : Nat} (d : α) (h : i < l.length) : l.getD i d ∈ l := by
  rw [List.getD_eq_getElem?_getD, List.getElem?_eq_getElem h]; exact List.getElem_mem h
theorem bytes_len32 {l : List UInt8} (h : (Lib.byteCells l).length = 32) : l.length = 32 := by rwa [Lib.byteCells_length] at h
open Go.RowKit
set_option maxRecDepth 100000
theorem bcmp {vx vy : Value} {x y : Bs} {w : World} (hx : RB w vx x) (hy : RB w vy y) : (callFunc 168 #[vx, vy]).run Tryd.prog w = .ok (.value (.int .i64 (Lib.compareBytes x y))) w := by
 rw [run_callFunc_extern (e := Extern.BytealgCompare.compare) Tryd.func168 (by kernel_rfl) (by kernel_rfl) (by kernel_rfl) (by kernel_rfl), run_compareRB hx hy]
 rfl
theorem wr2_ty25 : Tryd.prog.underlying 25 = some (.array 32 5) := by kernel_rfl
theorem wr2_eg25 : Tryd.prog.eqGuardType Tryd.prog.depth 25 = false := by kernel_rfl
theorem wr2_ty5 : Tryd.prog.underlying 5 = some (.int .u8) := by kernel_rfl
theorem wr2_sz5 : ∀ w' : World, (sizeOf 5).run Tryd.prog w' = .ok 1 w' := fun _ => by kernel_rfl
theorem wr2_pl154 : Plain Tryd.prog 154 := fun _ _ => by kernel_rfl
theorem wr2_ty23 : Tryd.prog.underlying 23 = some (.slice 25) := by kernel_rfl
theorem wr2_szg25 : ∀ w' : World, (sizeOf 25).run Tryd.prog w' = .ok 32 w' := fun _ => by kernel_rfl
theorem wr2_isz25 : (Tryd.prog.info? 25).map (·.size) = some 32 := by kernel_rfl
theorem wr2_pl142 : Plain Tryd.prog 142 := fun _ _ => by kernel_rfl
theorem wzero_any (w : World) (x : Id32) :
  Calls Tryd.prog 60 #[AB x.1] w fun e w' => e = .returned (.bool (zeroB x)) ∧ Ext w w' := by
 refine calls_of_wpF (args := [AB x.1]) Tryd.func60 rfl 6 rfl (Nat.le_of_ble_eq_true rfl) ?_
 intro ρ0 hb
 have T0 : ρ0 0 = (AB x.1 : Value) := hb.get 0
 clear hb
 have hE := Ext.refl w
 refine sk fun K1 hK1 => (wt (oS rfl (Yk.box (cs := (Lib.byteCells x.1 : List Value).toArray) T0 fun n2 w3 hn4 hb5 hx6 hs7 => ?_)))
 have hE := hE.trans hx6
 have hb8 := hb5; clear hb5
 have hl9 : n2 < w3.heap.size := by omega
 refine oA rfl (oZ (tN (hK1 _ _ (sk fun K10 hK10 => (wt (oS rfl (Yk.loadAll (vr (PQ n2 0) rfl) hb8 wr2_ty25 rfl (by exact sizeId_of x.2) (oS rfl (Yk.run (v := AB (List.replicate 32 0)) (by kernel_rfl) (oS rfl (Yk.eqArr (l1 := x.1) (l2 := (List.replicate 32 0)) wr2_ty25 wr2_ty5 wr2_sz5 wr2_eg25 (vr (AB x.1) rfl) (vr (AB (List.replicate 32 0)) rfl) (by exact x.2) (by simp) (oA rfl (oZ (tN (hK10 _ _ (wpF_ret (postF_ret (fn := Tryd.f60) _ rfl [.bool (decide (x.1 = (List.replicate 32 0)))] (.bool (decide (x.1 = (List.replicate 32 0)))) rfl ⟨rfl, trivial⟩ ?_)))))))))))))))))
 exact ⟨rfl, hE⟩

theorem bytesCompare_any (w : World) (vx vy : Value) (x y : Bs) (hx : RB w vx x) (hy : RB w vy y) :
  Calls Tryd.prog 154 #[vx, vy] w fun e w' => e = .returned (.int .i64 (Lib.compareBytes x y)) ∧ Ext w w' := by
 refine calls_of_wpF (args := [vx, vy]) Tryd.func154 rfl 8 rfl (Nat.le_of_ble_eq_true rfl) ?_
 intro ρ0 hb
 have T0 : ρ0 0 = (vx : Value) := hb.get 0
 have T1 : ρ0 1 = (vy : Value) := hb.get 1
 clear hb
 have hE := Ext.refl w
 refine sk fun K1 hK1 => (wt (oA rfl (oZ (tN (hK1 _ _ (sk fun K2 hK2 => (wt (oM rfl (oM rfl (oS rfl (Yk.extern2 T0 T1 (bcmp (hx.keep hE) (hy.keep hE)) (oA rfl (oZ (tN (hK2 _ _ (wpF_ret (postF_ret (fn := Tryd.f154) _ rfl [.int .i64 (Lib.compareBytes x y : Int)] (.int .i64 (Lib.compareBytes x y : Int)) rfl ⟨rfl, trivial⟩ ?_)))))))))))))))))
 exact ⟨rfl, hE⟩

theorem compare_any (w : World) (x y : Bs) (hxl : x.length = 32) (hyl : y.length = 32) :
  Calls Tryd.prog 142 #[AB x, AB y] w fun e w' => e = .returned (.int .i64 (Lib.compareBytes x y)) ∧ Ext w w' := by
 refine calls_of_wpF (args := [AB x, AB y]) Tryd.func142 rfl 8 rfl (Nat.le_of_ble_eq_true rfl) ?_
 intro ρ0 hb
 have T0 : ρ0 0 = (AB x : Value) := hb.get 0
 have T1 : ρ0 1 = (AB y : Value) := hb.get 1
 clear hb
 have hE := Ext.refl w
 refine sk fun K1 hK1 => (wt (oS rfl (Yk.box (cs := (Lib.byteCells x : List Value).toArray) T0 fun n2 w3 hn4 hb5 hx6 hs7 => ?_)))
 have hE := hE.trans hx6
 have hb8 := hb5; clear hb5
 have hl9 : n2 < w3.heap.size := by omega
 refine oS rfl (Yk.box (cs := (Lib.byteCells y : List Value).toArray) T1 fun n10 w11 hn12 hb13 hx14 hs15 => ?_)
 have hA16 := Ext.refl w3
 have hea17 := hE
 have hz18 := hE.size
 have hlt19 := lte (bl hb8) hn12
 have hE := hE.trans hx14
 have hb8 := eb hx14 hb8
 have hA16 := hA16.trans hx14
 have hb20 := hb13; clear hb13
 have hl21 : n10 < w11.heap.size := by omega
 refine oA rfl (oZ (tN (hK1 _ _ (sk fun K22 hK22 => ?_))))
 refine wpF_draw [Is (.slice (some ⟨n2, 0, none⟩) 32 32), Is (.slice (some ⟨n10, 0, none⟩) 32 32), Is (.int .i64 (Lib.compareBytes x y : Int)), Is (.int .i64 (Lib.compareBytes x y : Int))] (by kernel_rfl) [5, 6, 7, 4] (by kernel_rfl) (by kernel_rfl) (si4 trivial) ?hs1001 ?hQ1001
 case hs1001 =>
  refine ⟨?_, ?_, ?_, ?_, trivial⟩
  ·refine stepN rfl fun σ w1 hC h => ?_
   have e2 : σ 2 = PQ n2 0 := (eqo (h 2 (by decide))).trans rfl
   exact Yk.sliceArr wr2_ty25 wr2_sz5 e2 ⟨Ext.refl _, rfl⟩
  ·refine stepN rfl fun σ w1 hC h => ?_
   have e3 : σ 3 = PQ n10 0 := (eqo (h 3 (by decide))).trans rfl
   exact Yk.sliceArr wr2_ty25 wr2_sz5 e3 ⟨Ext.refl _, rfl⟩
  ·refine stepN rfl fun σ w1 hC h => ?_
   have e5 := eqo (h 5 (by decide))
   have e6 := eqo (h 6 (by decide))
   refine Yk.callA2 wr2_pl154 e5 e6 ((bytesCompare_any _ _ _ x y (RB.ofBlkN (eb hC hb8) hxl (by decide)) (RB.ofBlkN (eb hC hb20) hyl (by decide))).mono ?_)
   rintro e w2 ⟨rfl, hx⟩
   exact ⟨_, rfl, hx, rfl⟩
  ·refine stepN rfl fun σ w1 hC h => ?_
   have e7 := eqo (h 7 (by decide))
   exact Yk.assign e7 ⟨Ext.refl _, rfl⟩
 intro ρ23 w24 hx25 he hf
 obtain ⟨-, -, -, k4, -⟩ := hf
 obtain ⟨T0, T1, T2, T3, -⟩ := he.hold [(0, _), (1, _), (2, PQ n2 0), (3, PQ n10 0)] ⟨T0, T1, rfl, rfl, trivial⟩ rfl
 clear he
 have hE := hE.trans hx25
 have hb8 := eb hx25 hb8
 have hA16 := hA16.trans hx25
 have hb20 := eb hx25 hb20
 have T4 : ρ23 4 = .int .i64 (Lib.compareBytes x y : Int) := k4
 clear k4
 refine tN (hK22 _ _ (wpF_ret (postF_ret (fn := Tryd.f142) _ rfl [.int .i64 (Lib.compareBytes x y : Int)] (.int .i64 (Lib.compareBytes x y : Int)) rfl ⟨T4, trivial⟩ ?_)))
 exact ⟨rfl, hE⟩

theorem isSet_any (w : World) (v : Value) (l : List Bs) (hr : RG 32 Lib.byteCells w v l) (hll : l.length < 9223372036854775807) :
  Calls Tryd.prog 104 #[v] w fun e w' => e = .returned (.bool (setB l)) ∧ Ext w w' := by
 refine calls_of_wpF (args := [v]) Tryd.func104 rfl 25 rfl (Nat.le_of_ble_eq_true rfl) ?_
 intro ρ0 hb
 have T0 : ρ0 0 = (v : Value) := hb.get 0
 clear hb
 have hE := Ext.refl w
 refine sk fun K1 hK1 => (wt (oA rfl (oZ (tN (hK1 _ _ (sk fun K2 hK2 => (sk fun K3 hK3 => (wt (oM rfl (oS rfl (Yk.lenRG wr2_ty23 (RG.of hr T0) (oM rfl (oL_ [(0, v), (2, .bool (false)), (5, NI l.length), (6, NI 0)] ⟨T0, rfl, rfl, rfl, trivial⟩ fun ρ4 ⟨T0, T2, T5, T6, _⟩ => (tN (hK3 _ _ (wpF_block (wpF_loop (fun (ρ : Slots) (wz : World) => ∃ i : Nat, ρ 0 = (v : Value) ∧ ρ 5 = (NI l.length : Value) ∧ ρ 6 = (NI i : Value) ∧ RG 32 Lib.byteCells wz v l ∧ Ext w wz ∧ (i ≤ l.length) ∧ (setTo l i) ∧ True) (fun ρ _ => l.length - (intOf (ρ 6)).toNat) ⟨0, T0, T5, T6, hr, hE, Nat.zero_le _, setTo_zero _, trivial⟩ ?_)))))))))))))))))
 clear hr hE
 rintro ρ5 w6 ⟨i, T0, T5, T6, hr, hE, hi, hn, -⟩
 have q6 := T6
 by_cases hlt : i < l.length
 ·have hel : (l.getD i []).length = 32 := bytes_len32 (RG.elem hr [] hlt)
  by_cases q0 : 0 < i
  ·have hem : (l.getD (i - 1) []).length = 32 := bytes_len32 (RG.elem hr [] (by omega))
   by_cases q1 : 0 ≤ Lib.compareBytes (l.getD (i - 1) []) (l.getD i [])
   ·refine sk fun K7 hK7 => (wt (oS rfl (Yk.eqI (a := (i : Nat)) (b := (l.length : Nat)) T6 T5 (k_lss _ _ _ _) (oZ (tN (hK7 _ _ (sk fun K8 hK8 => (wpF_true (vr (.bool (true)) (congrArg Value.bool (decide_eq_true (hlt)))) (wpF_skip (tN (hK8 _ _ (sk fun K9 hK9 => (wpF_block (sk fun K10 hK10 => (wt (oM rfl (oA rfl (oZ ?_))))))))))))))))))
    refine tN (hK10 _ _ (sk fun K11 hK11 => ?_))
    refine wpF_draw [Is (NI i), Is (.bool (true)), Is (.bool (true)), Is (v), Is (NI i), Is (NI ((i) - (1))), fun x w' => PR (Lib.byteCells (l.getD ((i) - (1)) ([] : List UInt8))) x w', Is (AB (l.getD ((i) - (1)) ([] : List UInt8))), Is (v), Is (NI i), fun x w' => PR (Lib.byteCells (l.getD (i) ([] : List UInt8))) x w', Is (AB (l.getD (i) ([] : List UInt8))), Is (.int .i64 (Lib.compareBytes (l.getD ((i) - (1)) ([] : List UInt8)) (l.getD (i) ([] : List UInt8)) : Int)), Is (.bool (true)), Is (.bool (true))] (by kernel_rfl) [9, 10, 11, 12, 13, 14, 15, 16, 17, 18, 19, 20, 21, 22, 23] (by kernel_rfl) (by kernel_rfl) (si6 ⟨(fun _ _ _ h k => PR.keep h k), (si3 ⟨(fun _ _ _ h k => PR.keep h k), (si4 trivial)⟩)⟩) ?hs1004 ?hQ1004
    case hs1004 =>
     refine ⟨?_, ?_, ?_, ?_, ?_, ?_, ?_, ?_, ?_, ?_, ?_, ?_, ?_, ?_, ?_, trivial⟩
     ·refine stepN rfl fun σ w1 hC h => ?_
      have e3 := (eqo (h 3 (by decide))).trans T6
      exact Yk.move e3 ⟨Ext.refl _, rfl⟩
     ·refine stepN rfl fun σ w1 hC h => ?_
      have e9 := eqo (h 9 (by decide))
      exact Yk.eqI (a := (i : Nat)) (b := (0 : Nat)) e9 rfl (k_gtr _ _ _ _) ⟨Ext.refl _, (congrArg Value.bool (decide_eq_true (q0)))⟩
     ·refine stepN rfl fun σ w1 hC h => ?_
      have e10 := eqo (h 10 (by decide))
      exact Yk.move e10 ⟨Ext.refl _, rfl⟩
     ·refine stepY 2 true 11 rfl rfl (fun _ _ h => h) fun σ w1 hC h => ?_
      have e0 := (eqo (h 0 (by decide))).trans T0
      exact Yk.move e0 ⟨Ext.refl _, rfl⟩
     ·refine stepY 2 true 11 rfl rfl (fun _ _ h => h) fun σ w1 hC h => ?_
      have e3 := (eqo (h 3 (by decide))).trans T6
      exact Yk.move e3 ⟨Ext.refl _, rfl⟩
     ·refine stepY 2 true 11 rfl rfl (fun _ _ h => h) fun σ w1 hC h => ?_
      have e13 := eqo (h 13 (by decide))
      exact Yk.bin (xv := NI i) (yv := NI 1) e13 rfl rfl (i64_sub _ _ _ (by omega) (by omega)) ⟨Ext.refl _, rfl⟩
     ·refine stepY 2 true 11 rfl rfl (fun _ _ h => h) fun σ w1 hC h => ?_
      have e12 := eqo (h 12 (by decide))
      have e14 := eqo (h 14 (by decide))
      exact Yk.atRG wr2_ty23 wr2_szg25 (by decide) ([] : List UInt8) (RG.of (hr.keep hC) e12) e14 (by omega) fun v h => ⟨Ext.refl _, h⟩
     ·refine stepY 2 true 11 rfl rfl (fun _ _ h => h) fun σ w1 hC h => ?_
      have e15 : (fun x w' => PR (Lib.byteCells (l.getD ((i) - (1)) ([] : List UInt8))) x w') (σ 15) w1 := h 15 (by decide)
      exact Yk.loadPR e15 wr2_ty25 rfl (by rw [RG.elem hr ([] : List UInt8) (by omega)]; exact wr2_isz25) ⟨Ext.refl _, rfl⟩
     ·refine stepY 2 true 11 rfl rfl (fun _ _ h => h) fun σ w1 hC h => ?_
      have e0 := (eqo (h 0 (by decide))).trans T0
      exact Yk.move e0 ⟨Ext.refl _, rfl⟩
     ·refine stepY 2 true 11 rfl rfl (fun _ _ h => h) fun σ w1 hC h => ?_
      have e3 := (eqo (h 3 (by decide))).trans T6
      exact Yk.move e3 ⟨Ext.refl _, rfl⟩
     ·refine stepY 2 true 11 rfl rfl (fun _ _ h => h) fun σ w1 hC h => ?_
      have e17 := eqo (h 17 (by decide))
      have e18 := eqo (h 18 (by decide))
      exact Yk.atRG wr2_ty23 wr2_szg25 (by decide) ([] : List UInt8) (RG.of (hr.keep hC) e17) e18 (by omega) fun v h => ⟨Ext.refl _, h⟩
     ·refine stepY 2 true 11 rfl rfl (fun _ _ h => h) fun σ w1 hC h => ?_
      have e19 : (fun x w' => PR (Lib.byteCells (l.getD (i) ([] : List UInt8))) x w') (σ 19) w1 := h 19 (by decide)
      exact Yk.loadPR e19 wr2_ty25 rfl (by rw [RG.elem hr ([] : List UInt8) (by omega)]; exact wr2_isz25) ⟨Ext.refl _, rfl⟩
     ·refine stepY 2 true 11 rfl rfl (fun _ _ h => h) fun σ w1 hC h => ?_
      have e16 := eqo (h 16 (by decide))
      have e20 := eqo (h 20 (by decide))
      refine Yk.callA2 wr2_pl142 e16 e20 ((compare_any _ (l.getD ((i) - (1)) ([] : List UInt8)) (l.getD (i) ([] : List UInt8)) (bytes_len32 (RG.elem hr ([] : List UInt8) (by omega))) (bytes_len32 (RG.elem hr ([] : List UInt8) (by omega)))).mono ?_)
      rintro e w2 ⟨rfl, hx⟩
      exact ⟨_, rfl, hx, rfl⟩
     ·refine stepY 2 true 11 rfl rfl (fun _ _ h => h) fun σ w1 hC h => ?_
      have e21 := eqo (h 21 (by decide))
      exact Yk.eqI e21 (vr (NI 0) rfl) (z_geq _ .i64 (Lib.compareBytes (l.getD ((i) - (1)) ([] : List UInt8)) (l.getD (i) ([] : List UInt8)) : Int) ((0 : Nat) : Int)) ⟨Ext.refl _, (congrArg Value.bool (decide_eq_true (by omega)))⟩
     ·refine stepN rfl fun σ w1 hC h => ?_
      have e11 := eqo (h 11 (by decide))
      have e22 := eqo (h 22 (by decide))
      exact Yk.pickT e11 e22 ⟨Ext.refl _, rfl⟩
    intro ρ12 w13 hx14 he hf
    obtain ⟨-, -, -, -, -, -, -, -, -, -, -, -, -, -, k23, -⟩ := hf
    obtain ⟨T0, T3, T5, T6, T7, -⟩ := he.hold [(0, _), (3, _), (5, _), (6, _), (7, _)] ⟨T0, T6, T5, T6, (congrArg Value.bool (decide_eq_true (hlt))), trivial⟩ rfl
    clear he
    have hr := hr.keep hx14
    have hE := hE.trans hx14
    have T23 : ρ12 23 = .bool (true) := k23
    clear k23
    refine tN (hK11 _ _ (wpF_true T23 (sk fun K15 hK15 => (wt (oA rfl (oZ (tN (hK15 _ _ (wpF_ret (inBlockF_ret (thenF_ret (thenF_ret (inBlockF_ret (thenF_ret (postF_ret (fn := Tryd.f104) _ rfl [.bool (false)] (.bool (false)) rfl ⟨rfl, trivial⟩ ?_)))))))))))))))
    exact ⟨by rw [setB_no hlt q0 (by omega)], hE⟩
   refine sk fun K16 hK16 => (wt (oS rfl (Yk.eqI (a := (i : Nat)) (b := (l.length : Nat)) T6 T5 (k_lss _ _ _ _) (oZ (tN (hK16 _ _ (sk fun K17 hK17 => (wpF_true (vr (.bool (true)) (congrArg Value.bool (decide_eq_true (hlt)))) (wpF_skip (tN (hK17 _ _ (sk fun K18 hK18 => (wpF_block (sk fun K19 hK19 => (wt (oM rfl (oA rfl (oZ ?_))))))))))))))))))
   refine tN (hK19 _ _ (sk fun K20 hK20 => ?_))
   refine wpF_draw [Is (NI i), Is (.bool (true)), Is (.bool (true)), Is (v), Is (NI i), Is (NI ((i) - (1))), fun x w' => PR (Lib.byteCells (l.getD ((i) - (1)) ([] : List UInt8))) x w', Is (AB (l.getD ((i) - (1)) ([] : List UInt8))), Is (v), Is (NI i), fun x w' => PR (Lib.byteCells (l.getD (i) ([] : List UInt8))) x w', Is (AB (l.getD (i) ([] : List UInt8))), Is (.int .i64 (Lib.compareBytes (l.getD ((i) - (1)) ([] : List UInt8)) (l.getD (i) ([] : List UInt8)) : Int)), Is (.bool (false)), Is (.bool (false))] (by kernel_rfl) [9, 10, 11, 12, 13, 14, 15, 16, 17, 18, 19, 20, 21, 22, 23] (by kernel_rfl) (by kernel_rfl) (si6 ⟨(fun _ _ _ h k => PR.keep h k), (si3 ⟨(fun _ _ _ h k => PR.keep h k), (si4 trivial)⟩)⟩) ?hs2004 ?hQ2004
   case hs2004 =>
    refine ⟨?_, ?_, ?_, ?_, ?_, ?_, ?_, ?_, ?_, ?_, ?_, ?_, ?_, ?_, ?_, trivial⟩
    ·refine stepN rfl fun σ w1 hC h => ?_
     have e3 := (eqo (h 3 (by decide))).trans T6
     exact Yk.move e3 ⟨Ext.refl _, rfl⟩
    ·refine stepN rfl fun σ w1 hC h => ?_
     have e9 := eqo (h 9 (by decide))
     exact Yk.eqI (a := (i : Nat)) (b := (0 : Nat)) e9 rfl (k_gtr _ _ _ _) ⟨Ext.refl _, (congrArg Value.bool (decide_eq_true (q0)))⟩
    ·refine stepN rfl fun σ w1 hC h => ?_
     have e10 := eqo (h 10 (by decide))
     exact Yk.move e10 ⟨Ext.refl _, rfl⟩
    ·refine stepY 2 true 11 rfl rfl (fun _ _ h => h) fun σ w1 hC h => ?_
     have e0 := (eqo (h 0 (by decide))).trans T0
     exact Yk.move e0 ⟨Ext.refl _, rfl⟩
    ·refine stepY 2 true 11 rfl rfl (fun _ _ h => h) fun σ w1 hC h => ?_
     have e3 := (eqo (h 3 (by decide))).trans T6
     exact Yk.move e3 ⟨Ext.refl _, rfl⟩
    ·refine stepY 2 true 11 rfl rfl (fun _ _ h => h) fun σ w1 hC h => ?_
     have e13 := eqo (h 13 (by decide))
     exact Yk.bin (xv := NI i) (yv := NI 1) e13 rfl rfl (i64_sub _ _ _ (by omega) (by omega)) ⟨Ext.refl _, rfl⟩
    ·refine stepY 2 true 11 rfl rfl (fun _ _ h => h) fun σ w1 hC h => ?_
     have e12 := eqo (h 12 (by decide))
     have e14 := eqo (h 14 (by decide))
     exact Yk.atRG wr2_ty23 wr2_szg25 (by decide) ([] : List UInt8) (RG.of (hr.keep hC) e12) e14 (by omega) fun v h => ⟨Ext.refl _, h⟩
    ·refine stepY 2 true 11 rfl rfl (fun _ _ h => h) fun σ w1 hC h => ?_
     have e15 : (fun x w' => PR (Lib.byteCells (l.getD ((i) - (1)) ([] : List UInt8))) x w') (σ 15) w1 := h 15 (by decide)
     exact Yk.loadPR e15 wr2_ty25 rfl (by rw [RG.elem hr ([] : List UInt8) (by omega)]; exact wr2_isz25) ⟨Ext.refl _, rfl⟩
    ·refine stepY 2 true 11 rfl rfl (fun _ _ h => h) fun σ w1 hC h => ?_
     have e0 := (eqo (h 0 (by decide))).trans T0
     exact Yk.move e0 ⟨Ext.refl _, rfl⟩
    ·refine stepY 2 true 11 rfl rfl (fun _ _ h => h) fun σ w1 hC h => ?_
     have e3 := (eqo (h 3 (by decide))).trans T6
     exact Yk.move e3 ⟨Ext.refl _, rfl⟩
    ·refine stepY 2 true 11 rfl rfl (fun _ _ h => h) fun σ w1 hC h => ?_
     have e17 := eqo (h 17 (by decide))
     have e18 := eqo (h 18 (by decide))
     exact Yk.atRG wr2_ty23 wr2_szg25 (by decide) ([] : List UInt8) (RG.of (hr.keep hC) e17) e18 (by omega) fun v h => ⟨Ext.refl _, h⟩
    ·refine stepY 2 true 11 rfl rfl (fun _ _ h => h) fun σ w1 hC h => ?_
     have e19 : (fun x w' => PR (Lib.byteCells (l.getD (i) ([] : List UInt8))) x w') (σ 19) w1 := h 19 (by decide)
     exact Yk.loadPR e19 wr2_ty25 rfl (by rw [RG.elem hr ([] : List UInt8) (by omega)]; exact wr2_isz25) ⟨Ext.refl _, rfl⟩
    ·refine stepY 2 true 11 rfl rfl (fun _ _ h => h) fun σ w1 hC h => ?_
     have e16 := eqo (h 16 (by decide))
     have e20 := eqo (h 20 (by decide))
     refine Yk.callA2 wr2_pl142 e16 e20 ((compare_any _ (l.getD ((i) - (1)) ([] : List UInt8)) (l.getD (i) ([] : List UInt8)) (bytes_len32 (RG.elem hr ([] : List UInt8) (by omega))) (bytes_len32 (RG.elem hr ([] : List UInt8) (by omega)))).mono ?_)
     rintro e w2 ⟨rfl, hx⟩
     exact ⟨_, rfl, hx, rfl⟩
    ·refine stepY 2 true 11 rfl rfl (fun _ _ h => h) fun σ w1 hC h => ?_
     have e21 := eqo (h 21 (by decide))
     exact Yk.eqI e21 (vr (NI 0) rfl) (z_geq _ .i64 (Lib.compareBytes (l.getD ((i) - (1)) ([] : List UInt8)) (l.getD (i) ([] : List UInt8)) : Int) ((0 : Nat) : Int)) ⟨Ext.refl _, (congrArg Value.bool (decide_eq_false (by omega)))⟩
    ·refine stepN rfl fun σ w1 hC h => ?_
     have e11 := eqo (h 11 (by decide))
     have e22 := eqo (h 22 (by decide))
     exact Yk.pickT e11 e22 ⟨Ext.refl _, rfl⟩
   intro ρ21 w22 hx23 he hf
   obtain ⟨-, -, -, -, -, -, -, -, -, -, -, -, -, -, k23, -⟩ := hf
   obtain ⟨T0, T3, T5, T6, T7, -⟩ := he.hold [(0, _), (3, _), (5, _), (6, _), (7, _)] ⟨T0, T6, T5, T6, (congrArg Value.bool (decide_eq_true (hlt))), trivial⟩ rfl
   clear he
   have hr := hr.keep hx23
   have hE := hE.trans hx23
   have T23 : ρ21 23 = .bool (false) := k23
   clear k23
   refine tN (hK20 _ _ (wpF_false T23 (wpF_skip (bN (tN (hK18 _ _ (wt (oS rfl (Yk.bin (xv := NI i) (yv := NI 1) T6 rfl rfl (i64_add _ _ _ (by omega)) (oM rfl (oL_ [(0, v), (3, NI i), (5, NI l.length), (6, NI ((i) + (1))), (7, .bool (true)), (23, .bool (false))] ⟨T0, T3, T5, rfl, T7, T23, trivial⟩ fun ρ24 ⟨T0, T3, T5, T6, T7, T23, _⟩ => (tN (And.intro ⟨i + 1, T0, T5, T6, hr, hE, by omega, setTo_step hn (by omega), trivial⟩ ?_)))))))))))))
   show l.length - (intOf (ρ24 6)).toNat < l.length - (intOf (ρ5 6)).toNat
   rw [T6, q6]
   simp only [intOf, Int.toNat_natCast]; omega
  refine sk fun K25 hK25 => (wt (oS rfl (Yk.eqI (a := (i : Nat)) (b := (l.length : Nat)) T6 T5 (k_lss _ _ _ _) (oZ (tN (hK25 _ _ (sk fun K26 hK26 => (wpF_true (vr (.bool (true)) (congrArg Value.bool (decide_eq_true (hlt)))) (wpF_skip (tN (hK26 _ _ (sk fun K27 hK27 => (wpF_block (sk fun K28 hK28 => (wt (oM rfl (oA rfl (oZ ?_))))))))))))))))))
  refine tN (hK28 _ _ (sk fun K29 hK29 => ?_))
  refine wpF_draw [Is (NI i), Is (.bool (false)), Is (.bool (false)), Is undef, Is undef, Is undef, Is undef, Is undef, Is undef, Is undef, Is undef, Is undef, Is undef, Is undef, Is (.bool (false))] (by kernel_rfl) [9, 10, 11, 12, 13, 14, 15, 16, 17, 18, 19, 20, 21, 22, 23] (by kernel_rfl) (by kernel_rfl) (si3 (si12 trivial)) ?hs3004 ?hQ3004
  case hs3004 =>
   refine ⟨?_, ?_, ?_, ?_, ?_, ?_, ?_, ?_, ?_, ?_, ?_, ?_, ?_, ?_, ?_, trivial⟩
   ·refine stepN rfl fun σ w1 hC h => ?_
    have e3 := (eqo (h 3 (by decide))).trans T6
    exact Yk.move e3 ⟨Ext.refl _, rfl⟩
   ·refine stepN rfl fun σ w1 hC h => ?_
    have e9 := eqo (h 9 (by decide))
    exact Yk.eqI (a := (i : Nat)) (b := (0 : Nat)) e9 rfl (k_gtr _ _ _ _) ⟨Ext.refl _, (congrArg Value.bool (decide_eq_false (q0)))⟩
   ·refine stepN rfl fun σ w1 hC h => ?_
    have e10 := eqo (h 10 (by decide))
    exact Yk.move e10 ⟨Ext.refl _, rfl⟩
   ·refine stepX 2 true 11 rfl rfl (fun x _ (h : x = .bool false) => by rw [h]; intro h; cases h) fun _ => rfl
   ·refine stepX 2 true 11 rfl rfl (fun x _ (h : x = .bool false) => by rw [h]; intro h; cases h) fun _ => rfl
   ·refine stepX 2 true 11 rfl rfl (fun x _ (h : x = .bool false) => by rw [h]; intro h; cases h) fun _ => rfl
   ·refine stepX 2 true 11 rfl rfl (fun x _ (h : x = .bool false) => by rw [h]; intro h; cases h) fun _ => rfl
   ·refine stepX 2 true 11 rfl rfl (fun x _ (h : x = .bool false) => by rw [h]; intro h; cases h) fun _ => rfl
   ·refine stepX 2 true 11 rfl rfl (fun x _ (h : x = .bool false) => by rw [h]; intro h; cases h) fun _ => rfl
   ·refine stepX 2 true 11 rfl rfl (fun x _ (h : x = .bool false) => by rw [h]; intro h; cases h) fun _ => rfl
   ·refine stepX 2 true 11 rfl rfl (fun x _ (h : x = .bool false) => by rw [h]; intro h; cases h) fun _ => rfl
   ·refine stepX 2 true 11 rfl rfl (fun x _ (h : x = .bool false) => by rw [h]; intro h; cases h) fun _ => rfl
   ·refine stepX 2 true 11 rfl rfl (fun x _ (h : x = .bool false) => by rw [h]; intro h; cases h) fun _ => rfl
   ·refine stepX 2 true 11 rfl rfl (fun x _ (h : x = .bool false) => by rw [h]; intro h; cases h) fun _ => rfl
   ·refine stepN rfl fun σ w1 hC h => ?_
    have e11 := eqo (h 11 (by decide))
    exact Yk.pickF e11 (vr (.bool (false)) rfl) ⟨Ext.refl _, rfl⟩
  intro ρ30 w31 hx32 he hf
  obtain ⟨-, -, -, -, -, -, -, -, -, -, -, -, -, -, k23, -⟩ := hf
  obtain ⟨T0, T3, T5, T6, T7, -⟩ := he.hold [(0, _), (3, _), (5, _), (6, _), (7, _)] ⟨T0, T6, T5, T6, (congrArg Value.bool (decide_eq_true (hlt))), trivial⟩ rfl
  clear he
  have hr := hr.keep hx32
  have hE := hE.trans hx32
  have T23 : ρ30 23 = .bool (false) := k23
  clear k23
  refine tN (hK29 _ _ (wpF_false T23 (wpF_skip (bN (tN (hK27 _ _ (wt (oS rfl (Yk.bin (xv := NI i) (yv := NI 1) T6 rfl rfl (i64_add _ _ _ (by omega)) (oM rfl (oL_ [(0, v), (3, NI i), (5, NI l.length), (6, NI ((i) + (1))), (7, .bool (true)), (23, .bool (false))] ⟨T0, T3, T5, rfl, T7, T23, trivial⟩ fun ρ33 ⟨T0, T3, T5, T6, T7, T23, _⟩ => (tN (And.intro ⟨i + 1, T0, T5, T6, hr, hE, by omega, setTo_one hn (by omega), trivial⟩ ?_)))))))))))))
  show l.length - (intOf (ρ33 6)).toNat < l.length - (intOf (ρ5 6)).toNat
  rw [T6, q6]
  simp only [intOf, Int.toNat_natCast]; omega
 refine sk fun K34 hK34 => (wt (oS rfl (Yk.eqI (a := (i : Nat)) (b := (l.length : Nat)) T6 T5 (k_lss _ _ _ _) (oZ (tN (hK34 _ _ (sk fun K35 hK35 => (wpF_false (vr (.bool (false)) (congrArg Value.bool (decide_eq_false (hlt)))) (wpF_exit (thenF_exit (thenF_exit (inBlockF_hit (tN (hK2 _ _ (sk fun K36 hK36 => (wt (oA rfl (oZ (tN (hK36 _ _ (wpF_ret (postF_ret (fn := Tryd.f104) _ rfl [.bool (true)] (.bool (true)) rfl ⟨rfl, trivial⟩ ?_))))))))))))))))))))))
 exact ⟨by rw [setB_all (show l.length ≤ i by omega) hn], hE⟩

open Go.RowKit
def badB (u : Upd) : Bool := (((((decide (u.kind.toNat ≠ 1)) && (decide (u.kind.toNat ≠ 2))) || (!nameB u.name)) || (!zeroB u.old)) || (zeroB u.new))
def ordB (a u : Upd) : Bool := (decide (u.kind.toNat < a.kind.toNat)) || ((decide (a.kind.toNat = u.kind.toNat)) && (!(Op.bytesLess a.name u.name)))
def listTo (l : List Upd) (i : Nat) : Prop := ∀ j, j < i → badB (l.getD j dUpd) = false ∧ (0 < j → ordB (l.getD (j - 1) dUpd) (l.getD j dUpd) = false)
open Classical in
noncomputable def listB (l : List Upd) : Bool := decide (listTo l l.length ∧ l.length ≤ 128)
theorem listTo_zero (l : List Upd) : listTo l 0 := fun j h => by omega
theorem listTo_step {l : List Upd} {i : Nat} (h : listTo l i) (h1 : badB (l.getD i dUpd) = false) (h2 : 0 < i → ordB (l.getD (i - 1) dUpd) (l.getD i dUpd) = false) : listTo l (i + 1) := fun j hj => by
  by_cases e : j < i
  · exact h j e
  · obtain rfl : j = i := by omega
    exact ⟨h1, h2⟩
theorem listB_all {l : List Upd} {i : Nat} (hi : l.length ≤ i) (h : listTo l i) : listB l = decide (l.length ≤ 128) := by
  classical
  have h1 : listTo l l.length := fun j hj => h j (by omega)
  unfold listB
  by_cases h2 : l.length ≤ 128
  · rw [decide_eq_true h2, decide_eq_true ⟨h1, h2⟩]
  · rw [decide_eq_false h2, decide_eq_false (fun k => h2 k.2)]
theorem listB_bad {l : List Upd} {i : Nat} (hi : i < l.length) (h : badB (l.getD i dUpd) = true) : listB l = false := by
  classical
  exact decide_eq_false (fun k => by have := (k.1 i hi).1; rw [h] at this; cases this)
theorem listB_ord {l : List Upd} {i : Nat} (hi : i < l.length) (h0 : 0 < i) (h : ordB (l.getD (i - 1) dUpd) (l.getD i dUpd) = true) : listB l = false := by
  classical
  exact decide_eq_false (fun k => by have := (k.1 i hi).2 h0; rw [h] at this; cases this)
noncomputable def setW (l : List Bs) : Bool := (decide (l.length ≤ 65536) && setB l) && (decide (l.length = 0) || !decide (l.getD 0 [] = List.replicate 32 0))
def boundB (n m : Int) : Bool := decide (n ≥ ((0 : Nat) : Int)) && decide (n ≤ m)
theorem and_t {a b : Bool} (h : (a && b) = true) : a = true ∧ b = true := ⟨and_l h, and_r h⟩
theorem and_f {a b : Bool} (h : (a && b) = false) (ha : a = true) : b = false := by rw [ha] at h; exact h
open Go.RowKit
set_option maxRecDepth 100000
theorem wr3_ty22 : Tryd.prog.underlying 22 = some (.slice 67) := by kernel_rfl
theorem wr3_szg67 : ∀ w' : World, (sizeOf 67).run Tryd.prog w' = .ok 66 w' := fun _ => by kernel_rfl
theorem wr3_ty67 : ∃ fs, Tryd.prog.underlying 67 = some (.struct fs) := struct_of (by kernel_rfl)
theorem wr3_isz67 : (Tryd.prog.info? 67).map (·.size) = some 66 := by kernel_rfl
theorem wr3_al67 {d : Option Tmp} {ty : TypeId} {pos : String} {af : Array Edge} {gd : Option (Nat × Bool)} (σ : Operand → Value) (w : World) : (execOp σ ⟨d, .alloc 67, ty, pos, af, gd⟩).run Tryd.prog w = .ok (.value (PQ w.heap.size 0)) (w.alloc (.cells (updC (⟨0, [], zid, zid⟩ : Upd)).toArray 67)) := by kernel_rfl
theorem wr3_fo67_0 : FieldOff Tryd.prog 67 0 0 := fun b o w => by simp [go_sem]
theorem wr3_ty5 : Tryd.prog.underlying 5 = some (.int .u8) := by kernel_rfl
theorem wr3_fo67_1 : FieldOff Tryd.prog 67 1 1 := fun b o w => by simp [go_sem]
theorem wr3_ty9 : Tryd.prog.underlying 9 = some (.string) := by kernel_rfl
theorem wr3_pl59 : Plain Tryd.prog 59 := fun _ _ => by kernel_rfl
theorem wr3_fo67_2 : FieldOff Tryd.prog 67 2 2 := fun b o w => by simp [go_sem]
theorem wr3_ty25 : Tryd.prog.underlying 25 = some (.array 32 5) := by kernel_rfl
theorem wr3_pl60 : Plain Tryd.prog 60 := fun _ _ => by kernel_rfl
theorem wr3_fo67_3 : FieldOff Tryd.prog 67 3 34 := fun b o w => by simp [go_sem]
theorem wr3_ty23 : Tryd.prog.underlying 23 = some (.slice 25) := by kernel_rfl
theorem wr3_pl104 : Plain Tryd.prog 104 := fun _ _ => by kernel_rfl
theorem wr3_szg25 : ∀ w' : World, (sizeOf 25).run Tryd.prog w' = .ok 32 w' := fun _ => by kernel_rfl
theorem wr3_isz25 : (Tryd.prog.info? 25).map (·.size) = some 32 := by kernel_rfl
set_option maxHeartbeats 1600000
theorem wlist_any (w : World) (v : Value) (l : List Upd) (hr : RG 66 updC w v l) (hll : l.length < 9223372036854775807) (hln : ∀ u ∈ l, u.name.length ≤ 4611686018427387904) :
  Calls Tryd.prog 57 #[v] w fun e w' => e = .returned (.bool (listB l)) ∧ Ext w w' := by
 refine calls_of_wpF (args := [v]) Tryd.func57 rfl 76 rfl (Nat.le_of_ble_eq_true rfl) ?_
 intro ρ0 hb
 have T0 : ρ0 0 = (v : Value) := hb.get 0
 clear hb
 have hE := Ext.refl w
 refine sk fun K1 hK1 => (wt (oA rfl (oZ (tN (hK1 _ _ (sk fun K2 hK2 => (sk fun K3 hK3 => (wt (oM rfl (oS rfl (Yk.lenRG wr3_ty22 (RG.of hr T0) (oM rfl (oL_ [(0, v), (2, .bool (false)), (5, v), (6, NI l.length), (7, NI 0)] ⟨T0, rfl, T0, rfl, rfl, trivial⟩ fun ρ4 ⟨T0, T2, T5, T6, T7, _⟩ => (tN (hK3 _ _ (wpF_block (wpF_loop (fun (ρ : Slots) (wz : World) => ∃ i : Nat, ρ 0 = (v : Value) ∧ ρ 5 = (v : Value) ∧ ρ 6 = (NI l.length : Value) ∧ ρ 7 = (NI i : Value) ∧ RG 66 updC wz v l ∧ Ext w wz ∧ (i ≤ l.length) ∧ (listTo l i) ∧ True) (fun ρ _ => l.length - (intOf (ρ 7)).toNat) ⟨0, T0, T5, T6, T7, hr, hE, Nat.zero_le _, listTo_zero _, trivial⟩ ?_)))))))))))))))))
 clear hr hE
 rintro ρ5 w6 ⟨i, T0, T5, T6, T7, hr, hE, hi, hn, -⟩
 have q7 := T7
 refine sk fun K7 hK7 => (wt (oS rfl (Yk.eqI (a := (i : Nat)) (b := (l.length : Nat)) T7 T6 (k_lss _ _ _ _) (oZ (tN (hK7 _ _ (sk fun K8 hK8 => ?_)))))))
 refine wpF_cond ((i) < (l.length)) (vr (.bool (decide ((i) < (l.length)))) rfl) (fun hc0 => ?_) (fun hc0 => ?_)
 ·have hlt : i < l.length := hc0
  have hnm := hln _ (getD_mem dUpd hlt)
  refine wpF_skip (tN (hK8 _ _ (sk fun K9 hK9 => (wpF_block (sk fun K10 hK10 => (wt (oM rfl ?_)))))))
  have hl13 : (updC (l.getD (i) dUpd)).length = 66 := (RG.elem hr dUpd (by omega))
  refine oS rfl (Yk.atRG wr3_ty22 wr3_szg67 (by decide) dUpd (RG.of hr T5) T7 (by omega) fun v11 hp12 => (oS rfl (Yk.loadPR (PR.of hp12 (vr v11 rfl)) (wr3_ty67).choose_spec rfl (by rw [upd_len]; exact wr3_isz67) (oS rfl (Yk.alloc (cs := (updC (⟨0, [], zid, zid⟩ : Upd)).toArray) wr3_al67 fun n14 w15 hn16 hb17 hx18 hs19 => ?_)))))
  have hA20 := Ext.refl w6
  have hea21 := hE
  have hz22 := hE.size
  have hE := hE.trans hx18
  have hA20 := hA20.trans hx18
  have hb23 := hb17; clear hb17
  have hl24 : n14 < w15.heap.size := by omega
  refine oA rfl (oS rfl (Yk.storeAll (vr (PQ n14 0) rfl) (vr (.agg (updC (l.getD (i) dUpd)).toArray) rfl) hb23 (by simp only [List.size_toArray, upd_len]) (st_isz (upd_len _) wr3_isz67) (upd_one (x := (l.getD (i) dUpd))) fun w25 hb26 hg27 hs28 => ?_))
  have hE := row_fresh hE hg27 (Nat.le_trans hz22 (by omega))
  have hA20 := row_fresh hA20 hg27 (Nat.le_trans (Nat.le_refl _) (by omega))
  clear hb23
  have hb23 : w25.heap[n14]? = some (.cells (updC (l.getD (i) dUpd)).toArray 67 (0, 0)) := hb26; clear hb26
  have hl29 := bl hb23
  refine oZ ?_
  clear hp12
  refine tN (hK10 _ _ (sk fun K30 hK30 => (sk fun K31 hK31 => (wt (oS rfl (Yk.fieldAt wr3_fo67_0 (vr (PQ n14 0) rfl) (oS rfl (Yk.cell1 wr3_ty5 rfl (vr (PQ n14 0) rfl) (cellAt hb23 (show (updC (l.getD (i) dUpd))[0]? = some (B8 (((l.getD (i) dUpd)).kind) : Value) from upd_g0 (l.getD (i) dUpd))) (oS rfl (Yk.eqI (a := ((((l.getD (i) dUpd)).kind).toNat : Nat)) (b := (1 : Nat)) rfl rfl (k_neq _ _ _ _) (oM rfl (opsF_mayV (PQ n14 0) rfl rfl (gT (vr (.bool (decide (((((l.getD (i) dUpd)).kind).toNat : Nat) ≠ (1)))) rfl)) (fun hG32 => Yk.fieldAt wr3_fo67_0 (vr (PQ n14 0) rfl) ⟨rfl, rfl⟩) (opsF_mayV (B8 (((l.getD (i) dUpd)).kind)) rfl rfl (gT (vr (.bool (decide (((((l.getD (i) dUpd)).kind).toNat : Nat) ≠ (1)))) rfl)) (fun hG33 => Yk.cell1 wr3_ty5 rfl (mayT (vr (cond ((decide (((((l.getD (i) dUpd)).kind).toNat : Nat) ≠ (1)))) (PQ n14 0) undef) rfl) hG33) (cellAt hb23 (show (updC (l.getD (i) dUpd))[0]? = some (B8 (((l.getD (i) dUpd)).kind) : Value) from upd_g0 (l.getD (i) dUpd))) ⟨rfl, rfl⟩) (opsF_mayV (.bool (decide (((((l.getD (i) dUpd)).kind).toNat : Nat) ≠ (2)))) rfl rfl (gT (vr (.bool (decide (((((l.getD (i) dUpd)).kind).toNat : Nat) ≠ (1)))) rfl)) (fun hG34 => Yk.eqI (a := (((((l.getD (i) dUpd)).kind).toNat : Nat) : Int)) (b := ((2 : Nat) : Int)) (mayT (vr (cond ((decide (((((l.getD (i) dUpd)).kind).toNat : Nat) ≠ (1)))) (B8 (((l.getD (i) dUpd)).kind)) undef) rfl) hG34) (vr (B8 (2)) rfl) (k_neq _ .u8 ((((l.getD (i) dUpd)).kind).toNat) (2)) ⟨rfl, rfl⟩) (oS rfl (Yk.pickAndN (vr (.bool (decide (((((l.getD (i) dUpd)).kind).toNat : Nat) ≠ (1)))) rfl) (fun hA => (mayT (vr (cond ((decide (((((l.getD (i) dUpd)).kind).toNat : Nat) ≠ (1)))) (.bool (decide (((((l.getD (i) dUpd)).kind).toNat : Nat) ≠ (2)))) undef) rfl) hA)) (vr (.bool (false)) rfl) fun bb35 hbb36 => (oM rfl (opsF_mayV (PQ n14 1) rfl rfl (gF (vr (.bool (bb35)) rfl)) (fun hG37 => Yk.fieldAt wr3_fo67_1 (vr (PQ n14 0) rfl) ⟨rfl, rfl⟩) (opsF_mayV (St (((l.getD (i) dUpd)).name)) rfl rfl (gF (vr (.bool (bb35)) rfl)) (fun hG38 => Yk.cell1 wr3_ty9 rfl (mayT (vr (cond (!bb35) (PQ n14 1) undef) rfl) hG38) (cellAt hb23 (show (updC (l.getD (i) dUpd))[1]? = some (St (((l.getD (i) dUpd)).name) : Value) from upd_g1 (l.getD (i) dUpd))) ⟨rfl, rfl⟩) (opsF_mayC (.bool (nameB (((l.getD (i) dUpd)).name))) rfl rfl (gF (vr (.bool (bb35)) rfl)) (fun hG39 => Yk.callA1 wr3_pl59 (mayT (vr (cond (!bb35) (St (((l.getD (i) dUpd)).name)) undef) rfl) hG39) ((name_any _ (((l.getD (i) dUpd)).name) (by have := hnm; omega)).mono (by rintro e w2 ⟨rfl, hx⟩; exact ⟨_, rfl, rfl, hx⟩))) fun w41 hx42 => ?_))))))))))))))))))))
  have hE := hE.trans hx42
  have hA20 := hA20.trans hx42
  have hb23 := eb hx42 hb23
  refine opsF_mayV (.bool (!(nameB (((l.getD (i) dUpd)).name)))) rfl rfl (gF (vr (.bool (bb35)) rfl)) (fun hG43 => Yk.notB (mayT (vr (cond (!bb35) (.bool (nameB (((l.getD (i) dUpd)).name))) undef) rfl) hG43) ⟨rfl, rfl⟩) (oS rfl (Yk.pickOrN (vr (.bool (bb35)) rfl) (vr (.bool (true)) rfl) (fun hA => (mayT (vr (cond (!bb35) (.bool (!(nameB (((l.getD (i) dUpd)).name)))) undef) rfl) (not_i hA))) fun bb44 hbb45 => (oM rfl (opsF_mayV (PQ n14 2) rfl rfl (gF (vr (.bool (bb44)) rfl)) (fun hG46 => Yk.fieldAt wr3_fo67_2 (vr (PQ n14 0) rfl) ⟨rfl, rfl⟩) (opsF_mayV (AB (((l.getD (i) dUpd)).old.1)) rfl rfl (gF (vr (.bool (bb44)) rfl)) (fun hG47 => Yk.loadPR (PR.blk hb23 (upd_m2 (l.getD (i) dUpd)) (upd_n2 (l.getD (i) dUpd)) (mayT (vr (cond (!bb44) (PQ n14 2) undef) rfl) hG47)) wr3_ty25 rfl (sizeId_of ((l.getD (i) dUpd)).old.2) ⟨rfl, rfl⟩) (opsF_mayC (.bool (zeroB (((l.getD (i) dUpd)).old))) rfl rfl (gF (vr (.bool (bb44)) rfl)) (fun hG48 => Yk.callA1 wr3_pl60 (mayT (vr (cond (!bb44) (AB (((l.getD (i) dUpd)).old.1)) undef) rfl) hG48) ((wzero_any _ (((l.getD (i) dUpd)).old)).mono (by rintro e w2 ⟨rfl, hx⟩; exact ⟨_, rfl, rfl, hx⟩))) fun w50 hx51 => ?_))))))
  have hE := hE.trans hx51
  have hA20 := hA20.trans hx51
  have hb23 := eb hx51 hb23
  refine opsF_mayV (.bool (!(zeroB (((l.getD (i) dUpd)).old)))) rfl rfl (gF (vr (.bool (bb44)) rfl)) (fun hG52 => Yk.notB (mayT (vr (cond (!bb44) (.bool (zeroB (((l.getD (i) dUpd)).old))) undef) rfl) hG52) ⟨rfl, rfl⟩) (oS rfl (Yk.pickOrN (vr (.bool (bb44)) rfl) (vr (.bool (true)) rfl) (fun hA => (mayT (vr (cond (!bb44) (.bool (!(zeroB (((l.getD (i) dUpd)).old)))) undef) rfl) (not_i hA))) fun bb53 hbb54 => (oM rfl (opsF_mayV (PQ n14 34) rfl rfl (gF (vr (.bool (bb53)) rfl)) (fun hG55 => Yk.fieldAt wr3_fo67_3 (vr (PQ n14 0) rfl) ⟨rfl, rfl⟩) (opsF_mayV (AB (((l.getD (i) dUpd)).new.1)) rfl rfl (gF (vr (.bool (bb53)) rfl)) (fun hG56 => Yk.loadPR (PR.blk hb23 (upd_m3 (l.getD (i) dUpd)) (upd_n3 (l.getD (i) dUpd)) (mayT (vr (cond (!bb53) (PQ n14 34) undef) rfl) hG56)) wr3_ty25 rfl (sizeId_of ((l.getD (i) dUpd)).new.2) ⟨rfl, rfl⟩) (opsF_mayC (.bool (zeroB (((l.getD (i) dUpd)).new))) rfl rfl (gF (vr (.bool (bb53)) rfl)) (fun hG57 => Yk.callA1 wr3_pl60 (mayT (vr (cond (!bb53) (AB (((l.getD (i) dUpd)).new.1)) undef) rfl) hG57) ((wzero_any _ (((l.getD (i) dUpd)).new)).mono (by rintro e w2 ⟨rfl, hx⟩; exact ⟨_, rfl, rfl, hx⟩))) fun w59 hx60 => ?_))))))
  have hE := hE.trans hx60
  have hA20 := hA20.trans hx60
  have hb23 := eb hx60 hb23
  refine oS rfl (Yk.pickOrN (vr (.bool (bb53)) rfl) (vr (.bool (true)) rfl) (fun hA => (mayT (vr (cond (!bb53) (.bool (zeroB (((l.getD (i) dUpd)).new))) undef) rfl) (not_i hA))) fun bb61 hbb62 => (oZ (tN (hK31 _ _ ?_))))
  refine wpF_condB (bb61) (vr (.bool (bb61)) rfl) (fun hc1 => ?_) (fun hc1 => ?_)
  ·subst hbb36 hbb45 hbb54 hbb62
   have hbad : badB (l.getD i dUpd) = true := hc1
   refine sk fun K63 hK63 => (wt (oA rfl (oZ (tN (hK63 _ _ (wpF_ret (thenF_ret (inBlockF_ret (thenF_ret (thenF_ret (inBlockF_ret (thenF_ret (postF_ret (fn := Tryd.f57) _ rfl [.bool (false)] (.bool (false)) rfl ⟨rfl, trivial⟩ ?_)))))))))))))
   exact ⟨by rw [listB_bad hlt hbad], hE⟩
  subst hbb36 hbb45 hbb54 hbb62
  have hbad : badB (l.getD i dUpd) = false := hc1
  refine wpF_skip (tN (hK30 _ _ (sk fun K64 hK64 => ?_)))
  refine wpF_draw [Is (NI i), Is (.bool (decide ((0) < (i)))), Is (.bool (decide ((0) < (i)))), Is (cond ((decide ((0) < (i)))) (v) undef), Is (cond ((decide ((0) < (i)))) (NI i) undef), Is (cond ((decide ((0) < (i)))) (NI ((i) - (1))) undef), fun x w' => ((decide ((0) < (i)))) = true → (fun x w' => PR (updC (l.getD ((i) - (1)) dUpd)) x w') x w', fun x w' => ((decide ((0) < (i)))) = true → (PCell (B8 ((l.getD ((i) - (1)) dUpd).kind))) x w', Is (cond ((decide ((0) < (i)))) (B8 ((l.getD ((i) - (1)) dUpd).kind)) undef), Is (cond ((decide ((0) < (i)))) (PQ n14 0) undef), Is (cond ((decide ((0) < (i)))) (B8 (((l.getD (i) dUpd)).kind)) undef), Is (cond ((decide ((0) < (i)))) (.bool (decide (((((l.getD (i) dUpd)).kind).toNat) < (((l.getD ((i) - (1)) dUpd).kind).toNat)))) undef), Is (cond ((decide ((0) < (i)))) (.bool (decide (((((l.getD (i) dUpd)).kind).toNat) < (((l.getD ((i) - (1)) dUpd).kind).toNat)))) undef), Is (cond ((decide ((0) < (i))) && !(decide (((((l.getD (i) dUpd)).kind).toNat) < (((l.getD ((i) - (1)) dUpd).kind).toNat)))) (v) undef), Is (cond ((decide ((0) < (i))) && !(decide (((((l.getD (i) dUpd)).kind).toNat) < (((l.getD ((i) - (1)) dUpd).kind).toNat)))) (NI i) undef), Is (cond ((decide ((0) < (i))) && !(decide (((((l.getD (i) dUpd)).kind).toNat) < (((l.getD ((i) - (1)) dUpd).kind).toNat)))) (NI ((i) - (1))) undef), fun x w' => ((decide ((0) < (i))) && !(decide (((((l.getD (i) dUpd)).kind).toNat) < (((l.getD ((i) - (1)) dUpd).kind).toNat)))) = true → (fun x w' => PR (updC (l.getD ((i) - (1)) dUpd)) x w') x w', fun x w' => ((decide ((0) < (i))) && !(decide (((((l.getD (i) dUpd)).kind).toNat) < (((l.getD ((i) - (1)) dUpd).kind).toNat)))) = true → (PCell (B8 ((l.getD ((i) - (1)) dUpd).kind))) x w', Is (cond ((decide ((0) < (i))) && !(decide (((((l.getD (i) dUpd)).kind).toNat) < (((l.getD ((i) - (1)) dUpd).kind).toNat)))) (B8 ((l.getD ((i) - (1)) dUpd).kind)) undef), Is (cond ((decide ((0) < (i))) && !(decide (((((l.getD (i) dUpd)).kind).toNat) < (((l.getD ((i) - (1)) dUpd).kind).toNat)))) (PQ n14 0) undef), Is (cond ((decide ((0) < (i))) && !(decide (((((l.getD (i) dUpd)).kind).toNat) < (((l.getD ((i) - (1)) dUpd).kind).toNat)))) (B8 (((l.getD (i) dUpd)).kind)) undef), Is (cond ((decide ((0) < (i))) && !(decide (((((l.getD (i) dUpd)).kind).toNat) < (((l.getD ((i) - (1)) dUpd).kind).toNat)))) (.bool (decide ((((l.getD ((i) - (1)) dUpd).kind).toNat : Nat) = ((((l.getD (i) dUpd)).kind).toNat)))) undef), Is (cond ((decide ((0) < (i))) && !(decide (((((l.getD (i) dUpd)).kind).toNat) < (((l.getD ((i) - (1)) dUpd).kind).toNat)))) (.bool (decide ((((l.getD ((i) - (1)) dUpd).kind).toNat : Nat) = ((((l.getD (i) dUpd)).kind).toNat)))) undef), Is (cond (((decide ((0) < (i))) && !(decide (((((l.getD (i) dUpd)).kind).toNat) < (((l.getD ((i) - (1)) dUpd).kind).toNat)))) && (decide ((((l.getD ((i) - (1)) dUpd).kind).toNat : Nat) = ((((l.getD (i) dUpd)).kind).toNat)))) (v) undef), Is (cond (((decide ((0) < (i))) && !(decide (((((l.getD (i) dUpd)).kind).toNat) < (((l.getD ((i) - (1)) dUpd).kind).toNat)))) && (decide ((((l.getD ((i) - (1)) dUpd).kind).toNat : Nat) = ((((l.getD (i) dUpd)).kind).toNat)))) (NI i) undef), Is (cond (((decide ((0) < (i))) && !(decide (((((l.getD (i) dUpd)).kind).toNat) < (((l.getD ((i) - (1)) dUpd).kind).toNat)))) && (decide ((((l.getD ((i) - (1)) dUpd).kind).toNat : Nat) = ((((l.getD (i) dUpd)).kind).toNat)))) (NI ((i) - (1))) undef), fun x w' => (((decide ((0) < (i))) && !(decide (((((l.getD (i) dUpd)).kind).toNat) < (((l.getD ((i) - (1)) dUpd).kind).toNat)))) && (decide ((((l.getD ((i) - (1)) dUpd).kind).toNat : Nat) = ((((l.getD (i) dUpd)).kind).toNat)))) = true → (fun x w' => PR (updC (l.getD ((i) - (1)) dUpd)) x w') x w', fun x w' => (((decide ((0) < (i))) && !(decide (((((l.getD (i) dUpd)).kind).toNat) < (((l.getD ((i) - (1)) dUpd).kind).toNat)))) && (decide ((((l.getD ((i) - (1)) dUpd).kind).toNat : Nat) = ((((l.getD (i) dUpd)).kind).toNat)))) = true → (PCell (St ((l.getD ((i) - (1)) dUpd).name))) x w', Is (cond (((decide ((0) < (i))) && !(decide (((((l.getD (i) dUpd)).kind).toNat) < (((l.getD ((i) - (1)) dUpd).kind).toNat)))) && (decide ((((l.getD ((i) - (1)) dUpd).kind).toNat : Nat) = ((((l.getD (i) dUpd)).kind).toNat)))) (St ((l.getD ((i) - (1)) dUpd).name)) undef), Is (cond (((decide ((0) < (i))) && !(decide (((((l.getD (i) dUpd)).kind).toNat) < (((l.getD ((i) - (1)) dUpd).kind).toNat)))) && (decide ((((l.getD ((i) - (1)) dUpd).kind).toNat : Nat) = ((((l.getD (i) dUpd)).kind).toNat)))) (PQ n14 1) undef), Is (cond (((decide ((0) < (i))) && !(decide (((((l.getD (i) dUpd)).kind).toNat) < (((l.getD ((i) - (1)) dUpd).kind).toNat)))) && (decide ((((l.getD ((i) - (1)) dUpd).kind).toNat : Nat) = ((((l.getD (i) dUpd)).kind).toNat)))) (St (((l.getD (i) dUpd)).name)) undef), Is (cond (((decide ((0) < (i))) && !(decide (((((l.getD (i) dUpd)).kind).toNat) < (((l.getD ((i) - (1)) dUpd).kind).toNat)))) && (decide ((((l.getD ((i) - (1)) dUpd).kind).toNat : Nat) = ((((l.getD (i) dUpd)).kind).toNat)))) (.bool (!(Op.bytesLess ((l.getD ((i) - (1)) dUpd).name) (((l.getD (i) dUpd)).name)))) undef), Is (cond ((decide ((0) < (i))) && !(decide (((((l.getD (i) dUpd)).kind).toNat) < (((l.getD ((i) - (1)) dUpd).kind).toNat)))) (.bool ((decide ((((l.getD ((i) - (1)) dUpd).kind).toNat : Nat) = ((((l.getD (i) dUpd)).kind).toNat))) && (!(Op.bytesLess ((l.getD ((i) - (1)) dUpd).name) (((l.getD (i) dUpd)).name))))) undef), Is (cond ((decide ((0) < (i)))) (.bool ((decide (((((l.getD (i) dUpd)).kind).toNat) < (((l.getD ((i) - (1)) dUpd).kind).toNat))) || ((decide ((((l.getD ((i) - (1)) dUpd).kind).toNat : Nat) = ((((l.getD (i) dUpd)).kind).toNat))) && (!(Op.bytesLess ((l.getD ((i) - (1)) dUpd).name) (((l.getD (i) dUpd)).name)))))) undef), Is (.bool ((decide ((0) < (i))) && ((decide (((((l.getD (i) dUpd)).kind).toNat) < (((l.getD ((i) - (1)) dUpd).kind).toNat))) || ((decide ((((l.getD ((i) - (1)) dUpd).kind).toNat : Nat) = ((((l.getD (i) dUpd)).kind).toNat))) && (!(Op.bytesLess ((l.getD ((i) - (1)) dUpd).name) (((l.getD (i) dUpd)).name)))))))] (by kernel_rfl) [37, 38, 39, 40, 41, 42, 43, 44, 45, 46, 47, 48, 49, 50, 51, 52, 53, 54, 55, 56, 57, 58, 59, 60, 61, 62, 63, 64, 65, 66, 67, 68, 69, 70, 71] (by kernel_rfl) (by kernel_rfl) (si6 ⟨(Stab.may ((fun _ _ _ h k => PR.keep h k))), (Stab.may (Stab.pcell _)), (si8 ⟨(Stab.may ((fun _ _ _ h k => PR.keep h k))), (Stab.may (Stab.pcell _)), (si8 ⟨(Stab.may ((fun _ _ _ h k => PR.keep h k))), (Stab.may (Stab.pcell _)), (si7 trivial)⟩)⟩)⟩) ?hs1006 ?hQ1006
  case hs1006 =>
   refine ⟨?_, ?_, ?_, ?_, ?_, ?_, ?_, ?_, ?_, ?_, ?_, ?_, ?_, ?_, ?_, ?_, ?_, ?_, ?_, ?_, ?_, ?_, ?_, ?_, ?_, ?_, ?_, ?_, ?_, ?_, ?_, ?_, ?_, ?_, ?_, trivial⟩
   ·refine stepN rfl fun σ w1 hC h => ?_
    have e3 := (eqo (h 3 (by decide))).trans T7
    exact Yk.move e3 ⟨Ext.refl _, rfl⟩
   ·refine stepN rfl fun σ w1 hC h => ?_
    have e37 := eqo (h 37 (by decide))
    exact Yk.eqI (a := (i : Nat)) (b := (0 : Nat)) e37 rfl (k_gtr _ _ _ _) ⟨Ext.refl _, rfl⟩
   ·refine stepN rfl fun σ w1 hC h => ?_
    have e38 := eqo (h 38 (by decide))
    exact Yk.move e38 ⟨Ext.refl _, rfl⟩
   ·refine stepM 2 true 39 (G := (decide ((0) < (i)))) rfl rfl (fun x _ (h : x = .bool (decide ((0) < (i)))) => gT h) (fun hu_ _ => mayU hu_) fun hG σ w1 hC h => ?_
    have e0 := (eqo (h 0 (by decide))).trans T0
    exact Yk.move e0 ⟨Ext.refl _, mayI hG⟩
   ·refine stepM 2 true 39 (G := (decide ((0) < (i)))) rfl rfl (fun x _ (h : x = .bool (decide ((0) < (i)))) => gT h) (fun hu_ _ => mayU hu_) fun hG σ w1 hC h => ?_
    have e3 := (eqo (h 3 (by decide))).trans T7
    exact Yk.move e3 ⟨Ext.refl _, mayI hG⟩
   ·refine stepM 2 true 39 (G := (decide ((0) < (i)))) rfl rfl (fun x _ (h : x = .bool (decide ((0) < (i)))) => gT h) (fun hu_ _ => mayU hu_) fun hG σ w1 hC h => ?_
    have e41 := eqo (h 41 (by decide))
    exact Yk.bin (xv := NI i) (yv := NI 1) (mayT e41 hG) (vr (NI 1) rfl) rfl (i64_sub _ (i) (1) (by simp only [gA, gB, gC, gD, gE] at hG; omega) (by simp only [gA, gB, gC, gD, gE] at hG; omega)) ⟨Ext.refl _, mayI hG⟩
   ·refine stepM 2 true 39 (G := (decide ((0) < (i)))) rfl rfl (fun x _ (h : x = .bool (decide ((0) < (i)))) => gT h) (fun hu_ _ => noG hu_) fun hG σ w1 hC h => ?_
    have e40 := eqo (h 40 (by decide))
    have e42 := eqo (h 42 (by decide))
    exact Yk.atRG wr3_ty22 wr3_szg67 (by decide) dUpd (RG.of (hr.keep (hA20.trans hC)) (mayT e40 hG)) (mayT e42 hG) (by simp only [gA, gB, gC, gD, gE] at hG; omega) fun v h => ⟨Ext.refl _, fun _ => h⟩
   ·refine stepM 2 true 39 (G := (decide ((0) < (i)))) rfl rfl (fun x _ (h : x = .bool (decide ((0) < (i)))) => gT h) (fun hu_ _ => noG hu_) fun hG σ w1 hC h => ?_
    have e43 : (fun x w' => ((decide ((0) < (i)))) = true → (fun x w' => PR (updC (l.getD ((i) - (1)) dUpd)) x w') x w') (σ 43) w1 := h 43 (by decide)
    exact Yk.fieldPR (n := 1) wr3_fo67_0 (e43 hG) fun v h => ⟨Ext.refl _, fun _ => PR.pcell (by rw [upd_f0] at h; exact h)⟩
   ·refine stepM 2 true 39 (G := (decide ((0) < (i)))) rfl rfl (fun x _ (h : x = .bool (decide ((0) < (i)))) => gT h) (fun hu_ _ => mayU hu_) fun hG σ w1 hC h => ?_
    have e44 : (fun x w' => ((decide ((0) < (i)))) = true → (PCell (B8 ((l.getD ((i) - (1)) dUpd).kind))) x w') (σ 44) w1 := h 44 (by decide)
    exact Yk.loadC wr3_ty5 rfl (e44 hG) ⟨Ext.refl _, mayI hG⟩
   ·refine stepM 2 true 39 (G := (decide ((0) < (i)))) rfl rfl (fun x _ (h : x = .bool (decide ((0) < (i)))) => gT h) (fun hu_ _ => mayU hu_) fun hG σ w1 hC h => ?_
    have e4 : σ 4 = PQ n14 0 := (eqo (h 4 (by decide))).trans rfl
    exact Yk.fieldAt wr3_fo67_0 e4 ⟨Ext.refl _, mayI hG⟩
   ·refine stepM 2 true 39 (G := (decide ((0) < (i)))) rfl rfl (fun x _ (h : x = .bool (decide ((0) < (i)))) => gT h) (fun hu_ _ => mayU hu_) fun hG σ w1 hC h => ?_
    have e46 := eqo (h 46 (by decide))
    exact Yk.cell1 wr3_ty5 rfl (mayT e46 hG) (cellAt (eb hC hb23) (show (updC (l.getD (i) dUpd))[0]? = some (B8 (((l.getD (i) dUpd)).kind) : Value) from upd_g0 (l.getD (i) dUpd))) ⟨Ext.refl _, mayI hG⟩
   ·refine stepM 2 true 39 (G := (decide ((0) < (i)))) rfl rfl (fun x _ (h : x = .bool (decide ((0) < (i)))) => gT h) (fun hu_ _ => mayU hu_) fun hG σ w1 hC h => ?_
    have e45 := eqo (h 45 (by decide))
    have e47 := eqo (h 47 (by decide))
    exact Yk.eqI (a := ((((l.getD ((i) - (1)) dUpd).kind).toNat : Nat) : Int)) (b := (((((l.getD (i) dUpd)).kind).toNat : Nat) : Int)) (mayT e45 hG) (mayT e47 hG) (k_gtr _ .u8 (((l.getD ((i) - (1)) dUpd).kind).toNat) ((((l.getD (i) dUpd)).kind).toNat)) ⟨Ext.refl _, mayI hG⟩
   ·refine stepM 2 true 39 (G := (decide ((0) < (i)))) rfl rfl (fun x _ (h : x = .bool (decide ((0) < (i)))) => gT h) (fun hu_ _ => mayU hu_) fun hG σ w1 hC h => ?_
    have e48 := eqo (h 48 (by decide))
    exact Yk.move (mayT e48 hG) ⟨Ext.refl _, mayI hG⟩
   ·refine stepM 12 false 49 (G := (decide ((0) < (i))) && !(decide (((((l.getD (i) dUpd)).kind).toNat) < (((l.getD ((i) - (1)) dUpd).kind).toNat)))) rfl rfl (fun x _ (h : x = cond ((decide ((0) < (i)))) (.bool (decide (((((l.getD (i) dUpd)).kind).toNat) < (((l.getD ((i) - (1)) dUpd).kind).toNat)))) undef) => geF h) (fun hu_ _ => mayU hu_) fun hG σ w1 hC h => ?_
    have e0 := (eqo (h 0 (by decide))).trans T0
    exact Yk.move e0 ⟨Ext.refl _, mayI hG⟩
   ·refine stepM 12 false 49 (G := (decide ((0) < (i))) && !(decide (((((l.getD (i) dUpd)).kind).toNat) < (((l.getD ((i) - (1)) dUpd).kind).toNat)))) rfl rfl (fun x _ (h : x = cond ((decide ((0) < (i)))) (.bool (decide (((((l.getD (i) dUpd)).kind).toNat) < (((l.getD ((i) - (1)) dUpd).kind).toNat)))) undef) => geF h) (fun hu_ _ => mayU hu_) fun hG σ w1 hC h => ?_
    have e3 := (eqo (h 3 (by decide))).trans T7
    exact Yk.move e3 ⟨Ext.refl _, mayI hG⟩
   ·refine stepM 12 false 49 (G := (decide ((0) < (i))) && !(decide (((((l.getD (i) dUpd)).kind).toNat) < (((l.getD ((i) - (1)) dUpd).kind).toNat)))) rfl rfl (fun x _ (h : x = cond ((decide ((0) < (i)))) (.bool (decide (((((l.getD (i) dUpd)).kind).toNat) < (((l.getD ((i) - (1)) dUpd).kind).toNat)))) undef) => geF h) (fun hu_ _ => mayU hu_) fun hG σ w1 hC h => ?_
    have e51 := eqo (h 51 (by decide))
    exact Yk.bin (xv := NI i) (yv := NI 1) (mayT e51 hG) (vr (NI 1) rfl) rfl (i64_sub _ (i) (1) (by simp only [gA, gB, gC, gD, gE] at hG; omega) (by simp only [gA, gB, gC, gD, gE] at hG; omega)) ⟨Ext.refl _, mayI hG⟩
   ·refine stepM 12 false 49 (G := (decide ((0) < (i))) && !(decide (((((l.getD (i) dUpd)).kind).toNat) < (((l.getD ((i) - (1)) dUpd).kind).toNat)))) rfl rfl (fun x _ (h : x = cond ((decide ((0) < (i)))) (.bool (decide (((((l.getD (i) dUpd)).kind).toNat) < (((l.getD ((i) - (1)) dUpd).kind).toNat)))) undef) => geF h) (fun hu_ _ => noG hu_) fun hG σ w1 hC h => ?_
    have e50 := eqo (h 50 (by decide))
    have e52 := eqo (h 52 (by decide))
    exact Yk.atRG wr3_ty22 wr3_szg67 (by decide) dUpd (RG.of (hr.keep (hA20.trans hC)) (mayT e50 hG)) (mayT e52 hG) (by simp only [gA, gB, gC, gD, gE] at hG; omega) fun v h => ⟨Ext.refl _, fun _ => h⟩
   ·refine stepM 12 false 49 (G := (decide ((0) < (i))) && !(decide (((((l.getD (i) dUpd)).kind).toNat) < (((l.getD ((i) - (1)) dUpd).kind).toNat)))) rfl rfl (fun x _ (h : x = cond ((decide ((0) < (i)))) (.bool (decide (((((l.getD (i) dUpd)).kind).toNat) < (((l.getD ((i) - (1)) dUpd).kind).toNat)))) undef) => geF h) (fun hu_ _ => noG hu_) fun hG σ w1 hC h => ?_
    have e53 : (fun x w' => ((decide ((0) < (i))) && !(decide (((((l.getD (i) dUpd)).kind).toNat) < (((l.getD ((i) - (1)) dUpd).kind).toNat)))) = true → (fun x w' => PR (updC (l.getD ((i) - (1)) dUpd)) x w') x w') (σ 53) w1 := h 53 (by decide)
    exact Yk.fieldPR (n := 1) wr3_fo67_0 (e53 hG) fun v h => ⟨Ext.refl _, fun _ => PR.pcell (by rw [upd_f0] at h; exact h)⟩
   ·refine stepM 12 false 49 (G := (decide ((0) < (i))) && !(decide (((((l.getD (i) dUpd)).kind).toNat) < (((l.getD ((i) - (1)) dUpd).kind).toNat)))) rfl rfl (fun x _ (h : x = cond ((decide ((0) < (i)))) (.bool (decide (((((l.getD (i) dUpd)).kind).toNat) < (((l.getD ((i) - (1)) dUpd).kind).toNat)))) undef) => geF h) (fun hu_ _ => mayU hu_) fun hG σ w1 hC h => ?_
    have e54 : (fun x w' => ((decide ((0) < (i))) && !(decide (((((l.getD (i) dUpd)).kind).toNat) < (((l.getD ((i) - (1)) dUpd).kind).toNat)))) = true → (PCell (B8 ((l.getD ((i) - (1)) dUpd).kind))) x w') (σ 54) w1 := h 54 (by decide)
    exact Yk.loadC wr3_ty5 rfl (e54 hG) ⟨Ext.refl _, mayI hG⟩
   ·refine stepM 12 false 49 (G := (decide ((0) < (i))) && !(decide (((((l.getD (i) dUpd)).kind).toNat) < (((l.getD ((i) - (1)) dUpd).kind).toNat)))) rfl rfl (fun x _ (h : x = cond ((decide ((0) < (i)))) (.bool (decide (((((l.getD (i) dUpd)).kind).toNat) < (((l.getD ((i) - (1)) dUpd).kind).toNat)))) undef) => geF h) (fun hu_ _ => mayU hu_) fun hG σ w1 hC h => ?_
    have e4 : σ 4 = PQ n14 0 := (eqo (h 4 (by decide))).trans rfl
    exact Yk.fieldAt wr3_fo67_0 e4 ⟨Ext.refl _, mayI hG⟩
   ·refine stepM 12 false 49 (G := (decide ((0) < (i))) && !(decide (((((l.getD (i) dUpd)).kind).toNat) < (((l.getD ((i) - (1)) dUpd).kind).toNat)))) rfl rfl (fun x _ (h : x = cond ((decide ((0) < (i)))) (.bool (decide (((((l.getD (i) dUpd)).kind).toNat) < (((l.getD ((i) - (1)) dUpd).kind).toNat)))) undef) => geF h) (fun hu_ _ => mayU hu_) fun hG σ w1 hC h => ?_
    have e56 := eqo (h 56 (by decide))
    exact Yk.cell1 wr3_ty5 rfl (mayT e56 hG) (cellAt (eb hC hb23) (show (updC (l.getD (i) dUpd))[0]? = some (B8 (((l.getD (i) dUpd)).kind) : Value) from upd_g0 (l.getD (i) dUpd))) ⟨Ext.refl _, mayI hG⟩
   ·refine stepM 12 false 49 (G := (decide ((0) < (i))) && !(decide (((((l.getD (i) dUpd)).kind).toNat) < (((l.getD ((i) - (1)) dUpd).kind).toNat)))) rfl rfl (fun x _ (h : x = cond ((decide ((0) < (i)))) (.bool (decide (((((l.getD (i) dUpd)).kind).toNat) < (((l.getD ((i) - (1)) dUpd).kind).toNat)))) undef) => geF h) (fun hu_ _ => mayU hu_) fun hG σ w1 hC h => ?_
    have e55 := eqo (h 55 (by decide))
    have e57 := eqo (h 57 (by decide))
    exact Yk.eqI (a := ((((l.getD ((i) - (1)) dUpd).kind).toNat : Nat) : Int)) (b := (((((l.getD (i) dUpd)).kind).toNat : Nat) : Int)) (mayT e55 hG) (mayT e57 hG) (k_eql _ .u8 (((l.getD ((i) - (1)) dUpd).kind).toNat) ((((l.getD (i) dUpd)).kind).toNat)) ⟨Ext.refl _, mayI hG⟩
   ·refine stepM 12 false 49 (G := (decide ((0) < (i))) && !(decide (((((l.getD (i) dUpd)).kind).toNat) < (((l.getD ((i) - (1)) dUpd).kind).toNat)))) rfl rfl (fun x _ (h : x = cond ((decide ((0) < (i)))) (.bool (decide (((((l.getD (i) dUpd)).kind).toNat) < (((l.getD ((i) - (1)) dUpd).kind).toNat)))) undef) => geF h) (fun hu_ _ => mayU hu_) fun hG σ w1 hC h => ?_
    have e58 := eqo (h 58 (by decide))
    exact Yk.move (mayT e58 hG) ⟨Ext.refl _, mayI hG⟩
   ·refine stepM 22 true 59 (G := ((decide ((0) < (i))) && !(decide (((((l.getD (i) dUpd)).kind).toNat) < (((l.getD ((i) - (1)) dUpd).kind).toNat)))) && (decide ((((l.getD ((i) - (1)) dUpd).kind).toNat : Nat) = ((((l.getD (i) dUpd)).kind).toNat)))) rfl rfl (fun x _ (h : x = cond ((decide ((0) < (i))) && !(decide (((((l.getD (i) dUpd)).kind).toNat) < (((l.getD ((i) - (1)) dUpd).kind).toNat)))) (.bool (decide ((((l.getD ((i) - (1)) dUpd).kind).toNat : Nat) = ((((l.getD (i) dUpd)).kind).toNat)))) undef) => geT h) (fun hu_ _ => mayU hu_) fun hG σ w1 hC h => ?_
    have e0 := (eqo (h 0 (by decide))).trans T0
    exact Yk.move e0 ⟨Ext.refl _, mayI hG⟩
   ·refine stepM 22 true 59 (G := ((decide ((0) < (i))) && !(decide (((((l.getD (i) dUpd)).kind).toNat) < (((l.getD ((i) - (1)) dUpd).kind).toNat)))) && (decide ((((l.getD ((i) - (1)) dUpd).kind).toNat : Nat) = ((((l.getD (i) dUpd)).kind).toNat)))) rfl rfl (fun x _ (h : x = cond ((decide ((0) < (i))) && !(decide (((((l.getD (i) dUpd)).kind).toNat) < (((l.getD ((i) - (1)) dUpd).kind).toNat)))) (.bool (decide ((((l.getD ((i) - (1)) dUpd).kind).toNat : Nat) = ((((l.getD (i) dUpd)).kind).toNat)))) undef) => geT h) (fun hu_ _ => mayU hu_) fun hG σ w1 hC h => ?_
    have e3 := (eqo (h 3 (by decide))).trans T7
    exact Yk.move e3 ⟨Ext.refl _, mayI hG⟩
   ·refine stepM 22 true 59 (G := ((decide ((0) < (i))) && !(decide (((((l.getD (i) dUpd)).kind).toNat) < (((l.getD ((i) - (1)) dUpd).kind).toNat)))) && (decide ((((l.getD ((i) - (1)) dUpd).kind).toNat : Nat) = ((((l.getD (i) dUpd)).kind).toNat)))) rfl rfl (fun x _ (h : x = cond ((decide ((0) < (i))) && !(decide (((((l.getD (i) dUpd)).kind).toNat) < (((l.getD ((i) - (1)) dUpd).kind).toNat)))) (.bool (decide ((((l.getD ((i) - (1)) dUpd).kind).toNat : Nat) = ((((l.getD (i) dUpd)).kind).toNat)))) undef) => geT h) (fun hu_ _ => mayU hu_) fun hG σ w1 hC h => ?_
    have e61 := eqo (h 61 (by decide))
    exact Yk.bin (xv := NI i) (yv := NI 1) (mayT e61 hG) (vr (NI 1) rfl) rfl (i64_sub _ (i) (1) (by simp only [gA, gB, gC, gD, gE] at hG; omega) (by simp only [gA, gB, gC, gD, gE] at hG; omega)) ⟨Ext.refl _, mayI hG⟩
   ·refine stepM 22 true 59 (G := ((decide ((0) < (i))) && !(decide (((((l.getD (i) dUpd)).kind).toNat) < (((l.getD ((i) - (1)) dUpd).kind).toNat)))) && (decide ((((l.getD ((i) - (1)) dUpd).kind).toNat : Nat) = ((((l.getD (i) dUpd)).kind).toNat)))) rfl rfl (fun x _ (h : x = cond ((decide ((0) < (i))) && !(decide (((((l.getD (i) dUpd)).kind).toNat) < (((l.getD ((i) - (1)) dUpd).kind).toNat)))) (.bool (decide ((((l.getD ((i) - (1)) dUpd).kind).toNat : Nat) = ((((l.getD (i) dUpd)).kind).toNat)))) undef) => geT h) (fun hu_ _ => noG hu_) fun hG σ w1 hC h => ?_
    have e60 := eqo (h 60 (by decide))
    have e62 := eqo (h 62 (by decide))
    exact Yk.atRG wr3_ty22 wr3_szg67 (by decide) dUpd (RG.of (hr.keep (hA20.trans hC)) (mayT e60 hG)) (mayT e62 hG) (by simp only [gA, gB, gC, gD, gE] at hG; omega) fun v h => ⟨Ext.refl _, fun _ => h⟩
   ·refine stepM 22 true 59 (G := ((decide ((0) < (i))) && !(decide (((((l.getD (i) dUpd)).kind).toNat) < (((l.getD ((i) - (1)) dUpd).kind).toNat)))) && (decide ((((l.getD ((i) - (1)) dUpd).kind).toNat : Nat) = ((((l.getD (i) dUpd)).kind).toNat)))) rfl rfl (fun x _ (h : x = cond ((decide ((0) < (i))) && !(decide (((((l.getD (i) dUpd)).kind).toNat) < (((l.getD ((i) - (1)) dUpd).kind).toNat)))) (.bool (decide ((((l.getD ((i) - (1)) dUpd).kind).toNat : Nat) = ((((l.getD (i) dUpd)).kind).toNat)))) undef) => geT h) (fun hu_ _ => noG hu_) fun hG σ w1 hC h => ?_
    have e63 : (fun x w' => (((decide ((0) < (i))) && !(decide (((((l.getD (i) dUpd)).kind).toNat) < (((l.getD ((i) - (1)) dUpd).kind).toNat)))) && (decide ((((l.getD ((i) - (1)) dUpd).kind).toNat : Nat) = ((((l.getD (i) dUpd)).kind).toNat)))) = true → (fun x w' => PR (updC (l.getD ((i) - (1)) dUpd)) x w') x w') (σ 63) w1 := h 63 (by decide)
    exact Yk.fieldPR (n := 1) wr3_fo67_1 (e63 hG) fun v h => ⟨Ext.refl _, fun _ => PR.pcell (by rw [upd_f1] at h; exact h)⟩
   ·refine stepM 22 true 59 (G := ((decide ((0) < (i))) && !(decide (((((l.getD (i) dUpd)).kind).toNat) < (((l.getD ((i) - (1)) dUpd).kind).toNat)))) && (decide ((((l.getD ((i) - (1)) dUpd).kind).toNat : Nat) = ((((l.getD (i) dUpd)).kind).toNat)))) rfl rfl (fun x _ (h : x = cond ((decide ((0) < (i))) && !(decide (((((l.getD (i) dUpd)).kind).toNat) < (((l.getD ((i) - (1)) dUpd).kind).toNat)))) (.bool (decide ((((l.getD ((i) - (1)) dUpd).kind).toNat : Nat) = ((((l.getD (i) dUpd)).kind).toNat)))) undef) => geT h) (fun hu_ _ => mayU hu_) fun hG σ w1 hC h => ?_
    have e64 : (fun x w' => (((decide ((0) < (i))) && !(decide (((((l.getD (i) dUpd)).kind).toNat) < (((l.getD ((i) - (1)) dUpd).kind).toNat)))) && (decide ((((l.getD ((i) - (1)) dUpd).kind).toNat : Nat) = ((((l.getD (i) dUpd)).kind).toNat)))) = true → (PCell (St ((l.getD ((i) - (1)) dUpd).name))) x w') (σ 64) w1 := h 64 (by decide)
    exact Yk.loadC wr3_ty9 rfl (e64 hG) ⟨Ext.refl _, mayI hG⟩
   ·refine stepM 22 true 59 (G := ((decide ((0) < (i))) && !(decide (((((l.getD (i) dUpd)).kind).toNat) < (((l.getD ((i) - (1)) dUpd).kind).toNat)))) && (decide ((((l.getD ((i) - (1)) dUpd).kind).toNat : Nat) = ((((l.getD (i) dUpd)).kind).toNat)))) rfl rfl (fun x _ (h : x = cond ((decide ((0) < (i))) && !(decide (((((l.getD (i) dUpd)).kind).toNat) < (((l.getD ((i) - (1)) dUpd).kind).toNat)))) (.bool (decide ((((l.getD ((i) - (1)) dUpd).kind).toNat : Nat) = ((((l.getD (i) dUpd)).kind).toNat)))) undef) => geT h) (fun hu_ _ => mayU hu_) fun hG σ w1 hC h => ?_
    have e4 : σ 4 = PQ n14 0 := (eqo (h 4 (by decide))).trans rfl
    exact Yk.fieldAt wr3_fo67_1 e4 ⟨Ext.refl _, mayI hG⟩
   ·refine stepM 22 true 59 (G := ((decide ((0) < (i))) && !(decide (((((l.getD (i) dUpd)).kind).toNat) < (((l.getD ((i) - (1)) dUpd).kind).toNat)))) && (decide ((((l.getD ((i) - (1)) dUpd).kind).toNat : Nat) = ((((l.getD (i) dUpd)).kind).toNat)))) rfl rfl (fun x _ (h : x = cond ((decide ((0) < (i))) && !(decide (((((l.getD (i) dUpd)).kind).toNat) < (((l.getD ((i) - (1)) dUpd).kind).toNat)))) (.bool (decide ((((l.getD ((i) - (1)) dUpd).kind).toNat : Nat) = ((((l.getD (i) dUpd)).kind).toNat)))) undef) => geT h) (fun hu_ _ => mayU hu_) fun hG σ w1 hC h => ?_
    have e66 := eqo (h 66 (by decide))
    exact Yk.cell1 wr3_ty9 rfl (mayT e66 hG) (cellAt (eb hC hb23) (show (updC (l.getD (i) dUpd))[1]? = some (St (((l.getD (i) dUpd)).name) : Value) from upd_g1 (l.getD (i) dUpd))) ⟨Ext.refl _, mayI hG⟩
   ·refine stepM 22 true 59 (G := ((decide ((0) < (i))) && !(decide (((((l.getD (i) dUpd)).kind).toNat) < (((l.getD ((i) - (1)) dUpd).kind).toNat)))) && (decide ((((l.getD ((i) - (1)) dUpd).kind).toNat : Nat) = ((((l.getD (i) dUpd)).kind).toNat)))) rfl rfl (fun x _ (h : x = cond ((decide ((0) < (i))) && !(decide (((((l.getD (i) dUpd)).kind).toNat) < (((l.getD ((i) - (1)) dUpd).kind).toNat)))) (.bool (decide ((((l.getD ((i) - (1)) dUpd).kind).toNat : Nat) = ((((l.getD (i) dUpd)).kind).toNat)))) undef) => geT h) (fun hu_ _ => mayU hu_) fun hG σ w1 hC h => ?_
    have e65 := eqo (h 65 (by decide))
    have e67 := eqo (h 67 (by decide))
    exact Yk.ltSt (l := (l.getD ((i) - (1)) dUpd).name) (m := ((l.getD (i) dUpd)).name) (.inr rfl) (mayT e65 hG) (mayT e67 hG) (!(Op.bytesLess ((l.getD ((i) - (1)) dUpd).name) (((l.getD (i) dUpd)).name))) rfl ⟨Ext.refl _, mayI hG⟩
   ·refine stepM 12 false 49 (G := (decide ((0) < (i))) && !(decide (((((l.getD (i) dUpd)).kind).toNat) < (((l.getD ((i) - (1)) dUpd).kind).toNat)))) rfl rfl (fun x _ (h : x = cond ((decide ((0) < (i)))) (.bool (decide (((((l.getD (i) dUpd)).kind).toNat) < (((l.getD ((i) - (1)) dUpd).kind).toNat)))) undef) => geF h) (fun hu_ _ => mayU hu_) fun hG σ w1 hC h => ?_
    have e59 := eqo (h 59 (by decide))
    have e68 := eqo (h 68 (by decide))
    exact Yk.pickAnd (mayT e59 hG) (fun hA => (mayT e68 (and_i hG hA))) (vr (.bool (false)) rfl) ⟨Ext.refl _, mayI hG⟩
   ·refine stepM 2 true 39 (G := (decide ((0) < (i)))) rfl rfl (fun x _ (h : x = .bool (decide ((0) < (i)))) => gT h) (fun hu_ _ => mayU hu_) fun hG σ w1 hC h => ?_
    have e49 := eqo (h 49 (by decide))
    have e69 := eqo (h 69 (by decide))
    exact Yk.pickOr (mayT e49 hG) (vr (.bool (true)) rfl) (fun hA => (mayT e69 (and_i hG (not_i hA)))) ⟨Ext.refl _, mayI hG⟩
   ·refine stepN rfl fun σ w1 hC h => ?_
    have e39 := eqo (h 39 (by decide))
    have e70 := eqo (h 70 (by decide))
    exact Yk.pickAnd e39 (fun hA => (mayT e70 hA)) (vr (.bool (false)) rfl) ⟨Ext.refl _, rfl⟩
  intro ρ65 w66 hx67 he hf
  obtain ⟨-, -, -, -, -, -, -, -, -, -, -, -, -, -, -, -, -, -, -, -, -, -, -, -, -, -, -, -, -, -, -, -, -, -, k71, -⟩ := hf
  obtain ⟨T0, T3, T4, T5, T6, T7, -⟩ := he.hold [(0, _), (3, _), (4, PQ n14 0), (5, _), (6, _), (7, _)] ⟨T0, T7, rfl, T5, T6, T7, trivial⟩ rfl
  clear he
  have hE := hE.trans hx67
  have hA20 := hA20.trans hx67
  have hb23 := eb hx67 hb23
  have T71 : ρ65 71 = .bool ((decide ((0) < (i))) && ((decide (((((l.getD (i) dUpd)).kind).toNat) < (((l.getD ((i) - (1)) dUpd).kind).toNat))) || ((decide ((((l.getD ((i) - (1)) dUpd).kind).toNat : Nat) = ((((l.getD (i) dUpd)).kind).toNat))) && (!(Op.bytesLess ((l.getD ((i) - (1)) dUpd).name) (((l.getD (i) dUpd)).name)))))) := k71
  clear k71
  refine tN (hK64 _ _ ?_)
  refine wpF_condB ((decide ((0) < (i))) && ((decide (((((l.getD (i) dUpd)).kind).toNat) < (((l.getD ((i) - (1)) dUpd).kind).toNat))) || ((decide ((((l.getD ((i) - (1)) dUpd).kind).toNat : Nat) = ((((l.getD (i) dUpd)).kind).toNat))) && (!(Op.bytesLess ((l.getD ((i) - (1)) dUpd).name) (((l.getD (i) dUpd)).name)))))) T71 (fun hc2 => ?_) (fun hc2 => ?_)
  ·have hq := and_t hc2
   refine sk fun K68 hK68 => (wt (oA rfl (oZ (tN (hK68 _ _ (wpF_ret (inBlockF_ret (thenF_ret (thenF_ret (inBlockF_ret (thenF_ret (postF_ret (fn := Tryd.f57) _ rfl [.bool (false)] (.bool (false)) rfl ⟨rfl, trivial⟩ ?_))))))))))))
   exact ⟨by rw [listB_ord hlt (of_decide_eq_true hq.1) hq.2], hE⟩
  have hord : 0 < i → ordB (l.getD (i - 1) dUpd) (l.getD i dUpd) = false := fun h0 => and_f hc2 (decide_eq_true h0)
  refine wpF_skip (bN (tN (hK9 _ _ (wt (oS rfl (Yk.bin (xv := NI i) (yv := NI 1) T7 rfl rfl (i64_add _ _ _ (by omega)) (oM rfl (oL_ [(0, v), (3, NI i), (4, PQ n14 0), (5, v), (6, NI l.length), (7, NI ((i) + (1)))] ⟨T0, T3, T4, T5, T6, rfl, trivial⟩ fun ρ69 ⟨T0, T3, T4, T5, T6, T7, _⟩ => (tN (And.intro ⟨i + 1, T0, T5, T6, T7, (hr.keep hA20), hE, by omega, listTo_step hn hbad hord, trivial⟩ ?_))))))))))
  show l.length - (intOf (ρ69 7)).toNat < l.length - (intOf (ρ5 7)).toNat
  rw [T7, q7]
  simp only [intOf, Int.toNat_natCast]; omega
 refine wpF_exit (thenF_exit (thenF_exit (inBlockF_hit (tN (hK2 _ _ (sk fun K70 hK70 => (wt (oM rfl (oS rfl (Yk.lenRG wr3_ty22 (RG.of hr T0) (oS rfl (Yk.eqI (a := (l.length : Nat)) (b := (128 : Nat)) rfl rfl (k_leq _ _ _ _) (oA rfl (oZ (tN (hK70 _ _ (wpF_ret (postF_ret (fn := Tryd.f57) _ rfl [.bool (decide ((l.length) ≤ (128)))] (.bool (decide ((l.length) ≤ (128)))) rfl ⟨rfl, trivial⟩ ?_))))))))))))))))))
 exact ⟨by rw [listB_all (show l.length ≤ i by omega) hn], hE⟩

theorem wset_any (w : World) (v : Value) (l : List Bs) (hr : RG 32 Lib.byteCells w v l) (hll : l.length < 9223372036854775807) :
  Calls Tryd.prog 58 #[v] w fun e w' => e = .returned (.bool (setW l)) ∧ Ext w w' := by
 refine calls_of_wpF (args := [v]) Tryd.func58 rfl 22 rfl (Nat.le_of_ble_eq_true rfl) ?_
 intro ρ0 hb
 have T0 : ρ0 0 = (v : Value) := hb.get 0
 clear hb
 have hE := Ext.refl w
 refine sk fun K1 hK1 => (wt (oA rfl (oZ (tN (hK1 _ _ (sk fun K2 hK2 => (wt (oM rfl (oS rfl (Yk.lenRG wr3_ty23 (RG.of hr T0) (oS rfl (Yk.eqI (a := (l.length : Nat)) (b := (65536 : Nat)) rfl rfl (k_leq _ _ _ _) (oM rfl (opsF_mayV (v) rfl rfl (gT (vr (.bool (decide ((l.length) ≤ (65536)))) rfl)) (fun hG3 => Yk.move T0 ⟨rfl, rfl⟩) (opsF_mayC (.bool (setB (l))) rfl rfl (gT (vr (.bool (decide ((l.length) ≤ (65536)))) rfl)) (fun hG4 => Yk.callA1 wr3_pl104 (mayT (vr (cond ((decide ((l.length) ≤ (65536)))) (v) undef) rfl) hG4) ((isSet_any _ v (l) hr (by omega)).mono (by rintro e w2 ⟨rfl, hx⟩; exact ⟨_, rfl, rfl, hx⟩))) fun w6 hx7 => ?_)))))))))))))))
 have hr := hr.keep hx7
 have hE := hE.trans hx7
 refine oS rfl (Yk.pickAndN (vr (.bool (decide ((l.length) ≤ (65536)))) rfl) (fun hA => (mayT (vr (cond ((decide ((l.length) ≤ (65536)))) (.bool (setB (l))) undef) rfl) hA)) (vr (.bool (false)) rfl) fun bb8 hbb9 => (oM rfl (opsF_mayV (v) rfl rfl (gT (vr (.bool (bb8)) rfl)) (fun hG10 => Yk.move T0 ⟨rfl, rfl⟩) (opsF_mayV (NI l.length) rfl rfl (gT (vr (.bool (bb8)) rfl)) (fun hG11 => Yk.lenRG wr3_ty23 (RG.of hr (mayT (vr (cond (bb8) (v) undef) rfl) hG11)) ⟨rfl, rfl⟩) (opsF_mayV (.bool (decide ((l.length : Nat) = (0)))) rfl rfl (gT (vr (.bool (bb8)) rfl)) (fun hG12 => Yk.eqI (a := ((l.length : Nat) : Int)) (b := ((0 : Nat) : Int)) (mayT (vr (cond (bb8) (NI l.length) undef) rfl) hG12) (vr (NI 0) rfl) (k_eql _ .i64 (l.length) (0)) ⟨rfl, rfl⟩) (opsF_mayV (.bool (decide ((l.length : Nat) = (0)))) rfl rfl (gT (vr (.bool (bb8)) rfl)) (fun hG13 => Yk.move (mayT (vr (cond (bb8) (.bool (decide ((l.length : Nat) = (0)))) undef) rfl) hG13) ⟨rfl, rfl⟩) (opsF_mayV (v) rfl rfl (geF (vr (cond (bb8) (.bool (decide ((l.length : Nat) = (0)))) undef) rfl)) (fun hG14 => Yk.move T0 ⟨rfl, rfl⟩) ?_)))))))
 have hl18 : (bb8 && !(decide ((l.length : Nat) = (0)))) = true → (Lib.byteCells (l.getD (0) ([] : List UInt8))).length = 32 := fun hG15 => (RG.elem hr ([] : List UInt8) (by simp only [hbb9, gA, gB, gC, gD, gE] at hG15; omega))
 refine opsF_mayX (fun v16 => PR (Lib.byteCells (l.getD (0) ([] : List UInt8))) v16 w6) rfl rfl (geF (vr (cond (bb8) (.bool (decide ((l.length : Nat) = (0)))) undef) rfl)) (fun hG15 => Yk.atRG wr3_ty23 wr3_szg25 (by decide) ([] : List UInt8) (RG.of hr (mayT (vr (cond (bb8 && !(decide ((l.length : Nat) = (0)))) (v) undef) rfl) hG15)) (vr (NI 0) rfl) (by simp only [hbb9, gA, gB, gC, gD, gE] at hG15; omega) fun _ h => ⟨h, rfl⟩) fun v16 hp17 => (opsF_mayV (AB (l.getD (0) ([] : List UInt8))) rfl rfl (geF (vr (cond (bb8) (.bool (decide ((l.length : Nat) = (0)))) undef) rfl)) (fun hG19 => Yk.loadPR (PR.of (hp17 hG19) (vr v16 rfl)) wr3_ty25 rfl (by rw [(hl18 hG19)]; exact wr3_isz25) ⟨rfl, rfl⟩) (opsF_mayC (.bool (decide (l.getD 0 [] = List.replicate 32 0))) rfl rfl (geF (vr (cond (bb8) (.bool (decide ((l.length : Nat) = (0)))) undef) rfl)) (fun hG20 => Yk.callA1 wr3_pl60 (mayT (vr (cond (bb8 && !(decide ((l.length : Nat) = (0)))) (AB (l.getD (0) ([] : List UInt8))) undef) rfl) hG20) ((wzero_any _ (⟨l.getD 0 [], bytes_len32 (RG.elem hr [] (by simp only [hbb9, gA, gB, gC, gD, gE] at hG20; omega))⟩ : Id32)).mono (by rintro e w2 ⟨rfl, hx⟩; exact ⟨_, rfl, rfl, hx⟩))) fun w22 hx23 => ?_))
 have hp17 := fun (e_ : (bb8 && !(decide ((l.length : Nat) = (0)))) = true) => (PR.keep (hp17 e_) hx23)
 have hr := hr.keep hx23
 have hE := hE.trans hx23
 refine opsF_mayV (.bool (!(decide (l.getD 0 [] = List.replicate 32 0)))) rfl rfl (geF (vr (cond (bb8) (.bool (decide ((l.length : Nat) = (0)))) undef) rfl)) (fun hG24 => Yk.notB (mayT (vr (cond (bb8 && !(decide ((l.length : Nat) = (0)))) (.bool (decide (l.getD 0 [] = List.replicate 32 0))) undef) rfl) hG24) ⟨rfl, rfl⟩) (opsF_mayB ((decide ((l.length : Nat) = (0))) || (!(decide (l.getD 0 [] = List.replicate 32 0)))) rfl rfl (gT (vr (.bool (bb8)) rfl)) (fun hG25 => Yk.pickOr (mayT (vr (cond (bb8) (.bool (decide ((l.length : Nat) = (0)))) undef) rfl) hG25) (vr (.bool (true)) rfl) (fun hA => (mayT (vr (cond (bb8 && !(decide ((l.length : Nat) = (0)))) (.bool (!(decide (l.getD 0 [] = List.replicate 32 0)))) undef) rfl) (and_i hG25 (not_i hA)))) ⟨rfl, rfl⟩) fun bb26 hbb27 => (oS rfl (Yk.pickAndN (vr (.bool (bb8)) rfl) (fun hA => (mayT (vr (cond (bb8) (.bool (bb26)) undef) rfl) hA)) (vr (.bool (false)) rfl) fun bb28 hbb29 => (oA rfl (oZ ?_)))))
 clear hp17
 refine tN (hK2 _ _ (wpF_ret (postF_ret (fn := Tryd.f58) _ rfl [.bool (bb28)] (.bool (bb28)) rfl ⟨rfl, trivial⟩ ?_)))
 subst hbb9 hbb27 hbb29
 exact ⟨rfl, hE⟩

theorem bound_any (w : World) (n m : Int) :
  Calls Tryd.prog 55 #[.int .i64 n, .int .i64 m] w fun e w' => e = .returned (.bool (boundB n m)) ∧ Ext w w' := by
 refine calls_of_wpF (args := [.int .i64 (n : Int), .int .i64 (m : Int)]) Tryd.func55 rfl 12 rfl (Nat.le_of_ble_eq_true rfl) ?_
 intro ρ0 hb
 have T0 : ρ0 0 = (.int .i64 (n : Int) : Value) := hb.get 0
 have T1 : ρ0 1 = (.int .i64 (m : Int) : Value) := hb.get 1
 clear hb
 have hE := Ext.refl w
 refine sk fun K1 hK1 => (wt (oA rfl (oZ (tN (hK1 _ _ (sk fun K2 hK2 => (wt (oM rfl (oS rfl (Yk.eqI T0 (vr (NI 0) rfl) (z_geq _ .i64 (n : Int) ((0 : Nat) : Int)) (oM rfl (opsF_mayV (.int .i64 (n : Int)) rfl rfl (gT (vr (.bool (decide (((0 : Nat) : Int) ≤ (n : Int)))) rfl)) (fun hG3 => Yk.move T0 ⟨rfl, rfl⟩) (opsF_mayV (.int .i64 (m : Int)) rfl rfl (gT (vr (.bool (decide (((0 : Nat) : Int) ≤ (n : Int)))) rfl)) (fun hG4 => Yk.move T1 ⟨rfl, rfl⟩) (opsF_mayV (.bool (decide ((n : Int) ≤ (m : Int)))) rfl rfl (gT (vr (.bool (decide (((0 : Nat) : Int) ≤ (n : Int)))) rfl)) (fun hG5 => Yk.eqI (mayT (vr (cond ((decide (((0 : Nat) : Int) ≤ (n : Int)))) (.int .i64 (n : Int)) undef) rfl) hG5) (mayT (vr (cond ((decide (((0 : Nat) : Int) ≤ (n : Int)))) (.int .i64 (m : Int)) undef) rfl) hG5) (z_leq _ .i64 (n : Int) (m : Int)) ⟨rfl, rfl⟩) (oS rfl (Yk.pickAndN (vr (.bool (decide (((0 : Nat) : Int) ≤ (n : Int)))) rfl) (fun hA => (mayT (vr (cond ((decide (((0 : Nat) : Int) ≤ (n : Int)))) (.bool (decide ((n : Int) ≤ (m : Int)))) undef) rfl) hA)) (vr (.bool (false)) rfl) fun bb6 hbb7 => (oA rfl (oZ ?_))))))))))))))))))
 refine tN (hK2 _ _ (wpF_ret (postF_ret (fn := Tryd.f55) _ rfl [.bool (bb6)] (.bool (bb6)) rfl ⟨rfl, trivial⟩ ?_)))
 subst hbb7
 exact ⟨rfl, hE⟩
open Go.RowKit
theorem Yp.mono' {P : Program} {K K' : Value → World → Prop} {J J' : List PanicEntry → World → Prop} {r : Result Next} (h : Yp P K J r) (hm : ∀ v w, K v w → K' v w) (hj : ∀ c w, J c w → J' c w) : Yp P K' J' r := by
  match r, h with
  | .ok (.value v) w', h => exact hm _ _ h
  | .ok .skip w', h => exact hm _ _ h
  | .halt (.panic v) w', h => exact hj _ _ h
  | .ok (.enter f args) w', h =>
    refine Calls.mono h fun e w'' hx => ?_
    match e, hx with
    | .returned v, hx => exact hm _ _ hx
    | .panicked ch, hx => exact hj _ _ hx
open Go.RowKit
section
variable {P : Program} {l : List Oper} {kill : Nat → List Nat} {C : Nat → World → Prop} {R : Nat → World → World → Prop} {Φ : Nat → Fact} {a0 : Act}
theorem anyInvLD (g : Good l a0.tmps.size) (hkl : killB l kill = true) {L : Nat} {oL : Oper} (hn : lastB l L = true) (hoL : l[L]? = some oL) (hgL : oL.guard = none)
    (hC : ∀ n m, n < l.length → m < l.length → n ≠ m → ((masks l []).getD n 0).testBit m = false → ∀ w w', C m w → R n w w' → C m w') (hΦ : ∀ n i, n < l.length → i < l.length → i ∉ kill n → i ≠ n → ((masks l []).getD i 0).testBit n = false → ∀ v w w', Φ i v w → R n w w' → Φ i v w') (hRr : ∀ n o w, l[n]? = some o → o.guard.isSome = true → R n w w) (hs : ∀ i o, l[i]? = some o → i ≠ L → StepOk P l C R Φ a0.tmps i o) {Q : Exit → Act → World → Prop}
    (hQ : ∀ listed a' w', (∀ i, i < l.length → i ≠ L → On listed i) → ¬ On listed L → Inv l kill C (fun _ _ => True) Φ a0 listed a' w' → Yp P (fun v w'' => Q .normal (a'.put oL.dst v) w'') (fun ch w'' => Q (.panic ch) a' w'') ((execOp a'.eval oL).run P w')) :
    ∀ (fuel : Nat) (listed : Array Bool) (a : Act) (w : World), (listed.toList.filter (!·)).length = fuel → ¬ On listed L → Inv l kill C (fun _ _ => True) Φ a0 listed a w → wpAny P .any l.toArray Q fuel listed a w := by
  obtain ⟨hlen, hb⟩ := lastB_iff hn
  have rdy : ∀ (listed : Array Bool), listed.size = l.length → (∀ i, i < l.length → On listed i) → Region.ready .any l.toArray listed = [] := by
    intro listed hsz hon
    cases hr : Region.ready .any l.toArray listed with
    | nil => rfl
    | cons x xs =>
      exfalso
      have hm : x ∈ Region.ready .any l.toArray listed := by rw [hr]; simp
      obtain ⟨h1, o, ho, _⟩ := mem_ready.1 hm
      have hx : x < l.length := by simpa using (Array.getElem?_eq_some_iff.1 ho).1
      have h2 := hon x hx
      have hx' : x < listed.size := h2.lt
      unfold On at h2
      simp [hx'] at h1 h2
      rw [h1] at h2
      cases h2
  intro fuel
  induction fuel with
  | zero =>
    intro listed a w hf hoff h
    exfalso
    have := count_zero _ hf L (by rw [Array.length_toList, h.size]; omega)
    exact hoff (by unfold On; simp at this; simp [this])
  | succ fuel ih =>
    intro listed a w hf hoff h
    have hstep : ∀ i ∈ Region.ready .any l.toArray listed, ∃ o, l[i]? = some o ∧ ¬ On listed i ∧ (∀ e ∈ o.after, Region.binds .any e = true → On listed e.on) ∧ ((listed.setIfInBounds i true).toList.filter (!·)).length = fuel := by
      intro i hi
      obtain ⟨h1, o, ho, hall⟩ := mem_ready.1 hi
      have ho' : l[i]? = some o := by simpa using ho
      have hil : i < listed.size := by rw [h.size]; exact (List.getElem?_eq_some_iff.1 ho').1
      refine ⟨o, ho', ?_, fun e he hb => hall e he hb, ?_⟩
      · unfold On
        simp [hil] at h1 ⊢
        exact h1
      · rw [Array.toList_setIfInBounds]
        have := count_set listed.toList i (by
          simp [hil] at h1
          simp [hil, h1])
        omega
    refine ⟨fun hr => ?_, fun i hi => ?_⟩
    · exfalso
      have full : ∀ i, i < l.length → On listed i := by
        intro i
        induction i using Nat.strongRecOn with
        | _ i ih =>
          intro hi
          refine Classical.byContradiction fun hno => ?_
          have ho : l[i]? = some l[i] := List.getElem?_eq_getElem hi
          have : i ∈ Region.ready .any l.toArray listed := by
            refine mem_ready.2 ⟨?_, l[i], by rw [List.getElem?_toArray]; exact ho, fun e he hb => ?_⟩
            · have hi' : i < listed.size := by rw [h.size]; exact hi
              unfold On at hno
              simp [hi'] at hno ⊢
              exact hno
            · have hlt := g.back i _ ho e he hb
              exact ih e.on hlt (by omega)
          rw [hr] at this
          cases this
      exact hoff (full L (by omega))
    · obtain ⟨o, ho, hno, hall, hcnt⟩ := hstep i hi
      by_cases hiL : i = L
      · subst hiL
        obtain rfl : oL = o := by rw [hoL] at ho; exact Option.some.inj ho
        have hon : ∀ j, j < l.length → j ≠ i → On listed j := fun j hj hne => h.maskReady ho hall (hb j (by omega))
        have hst := hQ listed a w hon hno h
        have hall' : ∀ j, j < l.length → On (listed.setIfInBounds i true) j := fun j hj => by
          by_cases hji : j = i
          · exact (on_set (by rw [h.size]; omega)).2 (.inl hji)
          · exact (on_set (by rw [h.size]; omega)).2 (.inr (hon j hj hji))
        have hr := rdy (listed.setIfInBounds i true) (by simpa using h.size) hall'
        have fin : ∀ v w', Q .normal (a.put oL.dst v) w' → wpAny P .any l.toArray Q fuel (listed.setIfInBounds i true) (a.put oL.dst v) w' := fun v w' hq => by
          cases fuel with
          | zero => exact ⟨hr, hq⟩
          | succ m => exact ⟨fun _ => hq, fun j hj => by rw [hr] at hj; cases hj⟩
        unfold wpOp
        simp only [List.getElem?_toArray, ho]
        have hw : Region.wanted oL (yielded l.toArray a.tmps) = true := by unfold Region.wanted; rw [hgL]
        rw [if_pos hw]
        refine .inl ?_
        unfold Oper.wp
        generalize (execOp a.eval oL).run P w = r at hst ⊢
        match r, hst with
        | .ok (.value v) w', hst => exact fin _ _ hst
        | .ok .skip w', hst => exact fin _ _ hst
        | .halt (.panic v) w', hst => exact hst
        | .ok (.enter f args) w', hst =>
          refine Calls.mono hst fun e w'' hx => ?_
          match e, hx with
          | .returned v, hx => exact fin _ _ hx
          | .panicked ch, hx => exact hx
      · refine h.step g hkl hC (fun _ _ _ _ _ _ _ _ _ _ => trivial) hΦ hRr ho hno hall (hs i o ho hiL) fun a' w' h' => ih _ _ _ hcnt (fun hx => ?_) h'
        exact ((on_set (by rw [h.size]; exact (List.getElem?_eq_some_iff.1 ho).1)).1 hx).elim (fun e => hiL e.symm) hoff
end
section
variable {P : Program} {n : Nat} {ρ : Slots} {w : World} {Q : PostF}
theorem wpF_draw_lastD {l : List Oper} (L : Nat) (oL : Oper) (ks : Nat → List Nat) (C : Nat → World → Prop) (R : Nat → World → World → Prop) (Φs : List Fact) {id : Nat} (hm : P.follows .mixedOrders = true) (ds : List Tmp) (hg : goodB l n = true) (hn : lastB l L = true) (hkl : killB l ks = true) (hds : slotsW l = ds) (hoL : l[L]? = some oL) (hgL : oL.guard = none) (hd : (match oL.dst with | some d => Nat.blt d n | none => true) = true) (hΦL : ∀ v w, facts Φs L v w)
    (hC : ∀ n m, n < l.length → m < l.length → n ≠ m → ((masks l []).getD n 0).testBit m = false → ∀ w w', C m w → R n w w' → C m w')
    (hΦ : ∀ n i, n < l.length → i < l.length → i ∉ ks n → i ≠ n → ((masks l []).getD i 0).testBit n = false → ∀ v w w', facts Φs i v w → R n w w' → facts Φs i v w')
    (hRr : ∀ n o w, l[n]? = some o → o.guard.isSome = true → R n w w) (h0 : ∀ n, n < l.length → C n { w with drawn := w.drawn + 1 })
    (hs : StepsFL P l L C R (facts Φs) ρ 0 l)
    (hQ : ∀ (ρ' : Slots) w1, C L w1 → EndF ds ρ ρ' → EndFacts l ks (facts Φs) ρ' w1 ds → Yp P (fun v w' => Q .normal (updO ρ' oL.dst v) w') (fun ch w' => Q (.panic ch) ρ' w') ((execOp (evalR ρ') oL).run P w1)) : wpF P n (.region id l.toArray true) Q ρ w := by
  intro a ha
  obtain ⟨T, df⟩ := a
  have hz : T.size = n := ha.size
  subst hz
  obtain ⟨hl, hb⟩ := lastB_iff hn
  have g := good_of hg
  refine wp_region_any hm (anyInvLD (a0 := { tmps := T, defers := df }) (C := C) (R := R) (Φ := facts Φs) g hkl hn hoL hgL hC hΦ hRr (fun i o ho hi => ?_) (fun listed a' w' hon hoff h => ?_) _ _ _ _ (by simp) ?_ ?_)
  · have hst := StepsFL.get l 0 hs i o ho (by omega)
    rw [Nat.zero_add] at hst
    have h2 := StepsF.ok (P := P) (l := l) (C := C) (R := R) (Φ := facts Φs) (T := T) ha.get [o] i ⟨hst, trivial⟩
    exact h2.1
  · -- what the slots hold
    have hw : ∀ d k, writer l d l.length = some k → (List.range l.length).all (fun n => !(ks n).contains k) = true → facts Φs k (a'.tmps.getD d undef) w' := fun d k hk hall => by
      obtain ⟨h1, ⟨o, ho, hd'⟩, h3⟩ := writer_some _ hk
      by_cases hkL : k = L
      · rw [hkL]; exact hΦL _ _
      refine h.new d k o ho hd' (hon k h1 hkL) (fun k' o' hkk ho' hd'' _ => h3 k' o' hkk (List.getElem?_eq_some_iff.1 ho').1 ho' hd'') (fun n hn hkn => ?_)
      have hnl : n < l.length := by have := hn.lt; rw [h.size] at this; exact this
      have := List.all_eq_true.1 hall n (by simpa using hnl)
      simp at this
      exact this hkn
    have hget : ∀ t, a'.tmps.getD t undef = if t ∈ ds then a'.tmps.getD t undef else ρ t := fun t => by
      by_cases hn : t ∈ ds
      · rw [if_pos hn]
      · rw [if_neg hn, ← ha.get]
        exact h.old t fun k o ho hd _ => hn (by
          rw [← hds]
          unfold slotsW
          rw [List.mem_eraseDups, List.mem_filterMap]
          exact ⟨o, List.mem_of_getElem? ho, hd⟩)
    have hcl := h.cls L (by omega) hoff
    have hend : EndF ds ρ (fun t => a'.tmps.getD t undef) := ⟨fun t ht => by rw [hget t, if_neg (by simpa using ht)]⟩
    have := hQ (fun t => a'.tmps.getD t undef) w' hcl hend (endFacts_of hw ds)
    rw [evalR_eq] at this
    have hfit : Fits _ (fun t => a'.tmps.getD t undef) a' := ⟨h.tmps, h.defers.trans ha.defers, fun t => rfl⟩
    have hdn : ∀ t, oL.dst = some t → t < _ := fun t ht => by rw [ht] at hd; exact Nat.le_of_ble_eq_true hd
    exact Yp.mono' this (fun v w'' hq => ⟨_, hfit.put oL.dst hdn v, hq⟩) (fun ch w'' hq => ⟨_, ⟨h.tmps, h.defers.trans ha.defers, fun t => rfl⟩, hq⟩)
  · intro h
    unfold On at h
    rw [Array.getD_eq_getD_getElem?, Array.getElem?_replicate] at h
    split at h <;> simp at h
  · have hno : ∀ i, ¬ On (Array.replicate l.toArray.size false) i := fun i h => by
      unfold On at h
      rw [Array.getD_eq_getD_getElem?, Array.getElem?_replicate] at h
      split at h <;> simp at h
    exact ⟨Array.size_replicate, fun i o _ h => absurd h (hno i), rfl, rfl, fun n hn _ => h0 n hn, trivial, fun t _ => rfl, fun t k o _ _ h => absurd h (hno k)⟩
theorem wpF_draw_endD {l : List Oper} (L : Nat) (oL : Oper) (Φs : List Fact) {id : Nat} (hm : P.follows .mixedOrders = true) (ds : List Tmp) (hg : goodB l n = true) (hn : lastB l L = true) (hds : slotsW l = ds)
    (hoL : l[L]? = some oL) (hgL : oL.guard = none) (hd : (match oL.dst with | some d => Nat.blt d n | none => true) = true) (hΦL : ∀ v w, facts Φs L v w) (hst : AllStab Ext Φs)
    (hs : StepsFL P l L (fun _ => Ext w) (fun _ => Ext) (facts Φs) ρ 0 l)
    (hQ : ∀ (ρ' : Slots) w1, Ext w w1 → EndF ds ρ ρ' → EndFacts l (fun _ => []) (facts Φs) ρ' w1 ds → Yp P (fun v w' => Q .normal (updO ρ' oL.dst v) w') (fun ch w' => Q (.panic ch) ρ' w') ((execOp (evalR ρ') oL).run P w1)) : wpF P n (.region id l.toArray true) Q ρ w :=
  wpF_draw_lastD L oL (fun _ => []) (fun _ => Ext w) (fun _ => Ext) Φs hm ds hg hn (by unfold killB; simp) hds hoL hgL hd hΦL (fun _ _ _ _ _ _ _ _ hc hr => hc.trans hr) (fun _ i _ _ _ _ _ v w1 w' => hst.get Φs i v w1 w') (fun _ _ w1 _ _ => Ext.refl w1) (fun _ _ => (Below.refl _ _).drew) hs hQ
theorem updO_other {ρ : Slots} {d : Option Tmp} {v : Value} {t : Tmp} (h : some t ≠ d) : updO ρ d v t = ρ t := by
  cases d with
  | none => rfl
  | some d =>
    show (bif Nat.beq t d then v else ρ t) = ρ t
    cases e : Nat.beq t d with
    | false => rfl
    | true => exact absurd (congrArg some (Nat.eq_of_beq_eq_true e)) h
theorem wpF_draw_endE {l : List Oper} (L : Nat) (oL : Oper) (Φs : List Fact) {id : Nat} (hm : P.follows .mixedOrders = true) (ds : List Tmp) (hg : goodB l n = true) (hn : lastB l L = true) (hds : slotsW l = ds)
    (hoL : l[L]? = some oL) (hgL : oL.guard = none) (hd : (match oL.dst with | some d => Nat.blt d n | none => true) = true) (hΦL : ∀ v w, facts Φs L v w) (hst : AllStab Ext Φs)
    (hs : StepsFL P l L (fun _ => Ext w) (fun _ => Ext) (facts Φs) ρ 0 l)
    (hQ : ∀ (ρ' : Slots) w1, Ext w w1 → EndF ds ρ ρ' → EndFacts l (fun _ => []) (facts Φs) ρ' w1 ds → Yp P (fun _ w' => ∀ ρ'' : Slots, (∀ t, some t ≠ oL.dst → ρ'' t = ρ' t) → Q .normal ρ'' w') (fun ch w' => Q (.panic ch) ρ' w') ((execOp (evalR ρ') oL).run P w1)) : wpF P n (.region id l.toArray true) Q ρ w :=
  wpF_draw_endD L oL Φs hm ds hg hn hds hoL hgL hd hΦL hst hs fun ρ' w1 h1 h2 h3 => Yp.mono' (hQ ρ' w1 h1 h2 h3) (fun _ _ h => h _ fun _ ht => updO_other ht) (fun _ _ h => h)
end
open Go.RowKit
def tailB (l : List Oper) (k : Nat) : Bool := (List.range l.length).all fun i => Nat.blt i k || (List.range i).all fun m => ((masks l []).getD i 0).testBit m
theorem tailB_iff {l : List Oper} {k : Nat} (h : tailB l k = true) : ∀ i, k ≤ i → i < l.length → ∀ m, m < i → ((masks l []).getD i 0).testBit m = true := fun i hi hl m hm => by
  unfold tailB at h
  have h1 := List.all_eq_true.1 h i (by simpa using hl)
  rcases Bool.or_eq_true _ _ ▸ h1 with h2 | h2
  · have := Nat.le_of_ble_eq_true h2
    omega
  · exact List.all_eq_true.1 h2 m (by simpa using hm)
section
variable {P : Program} {l : List Oper} {kill : Nat → List Nat} {C : Nat → World → Prop} {R : Nat → World → World → Prop} {Φ : Nat → Fact} {a0 : Act}
def StepsFC (P : Program) (l : List Oper) (L : Nat) (C : Nat → World → Prop) (R : Nat → World → World → Prop) (Φ : Nat → Fact) (ρ : Slots) : Nat → List Oper → Prop
  | _, [] => True
  | n, o :: r => (bif Nat.ble L n then True else StepF P l C R Φ ρ n o) ∧ StepsFC P l L C R Φ ρ (n + 1) r
theorem stepFC {L n : Nat} {ρ : Slots} {o : Oper} (h : StepF P l C R Φ ρ n o) : bif Nat.ble L n then True else StepF P l C R Φ ρ n o := by
  cases Nat.ble L n
  · exact h
  · trivial
theorem StepsFC.get {L : Nat} {ρ : Slots} : ∀ (r : List Oper) (n : Nat), StepsFC P l L C R Φ ρ n r → ∀ k o, r[k]? = some o → n + k < L → StepF P l C R Φ ρ (n + k) o
  | [], _, _, k, o, h, _ => by simp at h
  | o' :: r, n, hs, 0, o, h, hne => by
    simp only [List.getElem?_cons_zero, Option.some.injEq] at h
    subst h
    have h1 := hs.1
    rw [show Nat.ble L n = false by rw [← Bool.not_eq_true]; exact fun x => by have := Nat.le_of_ble_eq_true x; omega] at h1
    exact h1
  | o' :: r, n, hs, k + 1, o, h, hne => by
    rw [List.getElem?_cons_succ] at h
    have := StepsFC.get r (n + 1) hs.2 k o h (by omega)
    rwa [show n + 1 + k = n + (k + 1) by omega] at this
theorem tail_any {z : Nat} (g : Good l z) {k : Nat} (ht : ∀ i, k ≤ i → i < l.length → ∀ m, m < i → ((masks l []).getD i 0).testBit m = true) {Q : Exit → Act → World → Prop} :
    ∀ (fuel m : Nat) (listed : Array Bool) (a : Act) (w : World), listed.size = l.length → (∀ i, On listed i ↔ i < m) → k ≤ m → m ≤ l.length → l.length ≤ m + fuel → wpList P l.toArray Q (l.drop m) a w → wpAny P .any l.toArray Q fuel listed a w := by
  have noReady : ∀ (m : Nat) (listed : Array Bool), listed.size = l.length → (∀ i, On listed i ↔ i < m) → l.length ≤ m → Region.ready .any l.toArray listed = [] := by
    intro m listed hsz hon hm
    cases hr : Region.ready .any l.toArray listed with
    | nil => rfl
    | cons x xs =>
      exfalso
      have hmem : x ∈ Region.ready .any l.toArray listed := by rw [hr]; simp
      obtain ⟨h1, o, ho, _⟩ := mem_ready.1 hmem
      have hx : x < l.length := by simpa using (Array.getElem?_eq_some_iff.1 ho).1
      have h2 := (hon x).2 (by omega)
      have hx' : x < listed.size := h2.lt
      unfold On at h2
      simp [hx'] at h1 h2
      rw [h1] at h2
      cases h2
  intro fuel
  induction fuel with
  | zero =>
    intro m listed a w hsz hon hk hm hf hw
    rw [List.drop_of_length_le (by omega)] at hw
    exact ⟨noReady m listed hsz hon (by omega), hw⟩
  | succ fuel ih =>
    intro m listed a w hsz hon hk hm hf hw
    by_cases hml : m = l.length
    · have hr := noReady m listed hsz hon (by omega)
      rw [List.drop_of_length_le (by omega)] at hw
      exact ⟨fun _ => hw, fun i hi => by rw [hr] at hi; cases hi⟩
    · have hlt : m < l.length := by omega
      have hoff : ¬ On listed m := fun x => by have := (hon m).1 x; omega
      have hI : Inv l (fun _ => []) (fun _ _ => True) (fun _ _ => True) (fun _ _ _ => True) a listed a w :=
        ⟨hsz, fun i o ho hi e he hb => (hon _).2 (by have := g.back i o ho e he hb; have := (hon i).1 hi; omega), rfl, rfl, fun _ _ _ => trivial, trivial, fun _ _ => rfl, fun _ _ _ _ _ _ _ _ => trivial⟩
      refine ⟨fun hr => ?_, fun i hi => ?_⟩
      · exfalso
        have ho : l[m]? = some l[m] := List.getElem?_eq_getElem hlt
        have : m ∈ Region.ready .any l.toArray listed := by
          refine mem_ready.2 ⟨?_, l[m], by rw [List.getElem?_toArray]; exact ho, fun e he hb => (hon _).2 (g.back m _ ho e he hb)⟩
          have hm' : m < listed.size := by omega
          unfold On at hoff
          simp [hm'] at hoff ⊢
          exact hoff
        rw [hr] at this
        cases this
      · obtain ⟨h1, o, ho, hall⟩ := mem_ready.1 hi
        have ho' : l[i]? = some o := by simpa using ho
        have hil : i < l.length := (List.getElem?_eq_some_iff.1 ho').1
        have hno : ¬ On listed i := fun x => by
          have hx : i < listed.size := by omega
          unfold On at x
          simp [hx] at h1 x
          rw [h1] at x
          cases x
        have him : i = m := by
          by_cases h2 : i < m
          · exact absurd ((hon i).2 h2) hno
          · by_cases h3 : i = m
            · exact h3
            · exact absurd (hI.maskReady ho' (fun e he hb => hall e he hb) (ht i (by omega) hil m (by omega))) hoff
        subst him
        rw [List.drop_eq_getElem_cons hlt] at hw
        obtain rfl : l[i] = o := by rw [List.getElem?_eq_getElem hlt] at ho'; exact Option.some.inj ho'
        have nxt : ∀ a' w', wpList P l.toArray Q (l.drop (i + 1)) a' w' → wpAny P .any l.toArray Q fuel (listed.setIfInBounds i true) a' w' := fun a' w' hw' =>
          ih (i + 1) _ a' w' (by simpa using hsz) (fun j => by rw [on_set (by omega), hon j]; omega) (by omega) (by omega) (by omega) hw'
        unfold wpOp
        simp only [List.getElem?_toArray, ho']
        unfold wpList at hw
        split at hw
        · rename_i hwt
          rw [if_pos hwt]
          exact hw.imp (fun h => Oper.wp_mono nxt h) (fun h => h)
        · rename_i hwt
          rw [if_neg hwt]
          exact nxt _ _ hw
theorem anyInvC {E : Array Bool → World → Prop} (hE : ∀ n listed w w', n < l.length → listed.size = l.length → ¬ On listed n → (∀ i k, On listed i ∨ i = n → ((masks l []).getD i 0).testBit k = true → On listed k) → E listed w → R n w w' → E (listed.setIfInBounds n true) w') (g : Good l a0.tmps.size) (hkl : killB l kill = true) {k : Nat} (ht : ∀ i, k ≤ i → i < l.length → ∀ m, m < i → ((masks l []).getD i 0).testBit m = true) (hk : k ≤ l.length)
    (hC : ∀ n m, n < l.length → m < l.length → n ≠ m → ((masks l []).getD n 0).testBit m = false → ∀ w w', C m w → R n w w' → C m w') (hΦ : ∀ n i, n < l.length → i < l.length → i ∉ kill n → i ≠ n → ((masks l []).getD i 0).testBit n = false → ∀ v w w', Φ i v w → R n w w' → Φ i v w') (hRr : ∀ n o w, l[n]? = some o → o.guard.isSome = true → R n w w) (hs : ∀ i o, l[i]? = some o → i < k → StepOk P l C R Φ a0.tmps i o) {Q : Exit → Act → World → Prop}
    (hQ : ∀ listed a' w', (∀ i, On listed i ↔ i < k) → Inv l kill C E Φ a0 listed a' w' → wpList P l.toArray Q (l.drop k) a' w') :
    ∀ (fuel : Nat) (listed : Array Bool) (a : Act) (w : World), (listed.toList.filter (!·)).length = fuel → (∀ i, On listed i → i < k) → Inv l kill C E Φ a0 listed a w → wpAny P .any l.toArray Q fuel listed a w := by
  intro fuel
  induction fuel with
  | zero =>
    intro listed a w hf hoff h
    have full : ∀ i, i < l.length → On listed i := fun i hi => by
      have := count_zero _ hf i (by rw [Array.length_toList, h.size]; omega)
      unfold On
      simp at this
      simp [this]
    have hkl' : k = l.length := by
      by_cases e : k = l.length
      · exact e
      · have := hoff k (full k (by omega)); omega
    exact tail_any g ht 0 k listed a w h.size (fun i => ⟨hoff i, fun hi => full i (by omega)⟩) (Nat.le_refl _) hk (by omega) (hQ listed a w (fun i => ⟨hoff i, fun hi => full i (by omega)⟩) h)
  | succ fuel ih =>
    intro listed a w hf hoff h
    by_cases hfull : ∀ i, i < k → On listed i
    · have hon : ∀ i, On listed i ↔ i < k := fun i => ⟨hoff i, hfull i⟩
      refine tail_any g ht (fuel + 1) k listed a w h.size hon (Nat.le_refl _) hk ?_ (hQ listed a w hon h)
      have e := List.take_append_drop k listed.toList
      rw [← e, List.filter_append, List.length_append] at hf
      have e2 : (listed.toList.drop k).filter (!·) = listed.toList.drop k := List.filter_eq_self.2 fun b hb => by
        obtain ⟨j, hj, rfl⟩ := List.getElem_of_mem hb
        rw [List.getElem_drop]
        have hno : ¬ On listed (k + j) := fun x => by have := hoff _ x; omega
        rw [List.length_drop] at hj
        have hlt : k + j < listed.size := by rw [← Array.length_toList]; omega
        unfold On at hno
        simp [hlt] at hno
        simp [hno]
      rw [e2, List.length_drop] at hf
      have hz : listed.toList.length = l.length := by rw [Array.length_toList]; exact h.size
      omega
    · have hlow : ∃ j, j < k ∧ ¬ On listed j := by
        refine Classical.byContradiction fun hn => hfull fun i hi => Classical.byContradiction fun hx => hn ⟨i, hi, hx⟩
      obtain ⟨j0, hj0, hoff0⟩ := hlow
      refine ⟨fun hr => ?_, fun i hi => ?_⟩
      · exfalso
        have full : ∀ i, i < l.length → On listed i := by
          intro i
          induction i using Nat.strongRecOn with
          | _ i ih2 =>
            intro hi
            refine Classical.byContradiction fun hno => ?_
            have ho : l[i]? = some l[i] := List.getElem?_eq_getElem hi
            have : i ∈ Region.ready .any l.toArray listed := by
              refine mem_ready.2 ⟨?_, l[i], by rw [List.getElem?_toArray]; exact ho, fun e he hb => ?_⟩
              · have hi' : i < listed.size := by rw [h.size]; exact hi
                unfold On at hno
                simp [hi'] at hno ⊢
                exact hno
              · have hlt := g.back i _ ho e he hb
                exact ih2 e.on hlt (by omega)
            rw [hr] at this
            cases this
        exact hoff0 (full j0 (by omega))
      · obtain ⟨h1, o, ho, hall0⟩ := mem_ready.1 hi
        have ho' : l[i]? = some o := by simpa using ho
        have hilt : i < l.length := (List.getElem?_eq_some_iff.1 ho').1
        have hil : i < listed.size := by rw [h.size]; exact hilt
        have hno : ¬ On listed i := by
          unfold On
          simp [hil] at h1 ⊢
          exact h1
        have hall : ∀ e ∈ o.after, Region.binds .any e = true → On listed e.on := fun e he hb => hall0 e he hb
        have hik : i < k := by
          by_cases h2 : i < k
          · exact h2
          · exact absurd (h.maskReady ho' hall (ht i (by omega) hilt j0 (by omega))) hoff0
        have hcnt : ((listed.setIfInBounds i true).toList.filter (!·)).length = fuel := by
          rw [Array.toList_setIfInBounds]
          have := count_set listed.toList i (by
            simp [hil] at h1
            simp [hil, h1])
          omega
        refine h.step g hkl hC hE hΦ hRr ho' hno hall (hs i o ho' hik) fun a' w' h' => ih _ _ _ hcnt (fun j hx => ?_) h'
        rcases (on_set hil).1 hx with rfl | h3
        · exact hik
        · exact hoff j h3
end
section
variable {P : Program} {n : Nat} {ρ : Slots} {w : World} {Q : PostF}
theorem wpF_draw_cutG {l r : List Oper} (k0 : Nat) (ks : Nat → List Nat) (C : Nat → World → Prop) (R : Nat → World → World → Prop) (E : Array Bool → World → Prop) (Φs : List Fact) {id : Nat} (hm : P.follows .mixedOrders = true) (ds : List Tmp) (hg : goodB l n = true) (hn : tailB l k0 = true) (hk0 : Nat.ble Φs.length k0 = true) (hkl : killB l ks = true) (hds : slotsW l = ds) (hr : (l.drop k0) = r)
    (hC : ∀ n m, n < l.length → m < l.length → n ≠ m → ((masks l []).getD n 0).testBit m = false → ∀ w w', C m w → R n w w' → C m w')
    (hΦ : ∀ n i, n < l.length → i < l.length → i ∉ ks n → i ≠ n → ((masks l []).getD i 0).testBit n = false → ∀ v w w', facts Φs i v w → R n w w' → facts Φs i v w')
    (hE : ∀ n listed w w', n < l.length → listed.size = l.length → ¬ On listed n → (∀ i k, On listed i ∨ i = n → ((masks l []).getD i 0).testBit k = true → On listed k) → E listed w → R n w w' → E (listed.setIfInBounds n true) w') (hE0 : E (Array.replicate l.toArray.size false) { w with drawn := w.drawn + 1 })
    (hRr : ∀ n o w, l[n]? = some o → o.guard.isSome = true → R n w w) (h0 : ∀ n, n < l.length → C n { w with drawn := w.drawn + 1 })
    (hs : StepsFC P l k0 C R (facts Φs) ρ 0 l)
    (hlt : Nat.blt k0 l.length = true) (hQ : ∀ (ρ' : Slots) w1 listed, (∀ i, On listed i ↔ i < k0) → E listed w1 → C k0 w1 → EndF ds ρ ρ' → EndFacts l ks (facts Φs) ρ' w1 ds → opsF P l.toArray n Q r ρ' w1) : wpF P n (.region id l.toArray true) Q ρ w := by
  intro a ha
  obtain ⟨T, df⟩ := a
  have hz : T.size = n := ha.size
  subst hz
  have hk1 : k0 < l.length := Nat.le_of_ble_eq_true hlt
  have g := good_of hg
  refine wp_region_any hm (anyInvC hE (a0 := { tmps := T, defers := df }) (C := C) (R := R) (Φ := facts Φs) g hkl (tailB_iff hn) (Nat.le_of_lt hk1) hC hΦ hRr (fun i o ho hi => ?_) (fun listed a' w' hon h => ?_) _ _ _ _ (by simp) ?_ ?_)
  · have hst := StepsFC.get l 0 hs i o ho (by omega)
    rw [Nat.zero_add] at hst
    have h2 := StepsF.ok (P := P) (l := l) (C := C) (R := R) (Φ := facts Φs) (T := T) ha.get [o] i ⟨hst, trivial⟩
    exact h2.1
  · -- what the slots hold
    have hw : ∀ d k, writer l d l.length = some k → (List.range l.length).all (fun n => !(ks n).contains k) = true → facts Φs k (a'.tmps.getD d undef) w' := fun d k hk hall => by
      obtain ⟨h1, ⟨o, ho, hd'⟩, h3⟩ := writer_some _ hk
      by_cases hkL : k0 ≤ k
      · have e : facts Φs k = fun _ _ => True := by
          have := Nat.le_of_ble_eq_true hk0
          unfold facts
          rw [List.getD_eq_getElem?_getD, List.getElem?_eq_none (by omega)]
          rfl
        rw [e]
        trivial
      refine h.new d k o ho hd' ((hon k).2 (by omega)) (fun k' o' hkk ho' hd'' _ => h3 k' o' hkk (List.getElem?_eq_some_iff.1 ho').1 ho' hd'') (fun n hn hkn => ?_)
      have hnl : n < l.length := by have := hn.lt; rw [h.size] at this; exact this
      have := List.all_eq_true.1 hall n (by simpa using hnl)
      simp at this
      exact this hkn
    have hget : ∀ t, a'.tmps.getD t undef = if t ∈ ds then a'.tmps.getD t undef else ρ t := fun t => by
      by_cases hn : t ∈ ds
      · rw [if_pos hn]
      · rw [if_neg hn, ← ha.get]
        exact h.old t fun k o ho hd _ => hn (by
          rw [← hds]
          unfold slotsW
          rw [List.mem_eraseDups, List.mem_filterMap]
          exact ⟨o, List.mem_of_getElem? ho, hd⟩)
    have hcl := h.cls k0 hk1 (fun x => by have := (hon k0).1 x; omega)
    have hend : EndF ds ρ (fun t => a'.tmps.getD t undef) := ⟨fun t ht => by rw [hget t, if_neg (by simpa using ht)]⟩
    have := hQ (fun t => a'.tmps.getD t undef) w' listed hon h.ecl hcl hend (endFacts_of hw ds)
    rw [hr]
    exact this a' ⟨h.tmps, h.defers.trans ha.defers, fun t => rfl⟩
  · intro i h
    unfold On at h
    rw [Array.getD_eq_getD_getElem?, Array.getElem?_replicate] at h
    split at h <;> simp at h
  · have hno : ∀ i, ¬ On (Array.replicate l.toArray.size false) i := fun i h => by
      unfold On at h
      rw [Array.getD_eq_getD_getElem?, Array.getElem?_replicate] at h
      split at h <;> simp at h
    exact ⟨Array.size_replicate, fun i o _ h => absurd h (hno i), rfl, rfl, fun n hn _ => h0 n hn, hE0, fun t _ => rfl, fun t k o _ _ h => absurd h (hno k)⟩
theorem wpF_draw_cut {l r : List Oper} (k0 : Nat) (Φs : List Fact) {id : Nat} (hm : P.follows .mixedOrders = true) (ds : List Tmp) (hg : goodB l n = true) (hn : tailB l k0 = true) (hk0 : Nat.ble Φs.length k0 = true) (hds : slotsW l = ds) (hr : (l.drop k0) = r) (hlt : Nat.blt k0 l.length = true) (hst : AllStab Ext Φs)
    (hs : StepsFC P l k0 (fun _ => Ext w) (fun _ => Ext) (facts Φs) ρ 0 l)
    (hQ : ∀ (ρ' : Slots) w1, Ext w w1 → EndF ds ρ ρ' → EndFacts l (fun _ => []) (facts Φs) ρ' w1 ds → opsF P l.toArray n Q r ρ' w1) : wpF P n (.region id l.toArray true) Q ρ w :=
  wpF_draw_cutG k0 (fun _ => []) (fun _ => Ext w) (fun _ => Ext) (fun _ _ => True) Φs hm ds hg hn hk0 (by unfold killB; simp) hds hr (fun _ _ _ _ _ _ _ _ hc hr => hc.trans hr) (fun _ i _ _ _ _ _ v w1 w' => hst.get Φs i v w1 w') (fun _ _ _ _ _ _ _ _ _ _ => trivial) trivial (fun _ _ w1 _ _ => Ext.refl w1) (fun _ _ => (Below.refl _ _).drew) hs hlt (fun ρ' w1 _ _ _ => hQ ρ' w1)
theorem Yk.allocX {K : Value → World → Prop} {d : Option Tmp} {ty : TypeId} {pos : String} {af : Array Edge} {gd : Option (Nat × Bool)} {e : TypeId} {cs : Array Value} (hz : ∀ (σ : Operand → Value) (w : World), (execOp σ ⟨d, .alloc e, ty, pos, af, gd⟩).run P w = .ok (.value (.pointer (some ⟨w.heap.size, 0, none⟩))) (w.alloc (.cells cs e)))
    (hk : K (.pointer (some ⟨w.heap.size, 0, none⟩)) (w.alloc (.cells cs e))) : Yk P K ((execOp (evalR ρ) ⟨d, .alloc e, ty, pos, af, gd⟩).run P w) := by
  rw [hz]
  exact hk
end
open Go.RowKit
def OnlyMaps (w w' : World) : Prop := ∀ i o, w.heap.size ≤ i → w'.heap[i]? = some o → ∃ es c, o = .map es c
def NoCells (w b : World) : Prop := Ext w b ∧ ∀ i cs t fr, w.heap.size ≤ i → b.heap[i]? ≠ some (Obj.cells cs t fr)
def OneCells (w b : World) : Prop := Ext w b ∧ ∀ i j cs t fr cs' t' fr', w.heap.size ≤ i → w.heap.size ≤ j → b.heap[i]? = some (Obj.cells cs t fr) → b.heap[j]? = some (Obj.cells cs' t' fr') → i = j
def StK (w : World) (T : TypeId) (a b : World) : Prop := Ext a b ∨ ∃ g cs nc, w.heap.size ≤ g ∧ a.heap[g]? = some (Obj.cells cs T (0, 0)) ∧ b.heap[g]? = some (Obj.cells nc T (0, 0)) ∧ nc.size = cs.size ∧ a.grownBy b (some g) ∧ b.heap.size = a.heap.size
def RowK (w : World) (T : TypeId) (n : Nat) : Fact := fun x b => ∃ g cs, x = .pointer (some ⟨g, 0, none⟩) ∧ w.heap.size ≤ g ∧ b.heap[g]? = some (Obj.cells cs T (0, 0)) ∧ cs.size = n
theorem RowK.stab (w : World) (T : TypeId) (n : Nat) : Stab (StK w T) (RowK w T n) := fun x a b ⟨g, cs, h1, h2, h3, h4⟩ k => by
  have hlt := (Array.getElem?_eq_some_iff.1 h3).1
  rcases k with k | ⟨g', cs', nc', k1, k2, k3, k4, k5, k6⟩
  · exact ⟨g, cs, h1, h2, Ext.blk' k h3, h4⟩
  · by_cases e : g = g'
    · subst e
      rw [h3] at k2
      cases k2
      exact ⟨g, nc', h1, h2, k3, k4.trans h4⟩
    · exact ⟨g, cs, h1, h2, (k5.block g hlt (fun q => e (Option.some.inj q))).trans h3, h4⟩
theorem MapF.stabK {α β : Type} {ek : α → Value} {ev : β → Value} {D : α → Prop} {w a b : World} {T : TypeId} {m : Nat} {G : α → Option β} (h : MapF ek ev D a m G) (k : StK w T a b) : MapF ek ev D b m G := by
  rcases k with k | ⟨g', cs', nc', k1, k2, k3, k4, k5, k6⟩
  · exact MapF.keep h k
  · refine MapF.other h k5 (fun e => ?_)
    obtain rfl := Option.some.inj e
    obtain ⟨es, c, h, -⟩ := h
    rw [k2] at h
    cases h
section
variable {P : Program} {n : Nat} {ρ : Slots} {w : World} {Q : PostF}
theorem wpF_draw_newK {l r : List Oper} (kK kA kS k0 : Nat) (T : TypeId) (zc nc : Array Value) (Φs : List Fact) {id : Nat} (hm : P.follows .mixedOrders = true) (ds : List Tmp) (hg : goodB l n = true) (hn : tailB l k0 = true) (hk0 : Nat.ble Φs.length k0 = true) (hds : slotsW l = ds) (hr : (l.drop k0) = r) (hlt : Nat.blt k0 l.length = true)
    (hAS : ((masks l []).getD kS 0).testBit kA = true) (hKA : Nat.beq kK kA = false) (hKS : Nat.beq kK kS = false) (hne : Nat.beq kA kS = false) (hgK : (l[kK]?.bind (·.guard)) = none) (hgA : (l[kA]?.bind (·.guard)) = none) (hgS : (l[kS]?.bind (·.guard)) = none) (hS0 : Nat.blt kS k0 = true)
    (hst : AllStab (StK w T) Φs) (hzn : nc.size = zc.size)
    (hs : StepsFC P l k0 (fun m b => bif Nat.beq m kA then NoCells w b else bif Nat.beq m kS then OneCells w b else Ext w b) (fun m a b => bif Nat.beq m kA then (NoCells w a ∧ b = a.alloc (Obj.cells zc T)) else bif Nat.beq m kS then (OneCells w a ∧ ∃ g cs, w.heap.size ≤ g ∧ a.heap[g]? = some (Obj.cells cs T (0, 0)) ∧ nc.size = cs.size ∧ b.heap[g]? = some (Obj.cells nc T (0, 0)) ∧ a.grownBy b (some g) ∧ b.heap.size = a.heap.size) else bif Nat.beq m kK then (Ext a b ∧ OnlyMaps a b) else a = b) (facts Φs) ρ 0 l)
    (hQ : ∀ (ρ' : Slots) w1, Ext w w1 → (∀ g cs t fr, w.heap.size ≤ g → w1.heap[g]? = some (Obj.cells cs t fr) → cs = nc) → EndF ds ρ ρ' → EndFacts l (fun _ => []) (facts Φs) ρ' w1 ds → opsF P l.toArray n Q r ρ' w1) : wpF P n (.region id l.toArray true) Q ρ w := by
  have bf : ∀ {a b : Nat}, a ≠ b → Nat.beq a b = false := fun h => by rw [← Bool.not_eq_true, Nat.beq_eq]; exact h
  have ne : ∀ {a b : Nat}, Nat.beq a b = false → a ≠ b := fun h e => by rw [e, Nat.beq_refl] at h; cases h
  have hkk := ne hne
  have hka := ne hKA
  have hks := ne hKS
  -- what a step of each kind is
  have hnewC : ∀ {a b : World}, Ext a b → OnlyMaps a b → ∀ i cs t fr, b.heap[i]? = some (Obj.cells cs t fr) → a.heap[i]? = some (Obj.cells cs t fr) := fun {a b} h1 h2 i cs t fr hb => by
    by_cases hi : i < a.heap.size
    · have h := Ext.blk' h1 (Array.getElem?_eq_getElem hi)
      rw [Array.getElem?_eq_getElem hi, ← h, hb]
    · obtain ⟨es, c, e⟩ := h2 i _ (by omega) hb
      cases e
  have hE0 : ∀ {a b : World}, Ext w a → (∃ g, w.heap.size ≤ g ∧ a.grownBy b (some g)) → Ext w b := fun ha ⟨g, h1, h2⟩ => row_fresh ha h2 h1
  have hRS : ∀ {i : Nat} {a b : World}, (bif Nat.beq i kA then (NoCells w a ∧ b = a.alloc (Obj.cells zc T)) else bif Nat.beq i kS then (OneCells w a ∧ ∃ g cs, w.heap.size ≤ g ∧ a.heap[g]? = some (Obj.cells cs T (0, 0)) ∧ nc.size = cs.size ∧ b.heap[g]? = some (Obj.cells nc T (0, 0)) ∧ a.grownBy b (some g) ∧ b.heap.size = a.heap.size) else bif Nat.beq i kK then (Ext a b ∧ OnlyMaps a b) else a = b) → StK w T a b ∧ (Ext w a → Ext w b) := fun {i a b} h => by
    by_cases hiA : i = kA
    · subst hiA
      rw [Nat.beq_refl] at h
      simp only [cond_true] at h
      have hx : Ext a b := by rw [h.2]; exact (Below.refl _ _).alloc (Nat.le_refl _) _
      exact ⟨.inl hx, fun k => k.trans hx⟩
    · rw [bf hiA] at h
      by_cases hiS : i = kS
      · subst hiS
        rw [Nat.beq_refl] at h
        simp only [cond_true, cond_false] at h
        obtain ⟨h0, g, cs, h1, h2, h3, h4, h5, h6⟩ := h
        exact ⟨.inr ⟨g, cs, nc, h1, h2, h4, h3, h5, h6⟩, fun k => hE0 k ⟨g, h1, h5⟩⟩
      · rw [bf hiS] at h
        by_cases hiK : i = kK
        · subst hiK
          rw [Nat.beq_refl] at h
          simp only [cond_true, cond_false] at h
          exact ⟨.inl h.1, fun k => k.trans h.1⟩
        · rw [bf hiK] at h
          simp only [cond_false] at h
          subst h
          exact ⟨.inl (Ext.refl _), fun k => k⟩
  refine wpF_draw_cutG k0 (fun _ => []) _ _ (fun listed b => Ext w b ∧ (On listed kS → ∀ g cs t fr, w.heap.size ≤ g → b.heap[g]? = some (Obj.cells cs t fr) → cs = nc)) Φs hm ds hg hn hk0 (by unfold killB; simp) hds hr (fun i m _ _ hne' hbit a b hc hr => ?_) (fun i j _ _ _ _ _ v a b h hr => hst.get Φs j v a b h (hRS hr).1) (fun i listed a b _ hsz hno hcl he hr => ⟨(hRS hr).2 he.1, ?_⟩) ⟨(Below.refl _ _).drew, fun h => absurd h On.not_replicate⟩ (fun i o a ho hgo => ?_) (fun m _ => ?_) hs hlt (fun ρ' w1 listed hon he hc h2 h3 => ?_)
  · by_cases hmA : m = kA
    · subst hmA
      rw [Nat.beq_refl] at hc ⊢
      simp only [cond_true] at hc ⊢
      refine ⟨(hRS hr).2 hc.1, fun i' cs t fr hi' hb => ?_⟩
      have hiS : i ≠ kS := fun e => by rw [e, hAS] at hbit; cases hbit
      rw [bf hne', bf hiS] at hr
      by_cases hiK : i = kK
      · subst hiK
        rw [Nat.beq_refl] at hr
        simp only [cond_true, cond_false] at hr
        exact hc.2 i' cs t fr hi' (hnewC hr.1 hr.2 i' cs t fr hb)
      · rw [bf hiK] at hr
        simp only [cond_false] at hr
        subst hr
        exact hc.2 i' cs t fr hi' hb
    · rw [bf hmA] at hc ⊢
      by_cases hmS : m = kS
      · subst hmS
        rw [Nat.beq_refl] at hc ⊢
        simp only [cond_true, cond_false] at hc ⊢
        refine ⟨(hRS hr).2 hc.1, fun i1 j1 cs t fr cs' t' fr' hi1 hj1 h1 h2 => ?_⟩
        by_cases hiA : i = kA
        · subst hiA
          rw [Nat.beq_refl] at hr
          simp only [cond_true] at hr
          obtain ⟨hr1, rfl⟩ := hr
          have hat : ∀ i cs t fr, w.heap.size ≤ i → (a.alloc (Obj.cells zc T)).heap[i]? = some (Obj.cells cs t fr) → i = a.heap.size := fun i cs t fr hi h => by
            by_cases hlt : i < a.heap.size
            · have h' : a.heap[i]? = some (Obj.cells cs t fr) := by rw [← heap_alloc_old a (Obj.cells zc T) hlt]; exact h
              exact absurd h' (hr1.2 i cs t fr hi)
            · have := (Array.getElem?_eq_some_iff.1 h).1
              simp at this
              omega
          rw [hat _ _ _ _ hi1 h1, hat _ _ _ _ hj1 h2]
        · rw [bf hiA, bf hne'] at hr
          by_cases hiK : i = kK
          · subst hiK
            rw [Nat.beq_refl] at hr
            simp only [cond_true, cond_false] at hr
            exact hc.2 i1 j1 _ _ _ _ _ _ hi1 hj1 (hnewC hr.1 hr.2 _ _ _ _ h1) (hnewC hr.1 hr.2 _ _ _ _ h2)
          · rw [bf hiK] at hr
            simp only [cond_false] at hr
            subst hr
            exact hc.2 i1 j1 _ _ _ _ _ _ hi1 hj1 h1 h2
      · rw [bf hmS] at hc ⊢
        exact (hRS hr).2 hc
  · intro hon g cs t fr hg' hb
    by_cases hiS : i = kS
    · subst hiS
      rw [bf (Ne.symm hkk), Nat.beq_refl] at hr
      simp only [cond_true, cond_false] at hr
      obtain ⟨h0, g0, cs0, h1, h2, h3, h4, h5, h6⟩ := hr
      by_cases e : g = g0
      · subst e
        rw [h4] at hb
        cases hb
        rfl
      · have hgl : g < a.heap.size := by have := (Array.getElem?_eq_some_iff.1 hb).1; omega
        rw [h5.block g hgl (fun q => e (Option.some.inj q))] at hb
        exact absurd (h0.2 g g0 _ _ _ _ _ _ hg' h1 hb h2) e
    · have hon' : On listed kS := by
        rcases (on_set (by omega)).1 hon with h1 | h1
        · exact absurd h1.symm hiS
        · exact h1
      have hiA : i ≠ kA := fun e => hno (by rw [e]; exact hcl kS kA (.inl hon') hAS)
      rw [bf hiA, bf hiS] at hr
      by_cases hiK : i = kK
      · subst hiK
        rw [Nat.beq_refl] at hr
        simp only [cond_true, cond_false] at hr
        exact he.2 hon' g cs t fr hg' (hnewC hr.1 hr.2 _ _ _ _ hb)
      · rw [bf hiK] at hr
        simp only [cond_false] at hr
        subst hr
        exact he.2 hon' g cs t fr hg' hb
  · have hgn : ∀ {k : Nat}, (l[k]?.bind (·.guard)) = none → i ≠ k := fun h e => by rw [e] at ho; rw [ho] at h; simp only [Option.bind_some] at h; rw [h] at hgo; cases hgo
    rw [bf (hgn hgA), bf (hgn hgS), bf (hgn hgK)]
    rfl
  · have h0 : ∀ i, w.heap.size ≤ i → ∀ o, ({ w with drawn := w.drawn + 1 } : World).heap[i]? ≠ some o := fun i hi o h => by
      have := (Array.getElem?_eq_some_iff.1 h).1
      exact absurd this (by show ¬ i < w.heap.size; omega)
    by_cases hmA : m = kA
    · subst hmA
      rw [Nat.beq_refl]
      exact ⟨(Below.refl _ _).drew, fun i cs t fr hi h => h0 i hi _ h⟩
    · rw [bf hmA]
      by_cases hmS : m = kS
      · subst hmS
        rw [Nat.beq_refl]
        exact ⟨(Below.refl _ _).drew, fun i j cs t fr _ _ _ hi _ h _ => absurd h (h0 i hi _)⟩
      · rw [bf hmS]
        exact (Below.refl _ _).drew
  · exact hQ ρ' w1 he.1 (he.2 ((hon kS).2 (Nat.le_of_ble_eq_true hS0))) h2 h3
end
open Go.RowKit
section
variable {P : Program} {K : Value → World → Prop} {ρ : Slots} {w : World} {d : Option Tmp} {ty : TypeId} {pos : String} {af : Array Edge} {gd : Option (Nat × Bool)}
variable {α β : Type} {ek : α → Value} {ev : β → Value} {D : α → Prop} {b : Nat} {G : α → Option β}
variable {t Kt E : TypeId} {OK : Value → Prop}
theorem Yk.insM [DecidableEq α] (L : KL P Kt OK) (hD : ∀ a, D a → OK (ek a)) (ht : P.underlying t = some (.map Kt E)) {x y z : Operand} {a : α} {c : β}
    (hm : evalR ρ x = .map (some b)) (hy : evalR ρ y = ek a) (hz : evalR ρ z = ev c) (h : MapF ek ev D w b G) (ha : D a) (hk : ∀ w', MapF ek ev D w' b (updM G a (some c)) → w.grownBy w' (some b) → w'.heap.size = w.heap.size → K undef w') :
    Yk P K ((execOp (evalR ρ) ⟨d, .insert t x y z, ty, pos, af, gd⟩).run P w) := by
  obtain ⟨w', hrun, h1, h2, h3⟩ := h.put L hD ht ha c
  have hr : (execOp (evalR ρ) ⟨d, .insert t x y z, ty, pos, af, gd⟩).run P w = .ok .skip w' ∨ (execOp (evalR ρ) ⟨d, .insert t x y z, ty, pos, af, gd⟩).run P w = .ok (.value undef) w' := by
    unfold execOp
    simp only [hm, hy, hz, Sem.run_bind, hrun, Result.andThen_ok, Sem.run_pure]
    simp
  rcases hr with hr | hr <;> rw [hr] <;> exact hk w' h1 h2 h3
theorem Yk.build3 {t : TypeId} {i0 i1 i2 : Nat} {x0 x1 x2 : Operand} {v0 v1 v2 v : Value} (h0 : evalR ρ x0 = v0) (h1 : evalR ρ x1 = v1) (h2 : evalR ρ x2 = v2) (hr : ∀ w : World, (Instr.build t #[(i0, v0), (i1, v1), (i2, v2)]).run P w = .ok v w) (hk : K v w) : Yk P K ((execOp (evalR ρ) ⟨d, .build t #[(i0, x0), (i1, x1), (i2, x2)], ty, pos, af, gd⟩).run P w) :=
  Yk.build (by simp [h0, h1, h2]) hr hk
end
theorem MapF.isMapB {α β : Type} {ek : α → Value} {ev : β → Value} {D : α → Prop} {w : World} {b : Nat} {G : α → Option β} (h : MapF ek ev D w b G) : ∃ es c, w.heap[b]? = some (.map es c) := by
  obtain ⟨es, c, h, -⟩ := h
  exact ⟨_, c, h⟩
abbrev partsV (p : Parts) : Value := .agg (partsC p).toArray
abbrev dParts : Parts := ⟨false, false, false, false, false, false, false, false⟩
theorem u8Law : KL Tryd.prog 5 (MapKept.IsKey (.int .u8)) := KL.ofKey (by kernel_rfl)
theorem u8_ok : ∀ n : UInt8, True → MapKept.IsKey (.int .u8) (B8 n) := fun n _ => by first | exact ⟨_, rfl⟩ | simp [MapKept.IsKey]
theorem b8_inj {a b : UInt8} (h : B8 a = B8 b) : a = b := by
  injection h with _ h
  exact UInt8.toNat_inj.1 (Int.ofNat.inj h)
theorem zeroParts : ∀ u : World, (zeroValue 92).run Tryd.prog u = .ok (partsV dParts) u := fun _ => by kernel_rfl
def kindsG : UInt8 → Option Parts :=
  updM (updM (updM (updM (updM (updM (updM (updM (fun _ => none) 1 (some dParts)) 2 (some ⟨true, false, false, false, false, false, false, false⟩)) 3 (some ⟨false, true, false, false, false, false, false, false⟩)) 4 (some ⟨false, false, true, false, true, false, false, false⟩)) 5 (some ⟨false, false, false, true, false, false, false, false⟩)) 6 (some ⟨false, false, false, true, false, true, false, false⟩)) 7 (some ⟨false, false, true, false, true, false, true, false⟩)) 8 (some ⟨false, false, false, false, false, false, false, true⟩)
def absentB (m : Msg) (p : Parts) : Bool :=
  ((((((((p.refs || decide (m.refs.length = 0)) && (p.ids || (decide (m.wants.length = 0) && decide (m.haves.length = 0)))) && (p.size || decide (m.size = ((0 : Nat) : Int)))) && (p.at_ || decide (m.at_ = ((0 : Nat) : Int)))) && (p.id || zeroB m.id)) && (p.bytes || decide (m.bytes.length = 0))) && (p.push || (((decide (m.name = []) && zeroB m.old) && zeroB m.new) && !m.force))) && (p.code || decide (m.code = ((0 : Nat) : Int))))
structure MsgAt (w : World) (x : MsgV) : Prop where
  refs : RG 66 updC w x.2.refs x.1.refs
  wants : RG 32 Lib.byteCells w x.2.wants x.1.wants
  haves : RG 32 Lib.byteCells w x.2.haves x.1.haves
  bytes : RB w x.2.bytes x.1.bytes
theorem MsgAt.keep {w w' : World} {x : MsgV} (h : MsgAt w x) (k : Ext w w') : MsgAt w' x := ⟨h.refs.keep k, h.wants.keep k, h.haves.keep k, h.bytes.keep k⟩
structure MsgLt (m : Msg) : Prop where
  refs : m.refs.length ≤ 4611686018427387904
  names : ∀ u ∈ m.refs, u.name.length ≤ 4611686018427387904
  wants : m.wants.length ≤ 4611686018427387904
  haves : m.haves.length ≤ 4611686018427387904
  name : m.name.length ≤ 4611686018427387904
noncomputable def rightP (m : Msg) (p : Parts) : Bool :=
  !(((((!boundB m.session 2147483647 || !absentB m p) || !listB m.refs) || !setW m.wants) || !setW m.haves)) &&
  (!((!boundB m.size 1048576 || !boundB m.at_ 1048576) || !boundB m.code 22) &&
  (!(p.bytes && (decide (m.bytes.length < 1) || decide (256 < m.bytes.length))) &&
  (!p.push || (nameB m.name && !zeroB m.new))))
noncomputable def rightB (m : Msg) : Bool := match kindsG m.kind with
  | none => false
  | some p => rightP m p
theorem rightB_none {m : Msg} (h : kindsG m.kind = none) : rightB m = false := by unfold rightB; rw [h]
theorem rightB_some {m : Msg} {p : Parts} (h : kindsG m.kind = some p) : rightB m = rightP m p := by unfold rightB; rw [h]
open Go.RowKit
def nE (l : List Nmd) (i : Nat) : Bool := ((!nameB (l.getD i dNmd).name) || zeroB (l.getD i dNmd).id) || (decide (0 < i) && (!Op.bytesLess (l.getD (i - 1) dNmd).name (l.getD i dNmd).name))
open Classical in
noncomputable def nlistB (l : List Nmd) : Bool := decide ((∀ j, j < l.length → nE l j = false) ∧ l.length ≤ 64)
theorem nlistB_all {l : List Nmd} {i : Nat} (hi : l.length ≤ i) (h : ∀ j, j < i → nE l j = false) : nlistB l = decide (l.length ≤ 64) := by
  classical
  unfold nlistB
  by_cases h2 : l.length ≤ 64
  · rw [decide_eq_true h2, decide_eq_true ⟨fun j hj => h j (by omega), h2⟩]
  · rw [decide_eq_false h2, decide_eq_false (fun k => h2 k.2)]
theorem nlistB_bad {l : List Nmd} {i : Nat} (hi : i < l.length) (h : nE l i = true) : nlistB l = false := by
  classical
  exact decide_eq_false (fun k => by have := k.1 i hi; rw [h] at this; cases this)
theorem to_step {p : Nat → Bool} {i : Nat} (h : ∀ j, j < i → p j = false) (h1 : p i = false) : ∀ j, j < i + 1 → p j = false := fun j hj => by
  by_cases e : j < i
  · exact h j e
  · obtain rfl : j = i := by omega
    exact h1
def kindB (k : UInt8) : Bool := (decide (k.toNat = 1) || decide (k.toNat = 2)) || decide (k.toNat = 3)
def entE (l : List Ent) (i : Nat) : Bool := ((!kindB (l.getD i dEntry).kind) || (!noteB (l.getD i dEntry).note)) || decide (32 < (l.getD i dEntry).name.length)
noncomputable def rE1 (r : Refs) : Bool := ((!nlistB r.branches) || (!nlistB r.tags)) || decide (64 < r.log.length)
noncomputable def rE2 (r : Refs) : Bool := (decide (r.head ≠ []) && ((!nameB r.head) || (!zeroB r.at_))) || (decide (r.head = []) && zeroB r.at_)
open Classical in
noncomputable def rightF (r : Refs) : Bool := (!rE1 r) && ((!rE2 r) && decide (∀ j, j < r.log.length → entE r.log j = false))
theorem rightF_1 {r : Refs} (h : rE1 r = true) : rightF r = false := by unfold rightF; rw [h]; rfl
theorem rightF_2 {r : Refs} (h1 : rE1 r = false) (h : rE2 r = true) : rightF r = false := by unfold rightF; rw [h1, h]; rfl
theorem rightF_bad {r : Refs} {i : Nat} (h1 : rE1 r = false) (h2 : rE2 r = false) (hi : i < r.log.length) (h : entE r.log i = true) : rightF r = false := by
  classical
  unfold rightF; rw [h1, h2, decide_eq_false (fun k => by have := k i hi; rw [h] at this; cases this)]; rfl
theorem rightF_all {r : Refs} {i : Nat} (h1 : rE1 r = false) (h2 : rE2 r = false) (hi : r.log.length ≤ i) (h : ∀ j, j < i → entE r.log j = false) : rightF r = true := by
  classical
  unfold rightF; rw [h1, h2, decide_eq_true (fun j hj => h j (by omega))]; rfl
structure RefsAt (w : World) (x : RefsV) : Prop where
  branches : RG 33 nmdC w x.2.branches x.1.branches
  tags : RG 33 nmdC w x.2.tags x.1.tags
  log : RG 67 entC w x.2.log x.1.log
theorem RefsAt.keep {w w' : World} {x : RefsV} (h : RefsAt w x) (k : Ext w w') : RefsAt w' x := ⟨h.branches.keep k, h.tags.keep k, h.log.keep k⟩
structure RefsLt (r : Refs) : Prop where
  branches : r.branches.length < 9223372036854775807
  tags : r.tags.length < 9223372036854775807
  log : r.log.length < 9223372036854775807
  bn : ∀ u ∈ r.branches, u.name.length ≤ 9223372036854775807
  tn : ∀ u ∈ r.tags, u.name.length ≤ 9223372036854775807
  head : r.head.length ≤ 9223372036854775807
abbrev ofNmd (k : UInt8) (n : Nmd) : Upd := ⟨k, n.name, zid, n.id⟩
theorem take_map_snoc {α β : Type} {f : α → β} {L : List β} {l : List α} {i : Nat} {d : α} (h : i < l.length) : L ++ (l.take i).map f ++ [f (l.getD i d)] = L ++ (l.take (i + 1)).map f := by
  rw [List.append_assoc, List.take_add_one, List.map_append, List.getElem?_eq_getElem h, List.getD_eq_getElem?_getD, List.getElem?_eq_getElem h]; rfl
noncomputable def ofB (r : Refs) : List Upd := if rightF r = true then r.branches.map (ofNmd 1) ++ r.tags.map (ofNmd 2) else []
open Go.RowKit
set_option maxRecDepth 100000
theorem wr21_ty25 : Tryd.prog.underlying 25 = some (.array 32 5) := by kernel_rfl
theorem wr21_eg25 : Tryd.prog.eqGuardType Tryd.prog.depth 25 = false := by kernel_rfl
theorem wr21_ty5 : Tryd.prog.underlying 5 = some (.int .u8) := by kernel_rfl
theorem wr21_sz5 : ∀ w' : World, (sizeOf 5).run Tryd.prog w' = .ok 1 w' := fun _ => by kernel_rfl
theorem wr21_ty51 : Tryd.prog.underlying 51 = some (.slice 70) := by kernel_rfl
theorem wr21_szg70 : ∀ w' : World, (sizeOf 70).run Tryd.prog w' = .ok 33 w' := fun _ => by kernel_rfl
theorem wr21_ty70 : ∃ fs, Tryd.prog.underlying 70 = some (.struct fs) := struct_of (by kernel_rfl)
theorem wr21_isz70 : (Tryd.prog.info? 70).map (·.size) = some 33 := by kernel_rfl
theorem wr21_al70 {d : Option Tmp} {ty : TypeId} {pos : String} {af : Array Edge} {gd : Option (Nat × Bool)} (σ : Operand → Value) (w : World) : (execOp σ ⟨d, .alloc 70, ty, pos, af, gd⟩).run Tryd.prog w = .ok (.value (PQ w.heap.size 0)) (w.alloc (.cells (nmdC (⟨[], zid⟩ : Nmd)).toArray 70)) := by kernel_rfl
theorem wr21_fo70_0 : FieldOff Tryd.prog 70 0 0 := fun b o w => by simp [go_sem]
theorem wr21_ty9 : Tryd.prog.underlying 9 = some (.string) := by kernel_rfl
theorem wr21_pl59 : Plain Tryd.prog 59 := fun _ _ => by kernel_rfl
theorem wr21_fo70_1 : FieldOff Tryd.prog 70 1 1 := fun b o w => by simp [go_sem]
theorem wr21_pl83 : Plain Tryd.prog 83 := fun _ _ => by kernel_rfl
theorem wr21_fo53_0 : FieldOff Tryd.prog 53 0 0 := fun b o w => by simp [go_sem]
theorem wr21_pl82 : Plain Tryd.prog 82 := fun _ _ => by kernel_rfl
theorem wr21_fo53_1 : FieldOff Tryd.prog 53 1 1 := fun b o w => by simp [go_sem]
theorem wr21_fo53_4 : FieldOff Tryd.prog 53 4 35 := fun b o w => by simp [go_sem]
theorem wr21_ty47 : Tryd.prog.underlying 47 = some (.slice 122) := by kernel_rfl
theorem wr21_fo53_2 : FieldOff Tryd.prog 53 2 2 := fun b o w => by simp [go_sem]
theorem wr21_fo53_3 : FieldOff Tryd.prog 53 3 3 := fun b o w => by simp [go_sem]
theorem wr21_szg122 : ∀ w' : World, (sizeOf 122).run Tryd.prog w' = .ok 67 w' := fun _ => by kernel_rfl
theorem wr21_ty122 : ∃ fs, Tryd.prog.underlying 122 = some (.struct fs) := struct_of (by kernel_rfl)
theorem wr21_isz122 : (Tryd.prog.info? 122).map (·.size) = some 67 := by kernel_rfl
theorem wr21_al122 {d : Option Tmp} {ty : TypeId} {pos : String} {af : Array Edge} {gd : Option (Nat × Bool)} (σ : Operand → Value) (w : World) : (execOp σ ⟨d, .alloc 122, ty, pos, af, gd⟩).run Tryd.prog w = .ok (.value (PQ w.heap.size 0)) (w.alloc (.cells (entC (⟨0, [], zid, zid, []⟩ : Ent)).toArray 122)) := by kernel_rfl
theorem wr21_fo122_0 : FieldOff Tryd.prog 122 0 0 := fun b o w => by simp [go_sem]
theorem wr21_fo67_0 : FieldOff Tryd.prog 67 0 0 := fun b o w => by simp [go_sem]
theorem wr21_pl84 : Plain Tryd.prog 84 := fun _ _ => by kernel_rfl
theorem wr21_fo122_1 : FieldOff Tryd.prog 122 1 66 := fun b o w => by simp [go_sem]
theorem wr21_pl73 : Plain Tryd.prog 73 := fun _ _ => by kernel_rfl
theorem wr21_fo67_1 : FieldOff Tryd.prog 67 1 1 := fun b o w => by simp [go_sem]
set_option maxHeartbeats 1600000
theorem fzero_any (w : World) (u : Id32) :
  Calls Tryd.prog 83 #[AB u.1] w fun e w' => e = .returned (.bool (zeroB u)) ∧ Ext w w' := by
 refine calls_of_wpF (args := [AB u.1]) Tryd.func83 rfl 6 rfl (Nat.le_of_ble_eq_true rfl) ?_
 intro ρ0 hb
 have T0 : ρ0 0 = (AB u.1 : Value) := hb.get 0
 clear hb
 have hE := Ext.refl w
 refine sk fun K1 hK1 => (wt (oS rfl (Yk.box (cs := (Lib.byteCells u.1 : List Value).toArray) T0 fun n2 w3 hn4 hb5 hx6 hs7 => ?_)))
 have hE := hE.trans hx6
 have hb8 := hb5; clear hb5
 have hl9 : n2 < w3.heap.size := by omega
 refine oA rfl (oZ (tN (hK1 _ _ (sk fun K10 hK10 => (wt (oS rfl (Yk.loadAll (vr (PQ n2 0) rfl) hb8 wr21_ty25 rfl (by exact sizeId_of u.2) (oS rfl (Yk.run (v := AB (List.replicate 32 0)) (by kernel_rfl) (oS rfl (Yk.eqArr (l1 := u.1) (l2 := (List.replicate 32 0)) wr21_ty25 wr21_ty5 wr21_sz5 wr21_eg25 (vr (AB u.1) rfl) (vr (AB (List.replicate 32 0)) rfl) (u.2) (List.length_replicate) (oA rfl (oZ (tN (hK10 _ _ (wpF_ret (postF_ret (fn := Tryd.f83) _ rfl [.bool (decide (u.1 = (List.replicate 32 0)))] (.bool (decide (u.1 = (List.replicate 32 0)))) rfl ⟨rfl, trivial⟩ ?_)))))))))))))))))
 exact ⟨rfl, hE⟩

theorem fkind_any (w : World) (k : UInt8) :
  Calls Tryd.prog 84 #[B8 k] w fun e w' => e = .returned (.bool (kindB k)) ∧ Ext w w' := by
 refine calls_of_wpF (args := [B8 (k)]) Tryd.func84 rfl 13 rfl (Nat.le_of_ble_eq_true rfl) ?_
 intro ρ0 hb
 have T0 : ρ0 0 = (B8 (k) : Value) := hb.get 0
 clear hb
 have hE := Ext.refl w
 refine sk fun K1 hK1 => (wt (oA rfl (oZ (tN (hK1 _ _ (sk fun K2 hK2 => (wt (oM rfl (oS rfl (Yk.eqI (a := ((k).toNat : Nat)) (b := (1 : Nat)) T0 rfl (k_eql _ _ _ _) (oM rfl (opsF_mayV (B8 (k)) rfl rfl (gF (vr (.bool (decide (((k).toNat : Nat) = (1)))) rfl)) (fun hG3 => Yk.move T0 ⟨rfl, rfl⟩) (opsF_mayV (.bool (decide (((k).toNat : Nat) = (2)))) rfl rfl (gF (vr (.bool (decide (((k).toNat : Nat) = (1)))) rfl)) (fun hG4 => Yk.eqI (a := (((k).toNat : Nat) : Int)) (b := ((2 : Nat) : Int)) (mayT (vr (cond (!(decide (((k).toNat : Nat) = (1)))) (B8 (k)) undef) rfl) hG4) (vr (B8 (2)) rfl) (k_eql _ .u8 ((k).toNat) (2)) ⟨rfl, rfl⟩) (oS rfl (Yk.pickOrN (vr (.bool (decide (((k).toNat : Nat) = (1)))) rfl) (vr (.bool (true)) rfl) (fun hA => (mayT (vr (cond (!(decide (((k).toNat : Nat) = (1)))) (.bool (decide (((k).toNat : Nat) = (2)))) undef) rfl) (not_i hA))) fun bb5 hbb6 => (oM rfl (opsF_mayV (B8 (k)) rfl rfl (gF (vr (.bool (bb5)) rfl)) (fun hG7 => Yk.move T0 ⟨rfl, rfl⟩) (opsF_mayV (.bool (decide (((k).toNat : Nat) = (3)))) rfl rfl (gF (vr (.bool (bb5)) rfl)) (fun hG8 => Yk.eqI (a := (((k).toNat : Nat) : Int)) (b := ((3 : Nat) : Int)) (mayT (vr (cond (!bb5) (B8 (k)) undef) rfl) hG8) (vr (B8 (3)) rfl) (k_eql _ .u8 ((k).toNat) (3)) ⟨rfl, rfl⟩) ?_))))))))))))))))))
 refine oS rfl (Yk.pickOrN (vr (.bool (bb5)) rfl) (vr (.bool (true)) rfl) (fun hA => (mayT (vr (cond (!bb5) (.bool (decide (((k).toNat : Nat) = (3)))) undef) rfl) (not_i hA))) fun bb9 hbb10 => (oA rfl (oZ (tN (hK2 _ _ (wpF_ret (postF_ret (fn := Tryd.f84) _ rfl [.bool (bb9)] (.bool (bb9)) rfl ⟨rfl, trivial⟩ ?_)))))))
 subst hbb6 hbb10
 exact ⟨rfl, hE⟩

theorem flist_any (w : World) (v : Value) (l : List Nmd) (hr : RG 33 nmdC w v l) (hll : l.length < 9223372036854775807) (hln : ∀ u ∈ l, u.name.length ≤ 9223372036854775807) :
  Calls Tryd.prog 82 #[v] w fun e w' => e = .returned (.bool (nlistB l)) ∧ Ext w w' := by
 refine calls_of_wpF (args := [v]) Tryd.func82 rfl 40 rfl (Nat.le_of_ble_eq_true rfl) ?_
 intro ρ0 hb
 have T0 : ρ0 0 = (v : Value) := hb.get 0
 clear hb
 have hE := Ext.refl w
 refine sk fun K1 hK1 => (wt (oA rfl (oZ (tN (hK1 _ _ (sk fun K2 hK2 => (sk fun K3 hK3 => (wt (oM rfl (oS rfl (Yk.lenRG wr21_ty51 (RG.of hr T0) (oM rfl (oL_ [(0, v), (2, .bool (false)), (5, v), (6, NI l.length), (7, NI 0)] ⟨T0, rfl, T0, rfl, rfl, trivial⟩ fun ρ4 ⟨T0, T2, T5, T6, T7, _⟩ => (tN (hK3 _ _ (wpF_block (wpF_loop (fun (ρ : Slots) (wz : World) => ∃ i : Nat, ρ 0 = (v : Value) ∧ ρ 5 = (v : Value) ∧ ρ 6 = (NI l.length : Value) ∧ ρ 7 = (NI i : Value) ∧ RG 33 nmdC wz v l ∧ Ext w wz ∧ (i ≤ l.length) ∧ (∀ j, j < i → nE l j = false) ∧ True) (fun ρ _ => l.length - (intOf (ρ 7)).toNat) ⟨0, T0, T5, T6, T7, hr, hE, Nat.zero_le _, fun j hj => absurd hj (Nat.not_lt_zero _), trivial⟩ ?_)))))))))))))))))
 clear hr hE
 rintro ρ5 w6 ⟨i, T0, T5, T6, T7, hr, hE, hi, hn, -⟩
 have q7 := T7
 refine sk fun K7 hK7 => (wt (oS rfl (Yk.eqI (a := (i : Nat)) (b := (l.length : Nat)) T7 T6 (k_lss _ _ _ _) (oZ (tN (hK7 _ _ (sk fun K8 hK8 => ?_)))))))
 refine wpF_cond ((i) < (l.length)) (vr (.bool (decide ((i) < (l.length)))) rfl) (fun hc0 => ?_) (fun hc0 => ?_)
 ·have hlt : i < l.length := hc0
  have hnm := hln _ (getD_mem dNmd hlt)
  refine wpF_skip (tN (hK8 _ _ (sk fun K9 hK9 => (wpF_block (sk fun K10 hK10 => (wt (oM rfl ?_)))))))
  have hl13 : (nmdC (l.getD (i) dNmd)).length = 33 := (RG.elem hr dNmd (by omega))
  refine oS rfl (Yk.atRG wr21_ty51 wr21_szg70 (by decide) dNmd (RG.of hr T5) T7 (by omega) fun v11 hp12 => (oS rfl (Yk.loadPR (PR.of hp12 (vr v11 rfl)) (wr21_ty70).choose_spec rfl (by rw [nmd_len]; exact wr21_isz70) (oS rfl (Yk.alloc (cs := (nmdC (⟨[], zid⟩ : Nmd)).toArray) wr21_al70 fun n14 w15 hn16 hb17 hx18 hs19 => ?_)))))
  have hA20 := Ext.refl w6
  have hea21 := hE
  have hz22 := hE.size
  have hE := hE.trans hx18
  have hA20 := hA20.trans hx18
  have hb23 := hb17; clear hb17
  have hl24 : n14 < w15.heap.size := by omega
  refine oA rfl (oS rfl (Yk.storeAll (vr (PQ n14 0) rfl) (vr (.agg (nmdC (l.getD (i) dNmd)).toArray) rfl) hb23 (by simp only [List.size_toArray, nmd_len]) (st_isz (nmd_len _) wr21_isz70) (nmd_one (x := (l.getD (i) dNmd))) fun w25 hb26 hg27 hs28 => ?_))
  have hE := row_fresh hE hg27 (Nat.le_trans hz22 (by omega))
  have hA20 := row_fresh hA20 hg27 (Nat.le_trans (Nat.le_refl _) (by omega))
  clear hb23
  have hb23 : w25.heap[n14]? = some (.cells (nmdC (l.getD (i) dNmd)).toArray 70 (0, 0)) := hb26; clear hb26
  have hl29 := bl hb23
  refine oZ ?_
  clear hp12
  refine tN (hK10 _ _ (sk fun K30 hK30 => ?_))
  refine wpF_draw [Is (PQ n14 0), Is (St (((l.getD (i) dNmd)).name)), Is (.bool (nameB (((l.getD (i) dNmd)).name))), Is (.bool (!(nameB (((l.getD (i) dNmd)).name)))), Is (.bool (!(nameB (((l.getD (i) dNmd)).name)))), Is (cond (!(!(nameB (((l.getD (i) dNmd)).name)))) (PQ n14 1) undef), Is (cond (!(!(nameB (((l.getD (i) dNmd)).name)))) (AB (((l.getD (i) dNmd)).id.1)) undef), Is (cond (!(!(nameB (((l.getD (i) dNmd)).name)))) (.bool (zeroB (((l.getD (i) dNmd)).id))) undef), Is (.bool ((!(nameB (((l.getD (i) dNmd)).name))) || (zeroB (((l.getD (i) dNmd)).id)))), Is (.bool ((!(nameB (((l.getD (i) dNmd)).name))) || (zeroB (((l.getD (i) dNmd)).id)))), Is (cond (!((!(nameB (((l.getD (i) dNmd)).name))) || (zeroB (((l.getD (i) dNmd)).id)))) (NI i) undef), Is (cond (!((!(nameB (((l.getD (i) dNmd)).name))) || (zeroB (((l.getD (i) dNmd)).id)))) (.bool (decide ((0) < (i)))) undef), Is (cond (!((!(nameB (((l.getD (i) dNmd)).name))) || (zeroB (((l.getD (i) dNmd)).id)))) (.bool (decide ((0) < (i)))) undef), Is (cond ((!((!(nameB (((l.getD (i) dNmd)).name))) || (zeroB (((l.getD (i) dNmd)).id)))) && (decide ((0) < (i)))) (v) undef), Is (cond ((!((!(nameB (((l.getD (i) dNmd)).name))) || (zeroB (((l.getD (i) dNmd)).id)))) && (decide ((0) < (i)))) (NI i) undef), Is (cond ((!((!(nameB (((l.getD (i) dNmd)).name))) || (zeroB (((l.getD (i) dNmd)).id)))) && (decide ((0) < (i)))) (NI ((i) - (1))) undef), fun x w' => ((!((!(nameB (((l.getD (i) dNmd)).name))) || (zeroB (((l.getD (i) dNmd)).id)))) && (decide ((0) < (i)))) = true → (fun x w' => PR (nmdC (l.getD ((i) - (1)) dNmd)) x w') x w', fun x w' => ((!((!(nameB (((l.getD (i) dNmd)).name))) || (zeroB (((l.getD (i) dNmd)).id)))) && (decide ((0) < (i)))) = true → (PCell (St ((l.getD ((i) - (1)) dNmd).name))) x w', Is (cond ((!((!(nameB (((l.getD (i) dNmd)).name))) || (zeroB (((l.getD (i) dNmd)).id)))) && (decide ((0) < (i)))) (St ((l.getD ((i) - (1)) dNmd).name)) undef), Is (cond ((!((!(nameB (((l.getD (i) dNmd)).name))) || (zeroB (((l.getD (i) dNmd)).id)))) && (decide ((0) < (i)))) (PQ n14 0) undef), Is (cond ((!((!(nameB (((l.getD (i) dNmd)).name))) || (zeroB (((l.getD (i) dNmd)).id)))) && (decide ((0) < (i)))) (St (((l.getD (i) dNmd)).name)) undef), Is (cond ((!((!(nameB (((l.getD (i) dNmd)).name))) || (zeroB (((l.getD (i) dNmd)).id)))) && (decide ((0) < (i)))) (.bool (!(Op.bytesLess ((l.getD ((i) - (1)) dNmd).name) (((l.getD (i) dNmd)).name)))) undef), Is (cond (!((!(nameB (((l.getD (i) dNmd)).name))) || (zeroB (((l.getD (i) dNmd)).id)))) (.bool ((decide ((0) < (i))) && (!(Op.bytesLess ((l.getD ((i) - (1)) dNmd).name) (((l.getD (i) dNmd)).name))))) undef), Is (.bool (((!(nameB (((l.getD (i) dNmd)).name))) || (zeroB (((l.getD (i) dNmd)).id))) || ((decide ((0) < (i))) && (!(Op.bytesLess ((l.getD ((i) - (1)) dNmd).name) (((l.getD (i) dNmd)).name))))))] (by kernel_rfl) [12, 13, 14, 15, 16, 17, 18, 19, 20, 21, 22, 23, 24, 25, 26, 27, 28, 29, 30, 31, 32, 33, 34, 35] (by kernel_rfl) (by kernel_rfl) (si4 (si12 ⟨(Stab.may ((fun _ _ _ h k => PR.keep h k))), (Stab.may (Stab.pcell _)), (si6 trivial)⟩)) ?hs1004 ?hQ1004
  case hs1004 =>
   refine ⟨?_, ?_, ?_, ?_, ?_, ?_, ?_, ?_, ?_, ?_, ?_, ?_, ?_, ?_, ?_, ?_, ?_, ?_, ?_, ?_, ?_, ?_, ?_, ?_, trivial⟩
   ·refine stepN rfl fun σ w1 hC h => ?_
    have e4 : σ 4 = PQ n14 0 := (eqo (h 4 (by decide))).trans rfl
    exact Yk.fieldAt wr21_fo70_0 e4 ⟨Ext.refl _, rfl⟩
   ·refine stepN rfl fun σ w1 hC h => ?_
    have e12 := eqo (h 12 (by decide))
    exact Yk.cell1 wr21_ty9 rfl e12 (cellAt (eb hC hb23) (show (nmdC (l.getD (i) dNmd))[0]? = some (St (((l.getD (i) dNmd)).name) : Value) from nmd_g0 (l.getD (i) dNmd))) ⟨Ext.refl _, rfl⟩
   ·refine stepN rfl fun σ w1 hC h => ?_
    have e13 := eqo (h 13 (by decide))
    refine Yk.callA1 wr21_pl59 e13 ((name_any _ (((l.getD (i) dNmd)).name) (by have := hnm; omega)).mono ?_)
    rintro e w2 ⟨rfl, hx⟩
    exact ⟨_, rfl, hx, rfl⟩
   ·refine stepN rfl fun σ w1 hC h => ?_
    have e14 := eqo (h 14 (by decide))
    exact Yk.notB e14 ⟨Ext.refl _, rfl⟩
   ·refine stepN rfl fun σ w1 hC h => ?_
    have e15 := eqo (h 15 (by decide))
    exact Yk.move e15 ⟨Ext.refl _, rfl⟩
   ·refine stepM 4 false 16 (G := !(!(nameB (((l.getD (i) dNmd)).name)))) rfl rfl (fun x _ (h : x = .bool (!(nameB (((l.getD (i) dNmd)).name)))) => gF h) (fun hu_ _ => mayU hu_) fun hG σ w1 hC h => ?_
    have e4 : σ 4 = PQ n14 0 := (eqo (h 4 (by decide))).trans rfl
    exact Yk.fieldAt wr21_fo70_1 e4 ⟨Ext.refl _, mayI hG⟩
   ·refine stepM 4 false 16 (G := !(!(nameB (((l.getD (i) dNmd)).name)))) rfl rfl (fun x _ (h : x = .bool (!(nameB (((l.getD (i) dNmd)).name)))) => gF h) (fun hu_ _ => mayU hu_) fun hG σ w1 hC h => ?_
    have e17 := eqo (h 17 (by decide))
    exact Yk.loadPR (PR.blk (eb hC hb23) (nmd_m1 (l.getD (i) dNmd)) (nmd_n1 (l.getD (i) dNmd)) (mayT e17 hG)) wr21_ty25 rfl (sizeId_of ((l.getD (i) dNmd)).id.2) ⟨Ext.refl _, mayI hG⟩
   ·refine stepM 4 false 16 (G := !(!(nameB (((l.getD (i) dNmd)).name)))) rfl rfl (fun x _ (h : x = .bool (!(nameB (((l.getD (i) dNmd)).name)))) => gF h) (fun hu_ _ => mayU hu_) fun hG σ w1 hC h => ?_
    have e18 := eqo (h 18 (by decide))
    refine Yk.callA1 wr21_pl83 (mayT e18 hG) ((fzero_any _ (((l.getD (i) dNmd)).id)).mono ?_)
    rintro e w2 ⟨rfl, hx⟩
    exact ⟨_, rfl, hx, mayI hG⟩
   ·refine stepN rfl fun σ w1 hC h => ?_
    have e16 := eqo (h 16 (by decide))
    have e19 := eqo (h 19 (by decide))
    exact Yk.pickOr e16 (vr (.bool (true)) rfl) (fun hA => (mayT e19 (not_i hA))) ⟨Ext.refl _, rfl⟩
   ·refine stepN rfl fun σ w1 hC h => ?_
    have e20 := eqo (h 20 (by decide))
    exact Yk.move e20 ⟨Ext.refl _, rfl⟩
   ·refine stepM 9 false 21 (G := !((!(nameB (((l.getD (i) dNmd)).name))) || (zeroB (((l.getD (i) dNmd)).id)))) rfl rfl (fun x _ (h : x = .bool ((!(nameB (((l.getD (i) dNmd)).name))) || (zeroB (((l.getD (i) dNmd)).id)))) => gF h) (fun hu_ _ => mayU hu_) fun hG σ w1 hC h => ?_
    have e3 := (eqo (h 3 (by decide))).trans T7
    exact Yk.move e3 ⟨Ext.refl _, mayI hG⟩
   ·refine stepM 9 false 21 (G := !((!(nameB (((l.getD (i) dNmd)).name))) || (zeroB (((l.getD (i) dNmd)).id)))) rfl rfl (fun x _ (h : x = .bool ((!(nameB (((l.getD (i) dNmd)).name))) || (zeroB (((l.getD (i) dNmd)).id)))) => gF h) (fun hu_ _ => mayU hu_) fun hG σ w1 hC h => ?_
    have e22 := eqo (h 22 (by decide))
    exact Yk.eqI (a := ((i : Nat) : Int)) (b := ((0 : Nat) : Int)) (mayT e22 hG) (vr (NI 0) rfl) (k_gtr _ .i64 (i) (0)) ⟨Ext.refl _, mayI hG⟩
   ·refine stepM 9 false 21 (G := !((!(nameB (((l.getD (i) dNmd)).name))) || (zeroB (((l.getD (i) dNmd)).id)))) rfl rfl (fun x _ (h : x = .bool ((!(nameB (((l.getD (i) dNmd)).name))) || (zeroB (((l.getD (i) dNmd)).id)))) => gF h) (fun hu_ _ => mayU hu_) fun hG σ w1 hC h => ?_
    have e23 := eqo (h 23 (by decide))
    exact Yk.move (mayT e23 hG) ⟨Ext.refl _, mayI hG⟩
   ·refine stepM 12 true 24 (G := (!((!(nameB (((l.getD (i) dNmd)).name))) || (zeroB (((l.getD (i) dNmd)).id)))) && (decide ((0) < (i)))) rfl rfl (fun x _ (h : x = cond (!((!(nameB (((l.getD (i) dNmd)).name))) || (zeroB (((l.getD (i) dNmd)).id)))) (.bool (decide ((0) < (i)))) undef) => geT h) (fun hu_ _ => mayU hu_) fun hG σ w1 hC h => ?_
    have e0 := (eqo (h 0 (by decide))).trans T0
    exact Yk.move e0 ⟨Ext.refl _, mayI hG⟩
   ·refine stepM 12 true 24 (G := (!((!(nameB (((l.getD (i) dNmd)).name))) || (zeroB (((l.getD (i) dNmd)).id)))) && (decide ((0) < (i)))) rfl rfl (fun x _ (h : x = cond (!((!(nameB (((l.getD (i) dNmd)).name))) || (zeroB (((l.getD (i) dNmd)).id)))) (.bool (decide ((0) < (i)))) undef) => geT h) (fun hu_ _ => mayU hu_) fun hG σ w1 hC h => ?_
    have e3 := (eqo (h 3 (by decide))).trans T7
    exact Yk.move e3 ⟨Ext.refl _, mayI hG⟩
   ·refine stepM 12 true 24 (G := (!((!(nameB (((l.getD (i) dNmd)).name))) || (zeroB (((l.getD (i) dNmd)).id)))) && (decide ((0) < (i)))) rfl rfl (fun x _ (h : x = cond (!((!(nameB (((l.getD (i) dNmd)).name))) || (zeroB (((l.getD (i) dNmd)).id)))) (.bool (decide ((0) < (i)))) undef) => geT h) (fun hu_ _ => mayU hu_) fun hG σ w1 hC h => ?_
    have e26 := eqo (h 26 (by decide))
    exact Yk.bin (xv := NI i) (yv := NI 1) (mayT e26 hG) (vr (NI 1) rfl) rfl (i64_sub _ (i) (1) (by simp only [gA, gB, gC, gD, gE] at hG; omega) (by simp only [gA, gB, gC, gD, gE] at hG; omega)) ⟨Ext.refl _, mayI hG⟩
   ·refine stepM 12 true 24 (G := (!((!(nameB (((l.getD (i) dNmd)).name))) || (zeroB (((l.getD (i) dNmd)).id)))) && (decide ((0) < (i)))) rfl rfl (fun x _ (h : x = cond (!((!(nameB (((l.getD (i) dNmd)).name))) || (zeroB (((l.getD (i) dNmd)).id)))) (.bool (decide ((0) < (i)))) undef) => geT h) (fun hu_ _ => noG hu_) fun hG σ w1 hC h => ?_
    have e25 := eqo (h 25 (by decide))
    have e27 := eqo (h 27 (by decide))
    exact Yk.atRG wr21_ty51 wr21_szg70 (by decide) dNmd (RG.of (hr.keep (hA20.trans hC)) (mayT e25 hG)) (mayT e27 hG) (by simp only [gA, gB, gC, gD, gE] at hG; omega) fun v h => ⟨Ext.refl _, fun _ => h⟩
   ·refine stepM 12 true 24 (G := (!((!(nameB (((l.getD (i) dNmd)).name))) || (zeroB (((l.getD (i) dNmd)).id)))) && (decide ((0) < (i)))) rfl rfl (fun x _ (h : x = cond (!((!(nameB (((l.getD (i) dNmd)).name))) || (zeroB (((l.getD (i) dNmd)).id)))) (.bool (decide ((0) < (i)))) undef) => geT h) (fun hu_ _ => noG hu_) fun hG σ w1 hC h => ?_
    have e28 : (fun x w' => ((!((!(nameB (((l.getD (i) dNmd)).name))) || (zeroB (((l.getD (i) dNmd)).id)))) && (decide ((0) < (i)))) = true → (fun x w' => PR (nmdC (l.getD ((i) - (1)) dNmd)) x w') x w') (σ 28) w1 := h 28 (by decide)
    exact Yk.fieldPR (n := 1) wr21_fo70_0 (e28 hG) fun v h => ⟨Ext.refl _, fun _ => PR.pcell (by rw [nmd_f0] at h; exact h)⟩
   ·refine stepM 12 true 24 (G := (!((!(nameB (((l.getD (i) dNmd)).name))) || (zeroB (((l.getD (i) dNmd)).id)))) && (decide ((0) < (i)))) rfl rfl (fun x _ (h : x = cond (!((!(nameB (((l.getD (i) dNmd)).name))) || (zeroB (((l.getD (i) dNmd)).id)))) (.bool (decide ((0) < (i)))) undef) => geT h) (fun hu_ _ => mayU hu_) fun hG σ w1 hC h => ?_
    have e29 : (fun x w' => ((!((!(nameB (((l.getD (i) dNmd)).name))) || (zeroB (((l.getD (i) dNmd)).id)))) && (decide ((0) < (i)))) = true → (PCell (St ((l.getD ((i) - (1)) dNmd).name))) x w') (σ 29) w1 := h 29 (by decide)
    exact Yk.loadC wr21_ty9 rfl (e29 hG) ⟨Ext.refl _, mayI hG⟩
   ·refine stepM 12 true 24 (G := (!((!(nameB (((l.getD (i) dNmd)).name))) || (zeroB (((l.getD (i) dNmd)).id)))) && (decide ((0) < (i)))) rfl rfl (fun x _ (h : x = cond (!((!(nameB (((l.getD (i) dNmd)).name))) || (zeroB (((l.getD (i) dNmd)).id)))) (.bool (decide ((0) < (i)))) undef) => geT h) (fun hu_ _ => mayU hu_) fun hG σ w1 hC h => ?_
    have e4 : σ 4 = PQ n14 0 := (eqo (h 4 (by decide))).trans rfl
    exact Yk.fieldAt wr21_fo70_0 e4 ⟨Ext.refl _, mayI hG⟩
   ·refine stepM 12 true 24 (G := (!((!(nameB (((l.getD (i) dNmd)).name))) || (zeroB (((l.getD (i) dNmd)).id)))) && (decide ((0) < (i)))) rfl rfl (fun x _ (h : x = cond (!((!(nameB (((l.getD (i) dNmd)).name))) || (zeroB (((l.getD (i) dNmd)).id)))) (.bool (decide ((0) < (i)))) undef) => geT h) (fun hu_ _ => mayU hu_) fun hG σ w1 hC h => ?_
    have e31 := eqo (h 31 (by decide))
    exact Yk.cell1 wr21_ty9 rfl (mayT e31 hG) (cellAt (eb hC hb23) (show (nmdC (l.getD (i) dNmd))[0]? = some (St (((l.getD (i) dNmd)).name) : Value) from nmd_g0 (l.getD (i) dNmd))) ⟨Ext.refl _, mayI hG⟩
   ·refine stepM 12 true 24 (G := (!((!(nameB (((l.getD (i) dNmd)).name))) || (zeroB (((l.getD (i) dNmd)).id)))) && (decide ((0) < (i)))) rfl rfl (fun x _ (h : x = cond (!((!(nameB (((l.getD (i) dNmd)).name))) || (zeroB (((l.getD (i) dNmd)).id)))) (.bool (decide ((0) < (i)))) undef) => geT h) (fun hu_ _ => mayU hu_) fun hG σ w1 hC h => ?_
    have e30 := eqo (h 30 (by decide))
    have e32 := eqo (h 32 (by decide))
    exact Yk.ltSt (l := (l.getD ((i) - (1)) dNmd).name) (m := ((l.getD (i) dNmd)).name) (.inr rfl) (mayT e30 hG) (mayT e32 hG) (!(Op.bytesLess ((l.getD ((i) - (1)) dNmd).name) (((l.getD (i) dNmd)).name))) rfl ⟨Ext.refl _, mayI hG⟩
   ·refine stepM 9 false 21 (G := !((!(nameB (((l.getD (i) dNmd)).name))) || (zeroB (((l.getD (i) dNmd)).id)))) rfl rfl (fun x _ (h : x = .bool ((!(nameB (((l.getD (i) dNmd)).name))) || (zeroB (((l.getD (i) dNmd)).id)))) => gF h) (fun hu_ _ => mayU hu_) fun hG σ w1 hC h => ?_
    have e24 := eqo (h 24 (by decide))
    have e33 := eqo (h 33 (by decide))
    exact Yk.pickAnd (mayT e24 hG) (fun hA => (mayT e33 (and_i hG hA))) (vr (.bool (false)) rfl) ⟨Ext.refl _, mayI hG⟩
   ·refine stepN rfl fun σ w1 hC h => ?_
    have e21 := eqo (h 21 (by decide))
    have e34 := eqo (h 34 (by decide))
    exact Yk.pickOr e21 (vr (.bool (true)) rfl) (fun hA => (mayT e34 (not_i hA))) ⟨Ext.refl _, rfl⟩
  intro ρ31 w32 hx33 he hf
  obtain ⟨-, -, -, -, -, -, -, -, -, -, -, -, -, -, -, -, -, -, -, -, -, -, -, k35, -⟩ := hf
  obtain ⟨T0, T3, T4, T5, T6, T7, -⟩ := he.hold [(0, _), (3, _), (4, PQ n14 0), (5, _), (6, _), (7, _)] ⟨T0, T7, rfl, T5, T6, T7, trivial⟩ rfl
  clear he
  have hE := hE.trans hx33
  have hA20 := hA20.trans hx33
  have hb23 := eb hx33 hb23
  have T35 : ρ31 35 = .bool (((!(nameB (((l.getD (i) dNmd)).name))) || (zeroB (((l.getD (i) dNmd)).id))) || ((decide ((0) < (i))) && (!(Op.bytesLess ((l.getD ((i) - (1)) dNmd).name) (((l.getD (i) dNmd)).name))))) := k35
  clear k35
  refine tN (hK30 _ _ ?_)
  refine wpF_condB (((!(nameB (((l.getD (i) dNmd)).name))) || (zeroB (((l.getD (i) dNmd)).id))) || ((decide ((0) < (i))) && (!(Op.bytesLess ((l.getD ((i) - (1)) dNmd).name) (((l.getD (i) dNmd)).name))))) T35 (fun hc1 => ?_) (fun hc1 => ?_)
  ·have hbad : nE l i = true := hc1
   refine sk fun K34 hK34 => (wt (oA rfl (oZ (tN (hK34 _ _ (wpF_ret (inBlockF_ret (thenF_ret (thenF_ret (inBlockF_ret (thenF_ret (postF_ret (fn := Tryd.f82) _ rfl [.bool (false)] (.bool (false)) rfl ⟨rfl, trivial⟩ ?_))))))))))))
   exact ⟨by rw [nlistB_bad hlt hbad], hE⟩
  have hbad : nE l i = false := hc1
  refine wpF_skip (bN (tN (hK9 _ _ (wt (oS rfl (Yk.bin (xv := NI i) (yv := NI 1) T7 rfl rfl (i64_add _ _ _ (by omega)) (oM rfl (oL_ [(0, v), (3, NI i), (4, PQ n14 0), (5, v), (6, NI l.length), (7, NI ((i) + (1)))] ⟨T0, T3, T4, T5, T6, rfl, trivial⟩ fun ρ35 ⟨T0, T3, T4, T5, T6, T7, _⟩ => (tN (And.intro ⟨i + 1, T0, T5, T6, T7, (hr.keep hA20), hE, by omega, to_step hn hbad, trivial⟩ ?_))))))))))
  show l.length - (intOf (ρ35 7)).toNat < l.length - (intOf (ρ5 7)).toNat
  rw [T7, q7]
  simp only [intOf, Int.toNat_natCast]; omega
 refine wpF_exit (thenF_exit (thenF_exit (inBlockF_hit (tN (hK2 _ _ (sk fun K36 hK36 => (wt (oM rfl (oS rfl (Yk.lenRG wr21_ty51 (RG.of hr T0) (oS rfl (Yk.eqI (a := (l.length : Nat)) (b := (64 : Nat)) rfl rfl (k_leq _ _ _ _) (oA rfl (oZ (tN (hK36 _ _ (wpF_ret (postF_ret (fn := Tryd.f82) _ rfl [.bool (decide ((l.length) ≤ (64)))] (.bool (decide ((l.length) ≤ (64)))) rfl ⟨rfl, trivial⟩ ?_))))))))))))))))))
 exact ⟨by rw [nlistB_all (show l.length ≤ i by omega) hn], hE⟩

theorem fright_any (w : World) (x : RefsV) (hm : RefsAt w x) (hL : RefsLt x.1) :
  Calls Tryd.prog 31 #[.agg (refsC x).toArray] w fun e w' => e = .returned (.bool (rightF x.1)) ∧ Ext w w' := by
 have hmt := hm.branches
 have hmg := hm.tags
 have hml := hm.log
 refine calls_of_wpF (args := [.agg (refsC x).toArray]) Tryd.func31 rfl 72 rfl (Nat.le_of_ble_eq_true rfl) ?_
 intro ρ0 hb
 have T0 : ρ0 0 = (.agg (refsC x).toArray : Value) := hb.get 0
 clear hb
 have hE := Ext.refl w
 refine sk fun K1 hK1 => (wt (oS rfl (Yk.box (cs := (refsC x : List Value).toArray) T0 fun n2 w3 hn4 hb5 hx6 hs7 => ?_)))
 have hE := hE.trans hx6
 have hb8 := hb5; clear hb5
 have hl9 : n2 < w3.heap.size := by omega
 refine oA rfl (oZ (tN (hK1 _ _ (sk fun K10 hK10 => (sk fun K11 hK11 => (wt (oS rfl (Yk.fieldAt wr21_fo53_0 (vr (PQ n2 0) rfl) (oS rfl (Yk.cell1 wr21_ty51 rfl (vr (PQ n2 0) rfl) (cellAt hb8 (show (refsC x)[0]? = some (x.2.branches : Value) from refs_g0 x)) (oS rfl (Yk.callA1 wr21_pl82 (vr x.2.branches rfl) ((flist_any _ _ x.1.branches (hmt.keep hE) hL.branches hL.bn).mono ?_)))))))))))))
 rintro e w13 ⟨rfl, hx12⟩
 refine ⟨_, rfl, ?_⟩
 have hE := hE.trans hx12
 have hb8 := eb hx12 hb8
 refine oS rfl (Yk.notB (vr (.bool (nlistB x.1.branches)) rfl) (oM rfl (opsF_mayV (PQ n2 1) rfl rfl (gF (vr (.bool (!(nlistB x.1.branches))) rfl)) (fun hG14 => Yk.fieldAt wr21_fo53_1 (vr (PQ n2 0) rfl) ⟨rfl, rfl⟩) (opsF_mayV (x.2.tags) rfl rfl (gF (vr (.bool (!(nlistB x.1.branches))) rfl)) (fun hG15 => Yk.cell1 wr21_ty51 rfl (mayT (vr (cond (!(!(nlistB x.1.branches))) (PQ n2 1) undef) rfl) hG15) (cellAt hb8 (show (refsC x)[1]? = some (x.2.tags : Value) from refs_g1 x)) ⟨rfl, rfl⟩) (opsF_mayC (.bool (nlistB x.1.tags)) rfl rfl (gF (vr (.bool (!(nlistB x.1.branches))) rfl)) (fun hG16 => Yk.callA1 wr21_pl82 (mayT (vr (cond (!(!(nlistB x.1.branches))) (x.2.tags) undef) rfl) hG16) ((flist_any _ _ x.1.tags (hmg.keep hE) hL.tags hL.tn).mono (by rintro e w2 ⟨rfl, hx⟩; exact ⟨_, rfl, rfl, hx⟩))) fun w18 hx19 => ?_)))))
 have hE := hE.trans hx19
 have hb8 := eb hx19 hb8
 refine opsF_mayV (.bool (!(nlistB x.1.tags))) rfl rfl (gF (vr (.bool (!(nlistB x.1.branches))) rfl)) (fun hG20 => Yk.notB (mayT (vr (cond (!(!(nlistB x.1.branches))) (.bool (nlistB x.1.tags)) undef) rfl) hG20) ⟨rfl, rfl⟩) (oS rfl (Yk.pickOrN (vr (.bool (!(nlistB x.1.branches))) rfl) (vr (.bool (true)) rfl) (fun hA => (mayT (vr (cond (!(!(nlistB x.1.branches))) (.bool (!(nlistB x.1.tags))) undef) rfl) (not_i hA))) fun bb21 hbb22 => (oM rfl (opsF_mayV (PQ n2 35) rfl rfl (gF (vr (.bool (bb21)) rfl)) (fun hG23 => Yk.fieldAt wr21_fo53_4 (vr (PQ n2 0) rfl) ⟨rfl, rfl⟩) (opsF_mayV (x.2.log) rfl rfl (gF (vr (.bool (bb21)) rfl)) (fun hG24 => Yk.cell1 wr21_ty47 rfl (mayT (vr (cond (!bb21) (PQ n2 35) undef) rfl) hG24) (cellAt hb8 (show (refsC x)[35]? = some (x.2.log : Value) from refs_g4 x)) ⟨rfl, rfl⟩) (opsF_mayV (NI ((x.1.log).length)) rfl rfl (gF (vr (.bool (bb21)) rfl)) (fun hG25 => Yk.lenRG wr21_ty47 (RG.of (hml.keep hE) (mayT (vr (cond (!bb21) (x.2.log) undef) rfl) hG25)) ⟨rfl, rfl⟩) (opsF_mayV (.bool (decide ((64) < ((x.1.log).length)))) rfl rfl (gF (vr (.bool (bb21)) rfl)) (fun hG26 => Yk.eqI (a := (((x.1.log).length : Nat) : Int)) (b := ((64 : Nat) : Int)) (mayT (vr (cond (!bb21) (NI ((x.1.log).length)) undef) rfl) hG26) (vr (NI 64) rfl) (k_gtr _ .i64 ((x.1.log).length) (64)) ⟨rfl, rfl⟩) (oS rfl (Yk.pickOrN (vr (.bool (bb21)) rfl) (vr (.bool (true)) rfl) (fun hA => (mayT (vr (cond (!bb21) (.bool (decide ((64) < ((x.1.log).length)))) undef) rfl) (not_i hA))) fun bb27 hbb28 => (oZ (tN (hK11 _ _ ?_))))))))))))
 refine wpF_condB (bb27) (vr (.bool (bb27)) rfl) (fun hc0 => ?_) (fun hc0 => ?_)
 ·subst hbb22 hbb28
  have h1c : rE1 x.1 = true := hc0
  refine sk fun K29 hK29 => (wt (oA rfl (oZ (tN (hK29 _ _ (wpF_ret (thenF_ret (postF_ret (fn := Tryd.f31) _ rfl [.bool (false)] (.bool (false)) rfl ⟨rfl, trivial⟩ ?_))))))))
  exact ⟨by rw [rightF_1 h1c], hE⟩
 subst hbb22 hbb28
 have h1c : rE1 x.1 = false := hc0
 refine wpF_skip (tN (hK10 _ _ (sk fun K30 hK30 => (sk fun K31 hK31 => (wt (oS rfl (Yk.fieldAt wr21_fo53_2 (vr (PQ n2 0) rfl) (oS rfl (Yk.cell1 wr21_ty9 rfl (vr (PQ n2 2) rfl) (cellAt hb8 (show (refsC x)[2]? = some (St (x.1.head) : Value) from refs_g2 x)) (oS rfl (Yk.eqSt (l := x.1.head) (m := ([] : List UInt8)) (.inr rfl) (vr (St (x.1.head)) rfl) (vr (St (([] : List UInt8))) rfl) (decide ((x.1.head : List UInt8) ≠ (([] : List UInt8) : List UInt8))) rfl (oM rfl (opsF_mayV (PQ n2 2) rfl rfl (gT (vr (.bool (decide ((x.1.head : List UInt8) ≠ (([] : List UInt8) : List UInt8)))) rfl)) (fun hG32 => Yk.fieldAt wr21_fo53_2 (vr (PQ n2 0) rfl) ⟨rfl, rfl⟩) (opsF_mayV (St (x.1.head)) rfl rfl (gT (vr (.bool (decide ((x.1.head : List UInt8) ≠ (([] : List UInt8) : List UInt8)))) rfl)) (fun hG33 => Yk.cell1 wr21_ty9 rfl (mayT (vr (cond ((decide ((x.1.head : List UInt8) ≠ (([] : List UInt8) : List UInt8)))) (PQ n2 2) undef) rfl) hG33) (cellAt hb8 (show (refsC x)[2]? = some (St (x.1.head) : Value) from refs_g2 x)) ⟨rfl, rfl⟩) (opsF_mayC (.bool (nameB x.1.head)) rfl rfl (gT (vr (.bool (decide ((x.1.head : List UInt8) ≠ (([] : List UInt8) : List UInt8)))) rfl)) (fun hG34 => Yk.callA1 wr21_pl59 (mayT (vr (cond ((decide ((x.1.head : List UInt8) ≠ (([] : List UInt8) : List UInt8)))) (St (x.1.head)) undef) rfl) hG34) ((name_any _ x.1.head hL.head).mono (by rintro e w2 ⟨rfl, hx⟩; exact ⟨_, rfl, rfl, hx⟩))) fun w36 hx37 => ?_)))))))))))))))
 have hE := hE.trans hx37
 have hb8 := eb hx37 hb8
 refine opsF_mayV (.bool (!(nameB x.1.head))) rfl rfl (gT (vr (.bool (decide ((x.1.head : List UInt8) ≠ (([] : List UInt8) : List UInt8)))) rfl)) (fun hG38 => Yk.notB (mayT (vr (cond ((decide ((x.1.head : List UInt8) ≠ (([] : List UInt8) : List UInt8)))) (.bool (nameB x.1.head)) undef) rfl) hG38) ⟨rfl, rfl⟩) (opsF_mayV (.bool (!(nameB x.1.head))) rfl rfl (gT (vr (.bool (decide ((x.1.head : List UInt8) ≠ (([] : List UInt8) : List UInt8)))) rfl)) (fun hG39 => Yk.move (mayT (vr (cond ((decide ((x.1.head : List UInt8) ≠ (([] : List UInt8) : List UInt8)))) (.bool (!(nameB x.1.head))) undef) rfl) hG39) ⟨rfl, rfl⟩) (opsF_mayV (PQ n2 3) rfl rfl (geF (vr (cond ((decide ((x.1.head : List UInt8) ≠ (([] : List UInt8) : List UInt8)))) (.bool (!(nameB x.1.head))) undef) rfl)) (fun hG40 => Yk.fieldAt wr21_fo53_3 (vr (PQ n2 0) rfl) ⟨rfl, rfl⟩) (opsF_mayV (AB x.1.at_.1) rfl rfl (geF (vr (cond ((decide ((x.1.head : List UInt8) ≠ (([] : List UInt8) : List UInt8)))) (.bool (!(nameB x.1.head))) undef) rfl)) (fun hG41 => Yk.loadPR (PR.blk hb8 (refs_m3 x) (refs_n3 x) (mayT (vr (cond ((decide ((x.1.head : List UInt8) ≠ (([] : List UInt8) : List UInt8))) && !(!(nameB x.1.head))) (PQ n2 3) undef) rfl) hG41)) wr21_ty25 rfl (sizeId_of x.1.at_.2) ⟨rfl, rfl⟩) (opsF_mayC (.bool (zeroB x.1.at_)) rfl rfl (geF (vr (cond ((decide ((x.1.head : List UInt8) ≠ (([] : List UInt8) : List UInt8)))) (.bool (!(nameB x.1.head))) undef) rfl)) (fun hG42 => Yk.callA1 wr21_pl83 (mayT (vr (cond ((decide ((x.1.head : List UInt8) ≠ (([] : List UInt8) : List UInt8))) && !(!(nameB x.1.head))) (AB x.1.at_.1) undef) rfl) hG42) ((fzero_any _ x.1.at_).mono (by rintro e w2 ⟨rfl, hx⟩; exact ⟨_, rfl, rfl, hx⟩))) fun w44 hx45 => ?_))))
 have hE := hE.trans hx45
 have hb8 := eb hx45 hb8
 refine opsF_mayV (.bool (!(zeroB x.1.at_))) rfl rfl (geF (vr (cond ((decide ((x.1.head : List UInt8) ≠ (([] : List UInt8) : List UInt8)))) (.bool (!(nameB x.1.head))) undef) rfl)) (fun hG46 => Yk.notB (mayT (vr (cond ((decide ((x.1.head : List UInt8) ≠ (([] : List UInt8) : List UInt8))) && !(!(nameB x.1.head))) (.bool (zeroB x.1.at_)) undef) rfl) hG46) ⟨rfl, rfl⟩) (opsF_mayB ((!(nameB x.1.head)) || (!(zeroB x.1.at_))) rfl rfl (gT (vr (.bool (decide ((x.1.head : List UInt8) ≠ (([] : List UInt8) : List UInt8)))) rfl)) (fun hG47 => Yk.pickOr (mayT (vr (cond ((decide ((x.1.head : List UInt8) ≠ (([] : List UInt8) : List UInt8)))) (.bool (!(nameB x.1.head))) undef) rfl) hG47) (vr (.bool (true)) rfl) (fun hA => (mayT (vr (cond ((decide ((x.1.head : List UInt8) ≠ (([] : List UInt8) : List UInt8))) && !(!(nameB x.1.head))) (.bool (!(zeroB x.1.at_))) undef) rfl) (and_i hG47 (not_i hA)))) ⟨rfl, rfl⟩) fun bb48 hbb49 => (oS rfl (Yk.pickAndN (vr (.bool (decide ((x.1.head : List UInt8) ≠ (([] : List UInt8) : List UInt8)))) rfl) (fun hA => (mayT (vr (cond ((decide ((x.1.head : List UInt8) ≠ (([] : List UInt8) : List UInt8)))) (.bool (bb48)) undef) rfl) hA)) (vr (.bool (false)) rfl) fun bb50 hbb51 => (oM rfl (opsF_mayV (PQ n2 2) rfl rfl (gF (vr (.bool (bb50)) rfl)) (fun hG52 => Yk.fieldAt wr21_fo53_2 (vr (PQ n2 0) rfl) ⟨rfl, rfl⟩) (opsF_mayV (St (x.1.head)) rfl rfl (gF (vr (.bool (bb50)) rfl)) (fun hG53 => Yk.cell1 wr21_ty9 rfl (mayT (vr (cond (!bb50) (PQ n2 2) undef) rfl) hG53) (cellAt hb8 (show (refsC x)[2]? = some (St (x.1.head) : Value) from refs_g2 x)) ⟨rfl, rfl⟩) (opsF_mayV (.bool (decide ((x.1.head : List UInt8) = (([] : List UInt8) : List UInt8)))) rfl rfl (gF (vr (.bool (bb50)) rfl)) (fun hG54 => Yk.eqSt (l := x.1.head) (m := ([] : List UInt8)) (.inl rfl) (mayT (vr (cond (!bb50) (St (x.1.head)) undef) rfl) hG54) (vr (St (([] : List UInt8))) rfl) (decide ((x.1.head : List UInt8) = (([] : List UInt8) : List UInt8))) rfl ⟨rfl, rfl⟩) (opsF_mayV (.bool (decide ((x.1.head : List UInt8) = (([] : List UInt8) : List UInt8)))) rfl rfl (gF (vr (.bool (bb50)) rfl)) (fun hG55 => Yk.move (mayT (vr (cond (!bb50) (.bool (decide ((x.1.head : List UInt8) = (([] : List UInt8) : List UInt8)))) undef) rfl) hG55) ⟨rfl, rfl⟩) (opsF_mayV (PQ n2 3) rfl rfl (geT (vr (cond (!bb50) (.bool (decide ((x.1.head : List UInt8) = (([] : List UInt8) : List UInt8)))) undef) rfl)) (fun hG56 => Yk.fieldAt wr21_fo53_3 (vr (PQ n2 0) rfl) ⟨rfl, rfl⟩) (opsF_mayV (AB x.1.at_.1) rfl rfl (geT (vr (cond (!bb50) (.bool (decide ((x.1.head : List UInt8) = (([] : List UInt8) : List UInt8)))) undef) rfl)) (fun hG57 => Yk.loadPR (PR.blk hb8 (refs_m3 x) (refs_n3 x) (mayT (vr (cond ((!bb50) && (decide ((x.1.head : List UInt8) = (([] : List UInt8) : List UInt8)))) (PQ n2 3) undef) rfl) hG57)) wr21_ty25 rfl (sizeId_of x.1.at_.2) ⟨rfl, rfl⟩) (opsF_mayC (.bool (zeroB x.1.at_)) rfl rfl (geT (vr (cond (!bb50) (.bool (decide ((x.1.head : List UInt8) = (([] : List UInt8) : List UInt8)))) undef) rfl)) (fun hG58 => Yk.callA1 wr21_pl83 (mayT (vr (cond ((!bb50) && (decide ((x.1.head : List UInt8) = (([] : List UInt8) : List UInt8)))) (AB x.1.at_.1) undef) rfl) hG58) ((fzero_any _ x.1.at_).mono (by rintro e w2 ⟨rfl, hx⟩; exact ⟨_, rfl, rfl, hx⟩))) fun w60 hx61 => ?_)))))))))))
 have hE := hE.trans hx61
 have hb8 := eb hx61 hb8
 refine opsF_mayB ((decide ((x.1.head : List UInt8) = (([] : List UInt8) : List UInt8))) && (zeroB x.1.at_)) rfl rfl (gF (vr (.bool (bb50)) rfl)) (fun hG62 => Yk.pickAnd (mayT (vr (cond (!bb50) (.bool (decide ((x.1.head : List UInt8) = (([] : List UInt8) : List UInt8)))) undef) rfl) hG62) (fun hA => (mayT (vr (cond ((!bb50) && (decide ((x.1.head : List UInt8) = (([] : List UInt8) : List UInt8)))) (.bool (zeroB x.1.at_)) undef) rfl) (and_i hG62 hA))) (vr (.bool (false)) rfl) ⟨rfl, rfl⟩) fun bb63 hbb64 => (oS rfl (Yk.pickOrN (vr (.bool (bb50)) rfl) (vr (.bool (true)) rfl) (fun hA => (mayT (vr (cond (!bb50) (.bool (bb63)) undef) rfl) (not_i hA))) fun bb65 hbb66 => (oL_ [(0, .agg (refsC x).toArray), (1, PQ n2 0), (2, .bool (false)), (45, .bool (bb65))] ⟨T0, rfl, rfl, rfl, trivial⟩ fun ρ67 ⟨T0, T1, T2, T45, _⟩ => (tN (hK31 _ _ ?_)))))
 refine wpF_condB (bb65) T45 (fun hc1 => ?_) (fun hc1 => ?_)
 ·subst hbb49 hbb51 hbb64 hbb66
  have h2c : rE2 x.1 = true := hc1
  refine sk fun K68 hK68 => (wt (oA rfl (oZ (tN (hK68 _ _ (wpF_ret (thenF_ret (postF_ret (fn := Tryd.f31) _ rfl [.bool (false)] (.bool (false)) rfl ⟨rfl, trivial⟩ ?_))))))))
  exact ⟨by rw [rightF_2 h1c h2c], hE⟩
 subst hbb49 hbb51 hbb64 hbb66
 have h2c : rE2 x.1 = false := hc1
 refine wpF_skip (tN (hK30 _ _ (sk fun K69 hK69 => (sk fun K70 hK70 => (wt (oS rfl (Yk.fieldAt wr21_fo53_4 T1 (oS rfl (Yk.cell1 wr21_ty47 rfl (vr (PQ n2 35) rfl) (cellAt hb8 (show (refsC x)[35]? = some (x.2.log : Value) from refs_g4 x)) (oS rfl (Yk.lenRG wr21_ty47 (RG.of (hml.keep hE) (vr x.2.log rfl)) (oM rfl (oL_ [(0, .agg (refsC x).toArray), (1, PQ n2 0), (2, .bool (false)), (47, x.2.log), (48, NI ((x.1.log).length)), (49, NI 0)] ⟨T0, T1, T2, rfl, rfl, rfl, trivial⟩ fun ρ71 ⟨T0, T1, T2, T47, T48, T49, _⟩ => (tN (hK70 _ _ (wpF_block (wpF_loop (fun (ρ : Slots) (wz : World) => ∃ i : Nat, ρ 0 = (.agg (refsC x).toArray : Value) ∧ ρ 1 = (PQ n2 0 : Value) ∧ ρ 47 = (x.2.log : Value) ∧ ρ 48 = (NI ((x.1.log).length) : Value) ∧ ρ 49 = (NI i : Value) ∧ Ext w wz ∧ wz.heap[n2]? = some (.cells (refsC x).toArray 53 (0, 0)) ∧ (i ≤ x.1.log.length) ∧ (∀ j, j < i → entE x.1.log j = false) ∧ True) (fun ρ _ => x.1.log.length - (intOf (ρ 49)).toNat) ⟨0, T0, T1, T47, T48, T49, hE, hb8, Nat.zero_le _, fun j hj => absurd hj (Nat.not_lt_zero _), trivial⟩ ?_)))))))))))))))))
 clear hE hb8
 rintro ρ72 w73 ⟨i, T0, T1, T47, T48, T49, hE, hb8, hi, hn, -⟩
 have q49 := T49
 refine sk fun K74 hK74 => (wt (oS rfl (Yk.eqI (a := (i : Nat)) (b := ((x.1.log).length : Nat)) T49 T48 (k_lss _ _ _ _) (oZ (tN (hK74 _ _ (sk fun K75 hK75 => ?_)))))))
 refine wpF_cond ((i) < ((x.1.log).length)) (vr (.bool (decide ((i) < ((x.1.log).length)))) rfl) (fun hc2 => ?_) (fun hc2 => ?_)
 ·have hlt : i < x.1.log.length := hc2
  refine wpF_skip (tN (hK75 _ _ (sk fun K76 hK76 => (wpF_block (sk fun K77 hK77 => (wt ?_))))))
  have hl80 : (entC ((x.1.log).getD (i) dEntry)).length = 67 := (RG.elem (hml.keep hE) dEntry (by omega))
  refine oS rfl (Yk.atRG wr21_ty47 wr21_szg122 (by decide) dEntry (RG.of (hml.keep hE) T47) T49 (by omega) fun v78 hp79 => (oS rfl (Yk.loadPR (PR.of hp79 (vr v78 rfl)) (wr21_ty122).choose_spec rfl (by rw [ent_len]; exact wr21_isz122) (oS rfl (Yk.alloc (cs := (entC (⟨0, [], zid, zid, []⟩ : Ent)).toArray) wr21_al122 fun n81 w82 hn83 hb84 hx85 hs86 => ?_)))))
  have hA87 := Ext.refl w73
  have hea88 := hE
  have hz89 := hE.size
  have hlt90 := lte (bl hb8) hn83
  have hE := hE.trans hx85
  have hb8 := eb hx85 hb8
  have hA87 := hA87.trans hx85
  have hb91 := hb84; clear hb84
  have hl92 : n81 < w82.heap.size := by omega
  refine oS rfl (Yk.storeAll (vr (PQ n81 0) rfl) (vr (.agg (entC ((x.1.log).getD (i) dEntry)).toArray) rfl) hb91 (by simp only [List.size_toArray, ent_len]) (st_isz (ent_len _) wr21_isz122) (ent_one (x := ((x.1.log).getD (i) dEntry))) fun w93 hb94 hg95 hs96 => ?_)
  have hE := row_fresh hE hg95 (Nat.le_trans hz89 (by omega))
  have hb8 := kb hg95 hb8 (by omega)
  have hA87 := row_fresh hA87 hg95 (Nat.le_trans (Nat.le_refl _) (by omega))
  clear hb91
  have hb91 : w93.heap[n81]? = some (.cells (entC ((x.1.log).getD (i) dEntry)).toArray 122 (0, 0)) := hb94; clear hb94
  have hl97 := bl hb91
  refine oZ ?_
  clear hp79
  refine tN (hK77 _ _ (sk fun K98 hK98 => (wt (oS rfl (Yk.fieldAt wr21_fo122_0 (vr (PQ n81 0) rfl) (oS rfl (Yk.fieldAt wr21_fo67_0 (vr (PQ n81 0) rfl) (oS rfl (Yk.cell1 wr21_ty5 rfl (vr (PQ n81 0) rfl) (cellAt hb91 (show (entC ((x.1.log).getD (i) dEntry))[0]? = some (B8 ((((x.1.log).getD (i) dEntry)).kind) : Value) from ent_g0 ((x.1.log).getD (i) dEntry))) (oS rfl (Yk.callA1 wr21_pl84 (vr (B8 ((((x.1.log).getD (i) dEntry)).kind)) rfl) ((fkind_any _ ((((x.1.log).getD (i) dEntry)).kind)).mono ?_))))))))))))
  rintro e w100 ⟨rfl, hx99⟩
  refine ⟨_, rfl, ?_⟩
  have hE := hE.trans hx99
  have hb8 := eb hx99 hb8
  have hA87 := hA87.trans hx99
  have hb91 := eb hx99 hb91
  refine oS rfl (Yk.notB (vr (.bool (kindB ((((x.1.log).getD (i) dEntry)).kind))) rfl) (oM rfl (opsF_mayV (PQ n81 66) rfl rfl (gF (vr (.bool (!(kindB ((((x.1.log).getD (i) dEntry)).kind)))) rfl)) (fun hG101 => Yk.fieldAt wr21_fo122_1 (vr (PQ n81 0) rfl) ⟨rfl, rfl⟩) (opsF_mayV (St ((((x.1.log).getD (i) dEntry)).note)) rfl rfl (gF (vr (.bool (!(kindB ((((x.1.log).getD (i) dEntry)).kind)))) rfl)) (fun hG102 => Yk.cell1 wr21_ty9 rfl (mayT (vr (cond (!(!(kindB ((((x.1.log).getD (i) dEntry)).kind)))) (PQ n81 66) undef) rfl) hG102) (cellAt hb91 (show (entC ((x.1.log).getD (i) dEntry))[66]? = some (St ((((x.1.log).getD (i) dEntry)).note) : Value) from ent_g4 ((x.1.log).getD (i) dEntry))) ⟨rfl, rfl⟩) (opsF_mayC (.bool (noteB ((((x.1.log).getD (i) dEntry)).note))) rfl rfl (gF (vr (.bool (!(kindB ((((x.1.log).getD (i) dEntry)).kind)))) rfl)) (fun hG103 => Yk.callA1 wr21_pl73 (mayT (vr (cond (!(!(kindB ((((x.1.log).getD (i) dEntry)).kind)))) (St ((((x.1.log).getD (i) dEntry)).note)) undef) rfl) hG103) ((note_any _ ((((x.1.log).getD (i) dEntry)).note)).mono (by rintro e w2 ⟨rfl, hx⟩; exact ⟨_, rfl, rfl, hx⟩))) fun w105 hx106 => ?_)))))
  have hE := hE.trans hx106
  have hb8 := eb hx106 hb8
  have hA87 := hA87.trans hx106
  have hb91 := eb hx106 hb91
  refine opsF_mayV (.bool (!(noteB ((((x.1.log).getD (i) dEntry)).note)))) rfl rfl (gF (vr (.bool (!(kindB ((((x.1.log).getD (i) dEntry)).kind)))) rfl)) (fun hG107 => Yk.notB (mayT (vr (cond (!(!(kindB ((((x.1.log).getD (i) dEntry)).kind)))) (.bool (noteB ((((x.1.log).getD (i) dEntry)).note))) undef) rfl) hG107) ⟨rfl, rfl⟩) (oS rfl (Yk.pickOrN (vr (.bool (!(kindB ((((x.1.log).getD (i) dEntry)).kind)))) rfl) (vr (.bool (true)) rfl) (fun hA => (mayT (vr (cond (!(!(kindB ((((x.1.log).getD (i) dEntry)).kind)))) (.bool (!(noteB ((((x.1.log).getD (i) dEntry)).note)))) undef) rfl) (not_i hA))) fun bb108 hbb109 => (oM rfl (opsF_mayV (PQ n81 0) rfl rfl (gF (vr (.bool (bb108)) rfl)) (fun hG110 => Yk.fieldAt wr21_fo122_0 (vr (PQ n81 0) rfl) ⟨rfl, rfl⟩) (opsF_mayV (PQ n81 1) rfl rfl (gF (vr (.bool (bb108)) rfl)) (fun hG111 => Yk.fieldAt wr21_fo67_1 (mayT (vr (cond (!bb108) (PQ n81 0) undef) rfl) hG111) ⟨rfl, rfl⟩) (opsF_mayV (St ((((x.1.log).getD (i) dEntry)).name)) rfl rfl (gF (vr (.bool (bb108)) rfl)) (fun hG112 => Yk.cell1 wr21_ty9 rfl (mayT (vr (cond (!bb108) (PQ n81 1) undef) rfl) hG112) (cellAt hb91 (show (entC ((x.1.log).getD (i) dEntry))[1]? = some (St ((((x.1.log).getD (i) dEntry)).name) : Value) from ent_g1 ((x.1.log).getD (i) dEntry))) ⟨rfl, rfl⟩) (opsF_mayV (NI (((((x.1.log).getD (i) dEntry)).name : List UInt8).length)) rfl rfl (gF (vr (.bool (bb108)) rfl)) (fun hG113 => Yk.lenSt (l := (((x.1.log).getD (i) dEntry)).name) wr21_ty9 (mayT (vr (cond (!bb108) (St ((((x.1.log).getD (i) dEntry)).name)) undef) rfl) hG113) ⟨rfl, rfl⟩) (opsF_mayV (.bool (decide ((32) < (((((x.1.log).getD (i) dEntry)).name : List UInt8).length)))) rfl rfl (gF (vr (.bool (bb108)) rfl)) (fun hG114 => Yk.eqI (a := ((((((x.1.log).getD (i) dEntry)).name : List UInt8).length : Nat) : Int)) (b := ((32 : Nat) : Int)) (mayT (vr (cond (!bb108) (NI (((((x.1.log).getD (i) dEntry)).name : List UInt8).length)) undef) rfl) hG114) (vr (NI 32) rfl) (k_gtr _ .i64 (((((x.1.log).getD (i) dEntry)).name : List UInt8).length) (32)) ⟨rfl, rfl⟩) (oS rfl (Yk.pickOrN (vr (.bool (bb108)) rfl) (vr (.bool (true)) rfl) (fun hA => (mayT (vr (cond (!bb108) (.bool (decide ((32) < (((((x.1.log).getD (i) dEntry)).name : List UInt8).length)))) undef) rfl) (not_i hA))) fun bb115 hbb116 => (oZ (tN (hK98 _ _ ?_)))))))))))))
  refine wpF_condB (bb115) (vr (.bool (bb115)) rfl) (fun hc3 => ?_) (fun hc3 => ?_)
  ·subst hbb109 hbb116
   have hbad : entE x.1.log i = true := hc3
   refine sk fun K117 hK117 => (wt (oA rfl (oZ (tN (hK117 _ _ (wpF_ret (inBlockF_ret (thenF_ret (thenF_ret (inBlockF_ret (thenF_ret (postF_ret (fn := Tryd.f31) _ rfl [.bool (false)] (.bool (false)) rfl ⟨rfl, trivial⟩ ?_))))))))))))
   exact ⟨by rw [rightF_bad h1c h2c hlt hbad], hE⟩
  subst hbb109 hbb116
  have hbad : entE x.1.log i = false := hc3
  refine wpF_skip (bN (tN (hK76 _ _ (wt (oS rfl (Yk.bin (xv := NI i) (yv := NI 1) T49 rfl rfl (i64_add _ _ _ (by have := hL.log; omega)) (oM rfl (oL_ [(0, .agg (refsC x).toArray), (1, PQ n2 0), (4, PQ n81 0), (47, x.2.log), (48, NI ((x.1.log).length)), (49, NI ((i) + (1)))] ⟨T0, T1, rfl, T47, T48, rfl, trivial⟩ fun ρ118 ⟨T0, T1, T4, T47, T48, T49, _⟩ => (tN (And.intro ⟨i + 1, T0, T1, T47, T48, T49, hE, hb8, by omega, to_step hn hbad, trivial⟩ ?_))))))))))
  show x.1.log.length - (intOf (ρ118 49)).toNat < x.1.log.length - (intOf (ρ72 49)).toNat
  rw [T49, q49]
  simp only [intOf, Int.toNat_natCast]; omega
 refine wpF_exit (thenF_exit (thenF_exit (inBlockF_hit (tN (hK69 _ _ (sk fun K119 hK119 => (wt (oA rfl (oZ (tN (hK119 _ _ (wpF_ret (postF_ret (fn := Tryd.f31) _ rfl [.bool (true)] (.bool (true)) rfl ⟨rfl, trivial⟩ ?_)))))))))))))
 exact ⟨by rw [rightF_all h1c h2c (show x.1.log.length ≤ i by omega) hn], hE⟩
end Go.Proofs.YtmonlobfofkbdaaDoor
