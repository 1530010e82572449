/- The reference's Apply. -/
import Derived.Test.YtfjmbcjcgdfkfaaDel18
namespace Go.Proofs.Ytfjmbcjcgdfkfaa
open Go.RowKit
theorem pieceP_small {B D : List UInt8} {i x k : Nat} (h : lebDec 0 (D.drop i) = some (x, k)) (s : x / 2 < 1) : pieceP B D i = none := by
  rw [pieceP, h]
  simp only
  split
  · split
    · rfl
    · rw [cutP, if_pos (.inl s)]
  · rw [cutP, if_pos (.inl s)]
theorem pieceP_over {B D : List UInt8} {i x k z : Nat} (h : lebDec 0 (D.drop i) = some (x, k)) (s : z < x / 2) : pieceP B D i = none ∨ ∃ b nx, pieceP B D i = some (b, nx) ∧ z < b.length := by
  have hl : ∀ (F : List UInt8) (p nx : Nat), cutP F p (x / 2) nx = none ∨ ∃ b n, cutP F p (x / 2) nx = some (b, n) ∧ z < b.length := fun F p nx => by
    unfold cutP
    split
    · exact .inl rfl
    · exact .inr ⟨_, _, rfl, by rw [List.length_take, List.length_drop]; omega⟩
  rw [pieceP, h]
  simp only
  split
  · split
    · exact .inl rfl
    · exact hl _ _ _
  · exact hl _ _ _
theorem applyGo_fail {B D o : List UInt8} {sb f i : Nat} (hi : i < D.length) (h : pieceP B D i = none ∨ ∃ b nx, pieceP B D i = some (b, nx) ∧ sb - o.length < b.length) : applyGo B D sb (f + 1) i o = none := by
  rw [applyGo, if_pos hi]
  rcases h with h | ⟨b, nx, h, hb⟩
  · rw [h]
  · rw [h]
    simp only
    rw [if_pos hb]
theorem del19_pl15 : Plain Try.prog 15 := fun _ _ => by kernel_rfl
theorem del19_ty22 : Try.prog.underlying 22 = some (.slice 5) := by kernel_rfl
theorem del19_pl25 : Plain Try.prog 25 := fun _ _ => by kernel_rfl
theorem del19_sz5 : ∀ w' : World, (sizeOf 5).run Try.prog w' = .ok 1 w' := fun _ => by kernel_rfl
theorem del19_inf5 : (Try.prog.info? 5).map (fun i => (i.zero, i.size, i.bytes)) = some (some (.int .u8 0), 1, 1) := by kernel_rfl
theorem refSizes_no (w : World) (v : Value) (D : List UInt8) (hr : RB w v D) (hlen : D.length ≤ 1073741824) (h : sizesP D = none) :
    Calls Try.prog 15 #[v] w fun e w' => e = .returned (.tuple #[NI 0, NI 0, NI 0, NI 6]) ∧ Ext w w' := by
  have := refSizes_any w v D hr hlen
  rw [h] at this
  exact this
theorem refSizes_yes (w : World) (v : Value) (D : List UInt8) (hr : RB w v D) (hlen : D.length ≤ 1073741824) (a b n : Nat) (h : sizesP D = some (a, b, n)) :
    Calls Try.prog 15 #[v] w fun e w' => e = .returned (.tuple #[NI a, NI b, NI n, NI 0]) ∧ Ext w w' := by
  have := refSizes_any w v D hr hlen
  rw [h] at this
  exact this

theorem refApply_any (w : World) (vb v : Value) (B D : List UInt8) (hrb : RB w vb B) (hr : RB w v D) (hB : B.length ≤ 1048576) (hlen : D.length ≤ 1073741824) :
    Calls Try.prog 13 #[vb, v] w fun e w' => ∃ v', e = .returned (.tuple #[v', NI (applyP B D).2]) ∧ RB w' v' (applyP B D).1 ∧ Ext w w' := by
  refine calls_of_wpF (args := [vb, v]) Try.func13 rfl 118 rfl (Nat.le_of_ble_eq_true rfl) ?_
  intro ρ0 hb
  have T0 : ρ0 0 = (vb : Value) := hb.get 0
  have T1 : ρ0 1 = (v : Value) := hb.get 1
  clear hb
  have hE := Ext.refl w
  refine wpF_seq_k fun K1 hK1 => ?_
  refine wpF_text ?_
  refine opsF_step rfl (YieldsK.assign (show _ = ((Value.slice none 0 0) : Value) from rfl) ?_)    -- ref.go:68 t4 := (Op.assign (Operand.const (Value.slice none 0 0)))
  refine opsF_step rfl (YieldsK.assign (show _ = (.int .i64 ((0 : Nat) : Int) : Value) from rfl) ?_)    -- ref.go:68 t5 := (Op.assign (Operand.const (Value.int IntKind.i64 0)))
  refine opsF_end (fun ρ => ρ 0 = (vb : Value) ∧ ρ 1 = (v : Value) ∧ ρ 4 = ((Value.slice none 0 0) : Value) ∧ ρ 5 = (.int .i64 ((0 : Nat) : Int) : Value) ∧ True) ⟨T0, T1, rfl, rfl, trivial⟩ fun ρ2 ⟨T0, T1, T4, T5, _⟩ => ?_
  rcases hsz : sizesP D with _ | ⟨sa, sb, sn⟩
  · refine thenF_normal (hK1 _ _ ?_)
    refine wpF_seq_k fun K3 hK3 => ?_
    refine wpF_text ?_
    refine opsF_step rfl (YieldsK.move (show _ = (v : Value) from T1) ?_)    -- ref.go:69 t19 := (Op.move (Operand.tmp 1))
    refine opsF_step rfl (YieldsK.callA1 del19_pl15 (show _ = (v : Value) from rfl) ?_)    -- ref.go:69 t20 := (Op.call { callee := (Callee.value (Operand.func 15)), args := #[(Operand.tmp 19)], argTypes := #[22] })
    refine (refSizes_no _ v D (hr.keep hE) hlen hsz).mono ?_
    rintro e w5 ⟨rfl, hx4⟩
    refine ⟨_, rfl, ?_⟩
    have hE : Ext w w5 := (hE.trans hx4)
    refine opsF_step rfl (YieldsK.move (show _ = (.tuple #[.int .i64 ((0 : Nat) : Int), .int .i64 ((0 : Nat) : Int), .int .i64 ((0 : Nat) : Int), .int .i64 ((6 : Nat) : Int)] : Value) from rfl) ?_)    -- ref.go:69 t18 := (Op.move (Operand.tmp 20))
    refine opsF_step rfl (YieldsK.extract (vs := [.int .i64 ((0 : Nat) : Int), .int .i64 ((0 : Nat) : Int), .int .i64 ((0 : Nat) : Int), .int .i64 ((6 : Nat) : Int)]) (show _ = (.tuple #[.int .i64 ((0 : Nat) : Int), .int .i64 ((0 : Nat) : Int), .int .i64 ((0 : Nat) : Int), .int .i64 ((6 : Nat) : Int)] : Value) from rfl) (show _ = some (.int .i64 ((0 : Nat) : Int) : Value) from rfl) ?_)    -- ref.go:69 t21 := (Op.extract (Operand.tmp 18) 0)
    refine opsF_step rfl (YieldsK.extract (vs := [.int .i64 ((0 : Nat) : Int), .int .i64 ((0 : Nat) : Int), .int .i64 ((0 : Nat) : Int), .int .i64 ((6 : Nat) : Int)]) (show _ = (.tuple #[.int .i64 ((0 : Nat) : Int), .int .i64 ((0 : Nat) : Int), .int .i64 ((0 : Nat) : Int), .int .i64 ((6 : Nat) : Int)] : Value) from rfl) (show _ = some (.int .i64 ((0 : Nat) : Int) : Value) from rfl) ?_)    -- ref.go:69 t22 := (Op.extract (Operand.tmp 18) 1)
    refine opsF_step rfl (YieldsK.extract (vs := [.int .i64 ((0 : Nat) : Int), .int .i64 ((0 : Nat) : Int), .int .i64 ((0 : Nat) : Int), .int .i64 ((6 : Nat) : Int)]) (show _ = (.tuple #[.int .i64 ((0 : Nat) : Int), .int .i64 ((0 : Nat) : Int), .int .i64 ((0 : Nat) : Int), .int .i64 ((6 : Nat) : Int)] : Value) from rfl) (show _ = some (.int .i64 ((0 : Nat) : Int) : Value) from rfl) ?_)    -- ref.go:69 t23 := (Op.extract (Operand.tmp 18) 2)
    refine opsF_step rfl (YieldsK.extract (vs := [.int .i64 ((0 : Nat) : Int), .int .i64 ((0 : Nat) : Int), .int .i64 ((0 : Nat) : Int), .int .i64 ((6 : Nat) : Int)]) (show _ = (.tuple #[.int .i64 ((0 : Nat) : Int), .int .i64 ((0 : Nat) : Int), .int .i64 ((0 : Nat) : Int), .int .i64 ((6 : Nat) : Int)] : Value) from rfl) (show _ = some (.int .i64 ((6 : Nat) : Int) : Value) from rfl) ?_)    -- ref.go:69 t24 := (Op.extract (Operand.tmp 18) 3)
    refine opsF_step rfl (YieldsK.assign (show _ = (.int .i64 ((0 : Nat) : Int) : Value) from rfl) ?_)    -- ref.go:69 t6 := (Op.assign (Operand.tmp 21))
    refine opsF_step rfl (YieldsK.assign (show _ = (.int .i64 ((0 : Nat) : Int) : Value) from rfl) ?_)    -- ref.go:69 t7 := (Op.assign (Operand.tmp 22))
    refine opsF_step rfl (YieldsK.assign (show _ = (.int .i64 ((0 : Nat) : Int) : Value) from rfl) ?_)    -- ref.go:69 t8 := (Op.assign (Operand.tmp 23))
    refine opsF_step rfl (YieldsK.assign (show _ = (.int .i64 ((6 : Nat) : Int) : Value) from rfl) ?_)    -- ref.go:69 t9 := (Op.assign (Operand.tmp 24))
    refine opsF_end (fun ρ => ρ 0 = (vb : Value) ∧ ρ 1 = (v : Value) ∧ ρ 4 = ((Value.slice none 0 0) : Value) ∧ ρ 5 = (.int .i64 ((0 : Nat) : Int) : Value) ∧ ρ 6 = (.int .i64 ((0 : Nat) : Int) : Value) ∧ ρ 7 = (.int .i64 ((0 : Nat) : Int) : Value) ∧ ρ 8 = (.int .i64 ((0 : Nat) : Int) : Value) ∧ ρ 9 = (.int .i64 ((6 : Nat) : Int) : Value) ∧ True) ⟨T0, T1, T4, T5, rfl, rfl, rfl, rfl, trivial⟩ fun ρ6 ⟨T0, T1, T4, T5, T6, T7, T8, T9, _⟩ => ?_
    refine thenF_normal (hK3 _ _ ?_)
    refine wpF_seq_k fun K7 hK7 => ?_
    refine wpF_seq_k fun K8 hK8 => ?_
    refine wpF_text ?_
    refine opsF_step rfl (YieldsK.move (show _ = (.int .i64 ((6 : Nat) : Int) : Value) from T9) ?_)    -- ref.go:70 t25 := (Op.move (Operand.tmp 9))
    refine opsF_step rfl (YieldsK.eqI (a := ((6 : Nat) : Int)) (b := ((0 : Nat) : Int)) (show _ = (.int .i64 ((6 : Nat) : Int) : Value) from rfl) (show _ = (.int .i64 ((0 : Nat) : Int) : Value) from rfl) (k_neq _ .i64 (6) (0)) ?_)    -- ref.go:70 t26 := (Op.binOp BinOp.neq 3 (Operand.tmp 25) (Operand.const (Value.int IntKind.i64 0)) 3)
    refine opsF_end (fun ρ => ρ 0 = (vb : Value) ∧ ρ 1 = (v : Value) ∧ ρ 4 = ((Value.slice none 0 0) : Value) ∧ ρ 5 = (.int .i64 ((0 : Nat) : Int) : Value) ∧ ρ 6 = (.int .i64 ((0 : Nat) : Int) : Value) ∧ ρ 7 = (.int .i64 ((0 : Nat) : Int) : Value) ∧ ρ 8 = (.int .i64 ((0 : Nat) : Int) : Value) ∧ ρ 9 = (.int .i64 ((6 : Nat) : Int) : Value) ∧ ρ 26 = (.bool (true) : Value) ∧ True) ⟨T0, T1, T4, T5, T6, T7, T8, T9, (congrArg Value.bool (decide_eq_true (by decide))), trivial⟩ fun ρ9 ⟨T0, T1, T4, T5, T6, T7, T8, T9, T26, _⟩ => ?_
    refine thenF_normal (hK8 _ _ ?_)
    refine wpF_true (show _ = (.bool (true) : Value) from T26) ?_
    refine wpF_seq_k fun K10 hK10 => ?_
    refine wpF_text ?_
    refine opsF_step rfl (YieldsK.move (show _ = (.int .i64 ((6 : Nat) : Int) : Value) from T9) ?_)    -- ref.go:71 t27 := (Op.move (Operand.tmp 9))
    refine opsF_step rfl (YieldsK.assign (show _ = ((Value.slice none 0 0) : Value) from rfl) ?_)    -- ref.go:71 t4 := (Op.assign (Operand.const (Value.slice none 0 0)))
    refine opsF_step rfl (YieldsK.assign (show _ = (.int .i64 ((6 : Nat) : Int) : Value) from rfl) ?_)    -- ref.go:71 t5 := (Op.assign (Operand.tmp 27))
    refine opsF_end (fun ρ => ρ 0 = (vb : Value) ∧ ρ 1 = (v : Value) ∧ ρ 4 = ((Value.slice none 0 0) : Value) ∧ ρ 5 = (.int .i64 ((6 : Nat) : Int) : Value) ∧ ρ 6 = (.int .i64 ((0 : Nat) : Int) : Value) ∧ ρ 7 = (.int .i64 ((0 : Nat) : Int) : Value) ∧ ρ 8 = (.int .i64 ((0 : Nat) : Int) : Value) ∧ ρ 9 = (.int .i64 ((6 : Nat) : Int) : Value) ∧ ρ 26 = (.bool (true) : Value) ∧ True) ⟨T0, T1, rfl, rfl, T6, T7, T8, T9, T26, trivial⟩ fun ρ11 ⟨T0, T1, T4, T5, T6, T7, T8, T9, T26, _⟩ => ?_
    refine thenF_normal (hK10 _ _ ?_)
    refine wpF_ret (thenF_ret ?_)
    refine postF_ret (fn := Try.f13) _ rfl [(Value.slice none 0 0), .int .i64 ((6 : Nat) : Int)] (.tuple #[(Value.slice none 0 0), .int .i64 ((6 : Nat) : Int)]) rfl ⟨T4, T5, trivial⟩ ?_
    have hP : applyP B D = ([], 6) := by rw [applyP, hsz]
    rw [hP]
    exact ⟨_, rfl, RB.nil _, hE⟩
  · have hsb := sizesP_bound hsz
    refine thenF_normal (hK1 _ _ ?_)
    refine wpF_seq_k fun K12 hK12 => ?_
    refine wpF_text ?_
    refine opsF_step rfl (YieldsK.move (show _ = (v : Value) from T1) ?_)    -- ref.go:69 t19 := (Op.move (Operand.tmp 1))
    refine opsF_step rfl (YieldsK.callA1 del19_pl15 (show _ = (v : Value) from rfl) ?_)    -- ref.go:69 t20 := (Op.call { callee := (Callee.value (Operand.func 15)), args := #[(Operand.tmp 19)], argTypes := #[22] })
    refine (refSizes_yes _ v D (hr.keep hE) hlen sa sb sn hsz).mono ?_
    rintro e w14 ⟨rfl, hx13⟩
    refine ⟨_, rfl, ?_⟩
    have hE : Ext w w14 := (hE.trans hx13)
    refine opsF_step rfl (YieldsK.move (show _ = (.tuple #[.int .i64 ((sa : Nat) : Int), .int .i64 ((sb : Nat) : Int), .int .i64 ((sn : Nat) : Int), .int .i64 ((0 : Nat) : Int)] : Value) from rfl) ?_)    -- ref.go:69 t18 := (Op.move (Operand.tmp 20))
    refine opsF_step rfl (YieldsK.extract (vs := [.int .i64 ((sa : Nat) : Int), .int .i64 ((sb : Nat) : Int), .int .i64 ((sn : Nat) : Int), .int .i64 ((0 : Nat) : Int)]) (show _ = (.tuple #[.int .i64 ((sa : Nat) : Int), .int .i64 ((sb : Nat) : Int), .int .i64 ((sn : Nat) : Int), .int .i64 ((0 : Nat) : Int)] : Value) from rfl) (show _ = some (.int .i64 ((sa : Nat) : Int) : Value) from rfl) ?_)    -- ref.go:69 t21 := (Op.extract (Operand.tmp 18) 0)
    refine opsF_step rfl (YieldsK.extract (vs := [.int .i64 ((sa : Nat) : Int), .int .i64 ((sb : Nat) : Int), .int .i64 ((sn : Nat) : Int), .int .i64 ((0 : Nat) : Int)]) (show _ = (.tuple #[.int .i64 ((sa : Nat) : Int), .int .i64 ((sb : Nat) : Int), .int .i64 ((sn : Nat) : Int), .int .i64 ((0 : Nat) : Int)] : Value) from rfl) (show _ = some (.int .i64 ((sb : Nat) : Int) : Value) from rfl) ?_)    -- ref.go:69 t22 := (Op.extract (Operand.tmp 18) 1)
    refine opsF_step rfl (YieldsK.extract (vs := [.int .i64 ((sa : Nat) : Int), .int .i64 ((sb : Nat) : Int), .int .i64 ((sn : Nat) : Int), .int .i64 ((0 : Nat) : Int)]) (show _ = (.tuple #[.int .i64 ((sa : Nat) : Int), .int .i64 ((sb : Nat) : Int), .int .i64 ((sn : Nat) : Int), .int .i64 ((0 : Nat) : Int)] : Value) from rfl) (show _ = some (.int .i64 ((sn : Nat) : Int) : Value) from rfl) ?_)    -- ref.go:69 t23 := (Op.extract (Operand.tmp 18) 2)
    refine opsF_step rfl (YieldsK.extract (vs := [.int .i64 ((sa : Nat) : Int), .int .i64 ((sb : Nat) : Int), .int .i64 ((sn : Nat) : Int), .int .i64 ((0 : Nat) : Int)]) (show _ = (.tuple #[.int .i64 ((sa : Nat) : Int), .int .i64 ((sb : Nat) : Int), .int .i64 ((sn : Nat) : Int), .int .i64 ((0 : Nat) : Int)] : Value) from rfl) (show _ = some (.int .i64 ((0 : Nat) : Int) : Value) from rfl) ?_)    -- ref.go:69 t24 := (Op.extract (Operand.tmp 18) 3)
    refine opsF_step rfl (YieldsK.assign (show _ = (.int .i64 ((sa : Nat) : Int) : Value) from rfl) ?_)    -- ref.go:69 t6 := (Op.assign (Operand.tmp 21))
    refine opsF_step rfl (YieldsK.assign (show _ = (.int .i64 ((sb : Nat) : Int) : Value) from rfl) ?_)    -- ref.go:69 t7 := (Op.assign (Operand.tmp 22))
    refine opsF_step rfl (YieldsK.assign (show _ = (.int .i64 ((sn : Nat) : Int) : Value) from rfl) ?_)    -- ref.go:69 t8 := (Op.assign (Operand.tmp 23))
    refine opsF_step rfl (YieldsK.assign (show _ = (.int .i64 ((0 : Nat) : Int) : Value) from rfl) ?_)    -- ref.go:69 t9 := (Op.assign (Operand.tmp 24))
    refine opsF_end (fun ρ => ρ 0 = (vb : Value) ∧ ρ 1 = (v : Value) ∧ ρ 4 = ((Value.slice none 0 0) : Value) ∧ ρ 5 = (.int .i64 ((0 : Nat) : Int) : Value) ∧ ρ 6 = (.int .i64 ((sa : Nat) : Int) : Value) ∧ ρ 7 = (.int .i64 ((sb : Nat) : Int) : Value) ∧ ρ 8 = (.int .i64 ((sn : Nat) : Int) : Value) ∧ ρ 9 = (.int .i64 ((0 : Nat) : Int) : Value) ∧ True) ⟨T0, T1, T4, T5, rfl, rfl, rfl, rfl, trivial⟩ fun ρ15 ⟨T0, T1, T4, T5, T6, T7, T8, T9, _⟩ => ?_
    refine thenF_normal (hK12 _ _ ?_)
    refine wpF_seq_k fun K16 hK16 => ?_
    refine wpF_seq_k fun K17 hK17 => ?_
    refine wpF_text ?_
    refine opsF_step rfl (YieldsK.move (show _ = (.int .i64 ((0 : Nat) : Int) : Value) from T9) ?_)    -- ref.go:70 t25 := (Op.move (Operand.tmp 9))
    refine opsF_step rfl (YieldsK.eqI (a := ((0 : Nat) : Int)) (b := ((0 : Nat) : Int)) (show _ = (.int .i64 ((0 : Nat) : Int) : Value) from rfl) (show _ = (.int .i64 ((0 : Nat) : Int) : Value) from rfl) (k_neq _ .i64 (0) (0)) ?_)    -- ref.go:70 t26 := (Op.binOp BinOp.neq 3 (Operand.tmp 25) (Operand.const (Value.int IntKind.i64 0)) 3)
    refine opsF_end (fun ρ => ρ 0 = (vb : Value) ∧ ρ 1 = (v : Value) ∧ ρ 4 = ((Value.slice none 0 0) : Value) ∧ ρ 5 = (.int .i64 ((0 : Nat) : Int) : Value) ∧ ρ 6 = (.int .i64 ((sa : Nat) : Int) : Value) ∧ ρ 7 = (.int .i64 ((sb : Nat) : Int) : Value) ∧ ρ 8 = (.int .i64 ((sn : Nat) : Int) : Value) ∧ ρ 9 = (.int .i64 ((0 : Nat) : Int) : Value) ∧ ρ 26 = (.bool (false) : Value) ∧ True) ⟨T0, T1, T4, T5, T6, T7, T8, T9, (congrArg Value.bool (decide_eq_false (by decide))), trivial⟩ fun ρ18 ⟨T0, T1, T4, T5, T6, T7, T8, T9, T26, _⟩ => ?_
    refine thenF_normal (hK17 _ _ ?_)
    refine wpF_false (show _ = (.bool (false) : Value) from T26) ?_
    refine wpF_skip ?_
    refine thenF_normal (hK16 _ _ ?_)
    refine wpF_seq_k fun K19 hK19 => ?_
    refine wpF_seq_k fun K20 hK20 => ?_
    refine wpF_text ?_
    refine opsF_step rfl (YieldsK.move (show _ = (.int .i64 ((sb : Nat) : Int) : Value) from T7) ?_)    -- ref.go:73 t28 := (Op.move (Operand.tmp 7))
    refine opsF_step rfl (YieldsK.eqI (a := ((sb : Nat) : Int)) (b := ((262144 : Nat) : Int)) (show _ = (.int .i64 ((sb : Nat) : Int) : Value) from rfl) (show _ = (.int .i64 ((262144 : Nat) : Int) : Value) from rfl) (k_gtr _ .i64 (sb) (262144)) ?_)    -- ref.go:73 t29 := (Op.binOp BinOp.gtr 3 (Operand.tmp 28) (Operand.const (Value.int IntKind.i64 262144)) 3)
    refine opsF_end (fun ρ => ρ 0 = (vb : Value) ∧ ρ 1 = (v : Value) ∧ ρ 4 = ((Value.slice none 0 0) : Value) ∧ ρ 5 = (.int .i64 ((0 : Nat) : Int) : Value) ∧ ρ 6 = (.int .i64 ((sa : Nat) : Int) : Value) ∧ ρ 7 = (.int .i64 ((sb : Nat) : Int) : Value) ∧ ρ 8 = (.int .i64 ((sn : Nat) : Int) : Value) ∧ ρ 9 = (.int .i64 ((0 : Nat) : Int) : Value) ∧ ρ 26 = (.bool (false) : Value) ∧ ρ 29 = (.bool (decide ((262144) < (sb))) : Value) ∧ True) ⟨T0, T1, T4, T5, T6, T7, T8, T9, T26, rfl, trivial⟩ fun ρ21 ⟨T0, T1, T4, T5, T6, T7, T8, T9, T26, T29, _⟩ => ?_
    refine thenF_normal (hK20 _ _ ?_)
    refine wpF_cond ((262144) < (sb)) (show _ = (.bool (decide ((262144) < (sb))) : Value) from T29) (fun hc1 => ?_) (fun hc1 => ?_)
    · refine wpF_seq_k fun K22 hK22 => ?_
      refine wpF_text ?_
      refine opsF_step rfl (YieldsK.assign (show _ = ((Value.slice none 0 0) : Value) from rfl) ?_)    -- ref.go:74 t4 := (Op.assign (Operand.const (Value.slice none 0 0)))
      refine opsF_step rfl (YieldsK.assign (show _ = (.int .i64 ((2 : Nat) : Int) : Value) from rfl) ?_)    -- ref.go:74 t5 := (Op.assign (Operand.const (Value.int IntKind.i64 2)))
      refine opsF_end (fun ρ => ρ 0 = (vb : Value) ∧ ρ 1 = (v : Value) ∧ ρ 4 = ((Value.slice none 0 0) : Value) ∧ ρ 5 = (.int .i64 ((2 : Nat) : Int) : Value) ∧ ρ 6 = (.int .i64 ((sa : Nat) : Int) : Value) ∧ ρ 7 = (.int .i64 ((sb : Nat) : Int) : Value) ∧ ρ 8 = (.int .i64 ((sn : Nat) : Int) : Value) ∧ ρ 9 = (.int .i64 ((0 : Nat) : Int) : Value) ∧ ρ 26 = (.bool (false) : Value) ∧ True) ⟨T0, T1, rfl, rfl, T6, T7, T8, T9, T26, trivial⟩ fun ρ23 ⟨T0, T1, T4, T5, T6, T7, T8, T9, T26, _⟩ => ?_
      refine thenF_normal (hK22 _ _ ?_)
      refine wpF_ret (thenF_ret ?_)
      refine postF_ret (fn := Try.f13) _ rfl [(Value.slice none 0 0), .int .i64 ((2 : Nat) : Int)] (.tuple #[(Value.slice none 0 0), .int .i64 ((2 : Nat) : Int)]) rfl ⟨T4, T5, trivial⟩ ?_
      have hP : applyP B D = ([], 2) := by rw [applyP, hsz]; simp only; rw [if_pos hc1]
      rw [hP]
      exact ⟨_, rfl, RB.nil _, hE⟩
    · refine wpF_skip ?_
      refine thenF_normal (hK19 _ _ ?_)
      refine wpF_seq_k fun K24 hK24 => ?_
      refine wpF_seq_k fun K25 hK25 => ?_
      refine wpF_text ?_
      refine opsF_step rfl (YieldsK.move (show _ = (.int .i64 ((sa : Nat) : Int) : Value) from T6) ?_)    -- ref.go:76 t30 := (Op.move (Operand.tmp 6))
      refine opsF_step rfl (YieldsK.move (show _ = (vb : Value) from T0) ?_)    -- ref.go:76 t31 := (Op.move (Operand.tmp 0))
      refine opsF_step rfl (YieldsK.lenRB del19_ty22 (RB.of (hrb.keep hE) (show _ = (vb : Value) from rfl)) ?_)    -- ref.go:76 t32 := (Op.call { callee := (Callee.builtin Builtin.len), args := #[(Operand.tmp 31)], argTypes := #[22] })
      refine opsF_step rfl (YieldsK.eqI (a := ((sa : Nat) : Int)) (b := ((B.length : Nat) : Int)) (show _ = (.int .i64 ((sa : Nat) : Int) : Value) from rfl) (show _ = (.int .i64 ((B.length : Nat) : Int) : Value) from rfl) (k_neq _ .i64 (sa) (B.length)) ?_)    -- ref.go:76 t33 := (Op.binOp BinOp.neq 3 (Operand.tmp 30) (Operand.tmp 32) 3)
      refine opsF_end (fun ρ => ρ 0 = (vb : Value) ∧ ρ 1 = (v : Value) ∧ ρ 4 = ((Value.slice none 0 0) : Value) ∧ ρ 5 = (.int .i64 ((0 : Nat) : Int) : Value) ∧ ρ 6 = (.int .i64 ((sa : Nat) : Int) : Value) ∧ ρ 7 = (.int .i64 ((sb : Nat) : Int) : Value) ∧ ρ 8 = (.int .i64 ((sn : Nat) : Int) : Value) ∧ ρ 9 = (.int .i64 ((0 : Nat) : Int) : Value) ∧ ρ 26 = (.bool (false) : Value) ∧ ρ 33 = (.bool (decide ((sa : Nat) ≠ (B.length))) : Value) ∧ True) ⟨T0, T1, T4, T5, T6, T7, T8, T9, T26, rfl, trivial⟩ fun ρ26 ⟨T0, T1, T4, T5, T6, T7, T8, T9, T26, T33, _⟩ => ?_
      refine thenF_normal (hK25 _ _ ?_)
      refine wpF_cond ((sa : Nat) ≠ (B.length)) (show _ = (.bool (decide ((sa : Nat) ≠ (B.length))) : Value) from T33) (fun hc2 => ?_) (fun hc2 => ?_)
      · refine wpF_seq_k fun K27 hK27 => ?_
        refine wpF_text ?_
        refine opsF_step rfl (YieldsK.assign (show _ = ((Value.slice none 0 0) : Value) from rfl) ?_)    -- ref.go:77 t4 := (Op.assign (Operand.const (Value.slice none 0 0)))
        refine opsF_step rfl (YieldsK.assign (show _ = (.int .i64 ((6 : Nat) : Int) : Value) from rfl) ?_)    -- ref.go:77 t5 := (Op.assign (Operand.const (Value.int IntKind.i64 6)))
        refine opsF_end (fun ρ => ρ 0 = (vb : Value) ∧ ρ 1 = (v : Value) ∧ ρ 4 = ((Value.slice none 0 0) : Value) ∧ ρ 5 = (.int .i64 ((6 : Nat) : Int) : Value) ∧ ρ 6 = (.int .i64 ((sa : Nat) : Int) : Value) ∧ ρ 7 = (.int .i64 ((sb : Nat) : Int) : Value) ∧ ρ 8 = (.int .i64 ((sn : Nat) : Int) : Value) ∧ ρ 9 = (.int .i64 ((0 : Nat) : Int) : Value) ∧ ρ 26 = (.bool (false) : Value) ∧ True) ⟨T0, T1, rfl, rfl, T6, T7, T8, T9, T26, trivial⟩ fun ρ28 ⟨T0, T1, T4, T5, T6, T7, T8, T9, T26, _⟩ => ?_
        refine thenF_normal (hK27 _ _ ?_)
        refine wpF_ret (thenF_ret ?_)
        refine postF_ret (fn := Try.f13) _ rfl [(Value.slice none 0 0), .int .i64 ((6 : Nat) : Int)] (.tuple #[(Value.slice none 0 0), .int .i64 ((6 : Nat) : Int)]) rfl ⟨T4, T5, trivial⟩ ?_
        have hP : applyP B D = ([], 6) := by rw [applyP, hsz]; simp only; rw [if_neg hc1, if_pos hc2]
        rw [hP]
        exact ⟨_, rfl, RB.nil _, hE⟩
      · refine wpF_skip ?_
        refine thenF_normal (hK24 _ _ ?_)
        refine wpF_seq_k fun K29 hK29 => ?_
        refine wpF_text ?_
        refine opsF_step rfl (YieldsK.assign (show _ = ((Value.slice none 0 0) : Value) from rfl) ?_)    -- ref.go:79 t10 := (Op.assign (Operand.const (Value.slice none 0 0)))
        refine opsF_end (fun ρ => ρ 0 = (vb : Value) ∧ ρ 1 = (v : Value) ∧ ρ 4 = ((Value.slice none 0 0) : Value) ∧ ρ 5 = (.int .i64 ((0 : Nat) : Int) : Value) ∧ ρ 6 = (.int .i64 ((sa : Nat) : Int) : Value) ∧ ρ 7 = (.int .i64 ((sb : Nat) : Int) : Value) ∧ ρ 8 = (.int .i64 ((sn : Nat) : Int) : Value) ∧ ρ 9 = (.int .i64 ((0 : Nat) : Int) : Value) ∧ ρ 10 = ((Value.slice none 0 0) : Value) ∧ ρ 26 = (.bool (false) : Value) ∧ True) ⟨T0, T1, T4, T5, T6, T7, T8, T9, rfl, T26, trivial⟩ fun ρ30 ⟨T0, T1, T4, T5, T6, T7, T8, T9, T10, T26, _⟩ => ?_
        have hoN : w.ownsRow w.heap.size 5 1 (Value.slice none 0 0) ([] : List UInt8).length (Lib.byteCells ([] : List UInt8)) := World.ownsRow_nil _ _ _ 1
        have hoN : w14.ownsRow w.heap.size 5 1 (Value.slice none 0 0) ([] : List UInt8).length (Lib.byteCells ([] : List UInt8)) := World.ownsRow_nil _ _ _ 1
        refine thenF_normal (hK29 _ _ ?_)
        refine wpF_seq_k fun K31 hK31 => ?_
        refine wpF_block ?_
        refine wpF_loop (fun (ρ : Slots) (wz : World) => ∃ i : Nat, ∃ f : Nat, ∃ o : List UInt8, ∃ vo : Value, ρ 0 = (vb : Value) ∧ ρ 1 = (v : Value) ∧ ρ 6 = (.int .i64 ((sa : Nat) : Int) : Value) ∧ ρ 7 = (.int .i64 ((sb : Nat) : Int) : Value) ∧ ρ 9 = (.int .i64 ((0 : Nat) : Int) : Value) ∧ ρ 26 = (.bool (false) : Value) ∧ ρ 8 = (.int .i64 ((i : Nat) : Int) : Value) ∧ ρ 10 = (vo : Value) ∧ Ext w wz ∧ wz.ownsRow w.heap.size 5 1 vo o.length (Lib.byteCells (o)) ∧ (applyGo B D sb f i o = applyGo B D sb (D.length + 1) sn []) ∧ (D.length < i + f) ∧ (i ≤ D.length) ∧ (o.length ≤ sb) ∧ True) (fun ρ _ => D.length - (intOf (ρ 8)).toNat) ⟨sn, D.length + 1, [], (Value.slice none 0 0), T0, T1, T6, T7, T9, T26, T8, T10, hE, own_eq hoN (rfl), rfl, by omega, by omega, by simp, trivial⟩ ?_
        clear hoN
        clear hE
        rintro ρ32 w33 ⟨i, f, o, vo, T0, T1, T6, T7, T9, T26, T8, T10, hE, ho_vo, hgo, hf, hi, hos, -⟩
        have q8 := T8
        have ql10 := own_sliceLen ho_vo
        obtain ⟨f', rfl⟩ : ∃ f', f = f' + 1 := ⟨f - 1, by omega⟩
        refine wpF_seq_k fun K34 hK34 => ?_
        refine wpF_seq_k fun K35 hK35 => ?_
        refine wpF_text ?_
        refine opsF_step rfl (YieldsK.move (show _ = (.int .i64 ((i : Nat) : Int) : Value) from T8) ?_)    -- ref.go:80 t34 := (Op.move (Operand.tmp 8))
        refine opsF_step rfl (YieldsK.move (show _ = (v : Value) from T1) ?_)    -- ref.go:80 t35 := (Op.move (Operand.tmp 1))
        refine opsF_step rfl (YieldsK.lenRB del19_ty22 (RB.of (hr.keep hE) (show _ = (v : Value) from rfl)) ?_)    -- ref.go:80 t36 := (Op.call { callee := (Callee.builtin Builtin.len), args := #[(Operand.tmp 35)], argTypes := #[22] })
        refine opsF_step rfl (YieldsK.eqI (a := ((i : Nat) : Int)) (b := ((D.length : Nat) : Int)) (show _ = (.int .i64 ((i : Nat) : Int) : Value) from rfl) (show _ = (.int .i64 ((D.length : Nat) : Int) : Value) from rfl) (k_lss _ .i64 (i) (D.length)) ?_)    -- ref.go:80 t37 := (Op.binOp BinOp.lss 3 (Operand.tmp 34) (Operand.tmp 36) 3)
        refine opsF_end (fun ρ => ρ 0 = (vb : Value) ∧ ρ 1 = (v : Value) ∧ ρ 6 = (.int .i64 ((sa : Nat) : Int) : Value) ∧ ρ 7 = (.int .i64 ((sb : Nat) : Int) : Value) ∧ ρ 8 = (.int .i64 ((i : Nat) : Int) : Value) ∧ ρ 9 = (.int .i64 ((0 : Nat) : Int) : Value) ∧ ρ 10 = (vo : Value) ∧ ρ 26 = (.bool (false) : Value) ∧ ρ 37 = (.bool (decide ((i) < (D.length))) : Value) ∧ True) ⟨T0, T1, T6, T7, T8, T9, T10, T26, rfl, trivial⟩ fun ρ36 ⟨T0, T1, T6, T7, T8, T9, T10, T26, T37, _⟩ => ?_
        refine thenF_normal (hK35 _ _ ?_)
        refine wpF_cond ((i) < (D.length)) (show _ = (.bool (decide ((i) < (D.length))) : Value) from T37) (fun hc3 => ?_) (fun hc3 => ?_)
        · rcases hgx : lebDec 0 (D.drop i) with _ | ⟨x, k⟩
          · have hfail : applyGo B D sb (f' + 1) i o = none := applyGo_fail hc3 (.inl (by rw [pieceP, hgx]))
            refine wpF_skip ?_
            refine thenF_normal (hK34 _ _ ?_)
            refine wpF_block ?_
            refine wpF_seq_k fun K37 hK37 => ?_
            refine wpF_text ?_
            refine opsF_step rfl (YieldsK.move (show _ = (v : Value) from T1) ?_)    -- ref.go:81 t39 := (Op.move (Operand.tmp 1))
            refine opsF_step rfl (YieldsK.move (show _ = (.int .i64 ((i : Nat) : Int) : Value) from T8) ?_)    -- ref.go:81 t40 := (Op.move (Operand.tmp 8))
            refine opsF_step rfl (YieldsK.callA2 del19_pl25 (show _ = (v : Value) from rfl) (show _ = (.int .i64 ((i : Nat) : Int) : Value) from rfl) ?_)    -- ref.go:81 t41 := (Op.call { callee := (Callee.value (Operand.func 25)), args := #[(Operand.tmp 39), (Operand.tmp 40)], argTypes
            refine (refGetNo _ v D (hr.keep hE) (i) (by omega) hlen hgx).mono ?_
            rintro e w39 ⟨rfl, hx38⟩
            refine ⟨_, rfl, ?_⟩
            have hE : Ext w w39 := (hE.trans hx38)
            have ho_vo : w39.ownsRow w.heap.size 5 1 vo o.length (Lib.byteCells (o)) := (Stab.own _ _ _ _ _ _ _ _ ho_vo hx38)
            refine opsF_step rfl (YieldsK.move (show _ = (.tuple #[.int .i64 ((0 : Nat) : Int), .int .i64 ((0 : Nat) : Int), .int .i64 ((6 : Nat) : Int)] : Value) from rfl) ?_)    -- ref.go:81 t38 := (Op.move (Operand.tmp 41))
            refine opsF_step rfl (YieldsK.extract (vs := [.int .i64 ((0 : Nat) : Int), .int .i64 ((0 : Nat) : Int), .int .i64 ((6 : Nat) : Int)]) (show _ = (.tuple #[.int .i64 ((0 : Nat) : Int), .int .i64 ((0 : Nat) : Int), .int .i64 ((6 : Nat) : Int)] : Value) from rfl) (show _ = some (.int .i64 ((0 : Nat) : Int) : Value) from rfl) ?_)    -- ref.go:81 t42 := (Op.extract (Operand.tmp 38) 0)
            refine opsF_step rfl (YieldsK.extract (vs := [.int .i64 ((0 : Nat) : Int), .int .i64 ((0 : Nat) : Int), .int .i64 ((6 : Nat) : Int)]) (show _ = (.tuple #[.int .i64 ((0 : Nat) : Int), .int .i64 ((0 : Nat) : Int), .int .i64 ((6 : Nat) : Int)] : Value) from rfl) (show _ = some (.int .i64 ((0 : Nat) : Int) : Value) from rfl) ?_)    -- ref.go:81 t43 := (Op.extract (Operand.tmp 38) 1)
            refine opsF_step rfl (YieldsK.extract (vs := [.int .i64 ((0 : Nat) : Int), .int .i64 ((0 : Nat) : Int), .int .i64 ((6 : Nat) : Int)]) (show _ = (.tuple #[.int .i64 ((0 : Nat) : Int), .int .i64 ((0 : Nat) : Int), .int .i64 ((6 : Nat) : Int)] : Value) from rfl) (show _ = some (.int .i64 ((6 : Nat) : Int) : Value) from rfl) ?_)    -- ref.go:81 t44 := (Op.extract (Operand.tmp 38) 2)
            refine opsF_step rfl (YieldsK.assign (show _ = (.int .i64 ((0 : Nat) : Int) : Value) from rfl) ?_)    -- ref.go:81 t11 := (Op.assign (Operand.tmp 42))
            refine opsF_step rfl (YieldsK.assign (show _ = (.int .i64 ((0 : Nat) : Int) : Value) from rfl) ?_)    -- ref.go:81 t12 := (Op.assign (Operand.tmp 43))
            refine opsF_step rfl (YieldsK.assign (show _ = (.int .i64 ((6 : Nat) : Int) : Value) from rfl) ?_)    -- ref.go:81 t13 := (Op.assign (Operand.tmp 44))
            refine opsF_end (fun ρ => ρ 0 = (vb : Value) ∧ ρ 1 = (v : Value) ∧ ρ 6 = (.int .i64 ((sa : Nat) : Int) : Value) ∧ ρ 7 = (.int .i64 ((sb : Nat) : Int) : Value) ∧ ρ 8 = (.int .i64 ((i : Nat) : Int) : Value) ∧ ρ 9 = (.int .i64 ((0 : Nat) : Int) : Value) ∧ ρ 10 = (vo : Value) ∧ ρ 11 = (.int .i64 ((0 : Nat) : Int) : Value) ∧ ρ 12 = (.int .i64 ((0 : Nat) : Int) : Value) ∧ ρ 13 = (.int .i64 ((6 : Nat) : Int) : Value) ∧ ρ 26 = (.bool (false) : Value) ∧ True) ⟨T0, T1, T6, T7, T8, T9, T10, rfl, rfl, rfl, T26, trivial⟩ fun ρ40 ⟨T0, T1, T6, T7, T8, T9, T10, T11, T12, T13, T26, _⟩ => ?_
            refine thenF_normal (hK37 _ _ ?_)
            refine wpF_seq_k fun K41 hK41 => ?_
            refine wpF_text ?_
            refine opsF_step rfl (YieldsK.move (show _ = (.int .i64 ((0 : Nat) : Int) : Value) from T11) ?_)    -- ref.go:82 t45 := (Op.move (Operand.tmp 11))
            refine opsF_step rfl (YieldsK.bin (xv := .int .i64 ((0 : Nat) : Int)) (yv := .int .i64 ((2 : Nat) : Int)) (show _ = (.int .i64 ((0 : Nat) : Int) : Value) from rfl) (show _ = (.int .i64 ((2 : Nat) : Int) : Value) from rfl) rfl (i64_quo _ (0) (2) (by omega) (by omega)) ?_)    -- ref.go:82 t46 := (Op.binOp BinOp.quo 3 (Operand.tmp 45) (Operand.const (Value.int IntKind.i64 2)) 3)
            refine opsF_step rfl (YieldsK.assign (show _ = (.int .i64 (((0) / (2) : Nat) : Int) : Value) from rfl) ?_)    -- ref.go:82 t14 := (Op.assign (Operand.tmp 46))
            refine opsF_end (fun ρ => ρ 0 = (vb : Value) ∧ ρ 1 = (v : Value) ∧ ρ 6 = (.int .i64 ((sa : Nat) : Int) : Value) ∧ ρ 7 = (.int .i64 ((sb : Nat) : Int) : Value) ∧ ρ 8 = (.int .i64 ((i : Nat) : Int) : Value) ∧ ρ 9 = (.int .i64 ((0 : Nat) : Int) : Value) ∧ ρ 10 = (vo : Value) ∧ ρ 11 = (.int .i64 ((0 : Nat) : Int) : Value) ∧ ρ 12 = (.int .i64 ((0 : Nat) : Int) : Value) ∧ ρ 13 = (.int .i64 ((6 : Nat) : Int) : Value) ∧ ρ 14 = (.int .i64 (((0) / (2) : Nat) : Int) : Value) ∧ ρ 26 = (.bool (false) : Value) ∧ True) ⟨T0, T1, T6, T7, T8, T9, T10, T11, T12, T13, rfl, T26, trivial⟩ fun ρ42 ⟨T0, T1, T6, T7, T8, T9, T10, T11, T12, T13, T14, T26, _⟩ => ?_
            refine thenF_normal (hK41 _ _ ?_)
            refine wpF_seq_k fun K43 hK43 => ?_
            refine wpF_seq_k fun K44 hK44 => ?_
            refine wpF_text ?_
            refine opsF_step rfl (YieldsK.move (show _ = (.int .i64 ((6 : Nat) : Int) : Value) from T13) ?_)    -- ref.go:83 t47 := (Op.move (Operand.tmp 13))
            refine opsF_step rfl (YieldsK.eqI (a := ((6 : Nat) : Int)) (b := ((0 : Nat) : Int)) (show _ = (.int .i64 ((6 : Nat) : Int) : Value) from rfl) (show _ = (.int .i64 ((0 : Nat) : Int) : Value) from rfl) (k_neq _ .i64 (6) (0)) ?_)    -- ref.go:83 t48 := (Op.binOp BinOp.neq 3 (Operand.tmp 47) (Operand.const (Value.int IntKind.i64 0)) 3)
            refine opsF_step rfl (YieldsK.move (show _ = (.bool (true) : Value) from (congrArg Value.bool (decide_eq_true (by decide)))) ?_)    -- ref.go:83 t49 := (Op.move (Operand.tmp 48))
            refine opsF_off (d := 49) rfl rfl rfl (show _ = (.bool (true) : Value) from rfl) rfl ?_    -- ref.go:83 t50 := (Op.move (Operand.tmp 14))
            refine opsF_off (d := 49) rfl rfl rfl (show _ = (.bool (true) : Value) from rfl) rfl ?_    -- ref.go:83 t51 := (Op.binOp BinOp.lss 3 (Operand.tmp 50) (Operand.const (Value.int IntKind.i64 1)) 3)
            refine opsF_step rfl (YieldsK.pickT (show _ = (.bool (true) : Value) from rfl) (show _ = (.bool (true) : Value) from rfl) ?_)    -- ref.go:83 t52 := (Op.pick (Operand.tmp 49) (Operand.const (Value.bool true)) (Operand.tmp 51))
            refine opsF_step rfl (YieldsK.move (show _ = (.bool (true) : Value) from rfl) ?_)    -- ref.go:83 t53 := (Op.move (Operand.tmp 52))
            refine opsF_off (d := 53) rfl rfl rfl (show _ = (.bool (true) : Value) from rfl) rfl ?_    -- ref.go:83 t54 := (Op.move (Operand.tmp 14))
            refine opsF_off (d := 53) rfl rfl rfl (show _ = (.bool (true) : Value) from rfl) rfl ?_    -- ref.go:83 t55 := (Op.move (Operand.tmp 7))
            refine opsF_off (d := 53) rfl rfl rfl (show _ = (.bool (true) : Value) from rfl) rfl ?_    -- ref.go:83 t56 := (Op.move (Operand.tmp 10))
            refine opsF_off (d := 53) rfl rfl rfl (show _ = (.bool (true) : Value) from rfl) rfl ?_    -- ref.go:83 t57 := (Op.call { callee := (Callee.builtin Builtin.len), args := #[(Operand.tmp 56)], argTypes := #[22] })
            refine opsF_off (d := 53) rfl rfl rfl (show _ = (.bool (true) : Value) from rfl) rfl ?_    -- ref.go:83 t58 := (Op.binOp BinOp.sub 3 (Operand.tmp 55) (Operand.tmp 57) 3)
            refine opsF_off (d := 53) rfl rfl rfl (show _ = (.bool (true) : Value) from rfl) rfl ?_    -- ref.go:83 t59 := (Op.binOp BinOp.gtr 3 (Operand.tmp 54) (Operand.tmp 58) 3)
            refine opsF_step rfl (YieldsK.pickT (show _ = (.bool (true) : Value) from rfl) (show _ = (.bool (true) : Value) from rfl) ?_)    -- ref.go:83 t60 := (Op.pick (Operand.tmp 53) (Operand.const (Value.bool true)) (Operand.tmp 59))
            refine opsF_end (fun ρ => ρ 0 = (vb : Value) ∧ ρ 1 = (v : Value) ∧ ρ 6 = (.int .i64 ((sa : Nat) : Int) : Value) ∧ ρ 7 = (.int .i64 ((sb : Nat) : Int) : Value) ∧ ρ 8 = (.int .i64 ((i : Nat) : Int) : Value) ∧ ρ 9 = (.int .i64 ((0 : Nat) : Int) : Value) ∧ ρ 10 = (vo : Value) ∧ ρ 11 = (.int .i64 ((0 : Nat) : Int) : Value) ∧ ρ 12 = (.int .i64 ((0 : Nat) : Int) : Value) ∧ ρ 13 = (.int .i64 ((6 : Nat) : Int) : Value) ∧ ρ 14 = (.int .i64 (((0) / (2) : Nat) : Int) : Value) ∧ ρ 26 = (.bool (false) : Value) ∧ ρ 60 = (.bool (true) : Value) ∧ True) ⟨T0, T1, T6, T7, T8, T9, T10, T11, T12, T13, T14, T26, rfl, trivial⟩ fun ρ45 ⟨T0, T1, T6, T7, T8, T9, T10, T11, T12, T13, T14, T26, T60, _⟩ => ?_
            refine thenF_normal (hK44 _ _ ?_)
            refine wpF_true (show _ = (.bool (true) : Value) from T60) ?_
            refine wpF_seq_k fun K46 hK46 => ?_
            refine wpF_text ?_
            refine opsF_step rfl (YieldsK.assign (show _ = ((Value.slice none 0 0) : Value) from rfl) ?_)    -- ref.go:84 t4 := (Op.assign (Operand.const (Value.slice none 0 0)))
            refine opsF_step rfl (YieldsK.assign (show _ = (.int .i64 ((6 : Nat) : Int) : Value) from rfl) ?_)    -- ref.go:84 t5 := (Op.assign (Operand.const (Value.int IntKind.i64 6)))
            refine opsF_end (fun ρ => ρ 0 = (vb : Value) ∧ ρ 1 = (v : Value) ∧ ρ 4 = ((Value.slice none 0 0) : Value) ∧ ρ 5 = (.int .i64 ((6 : Nat) : Int) : Value) ∧ ρ 6 = (.int .i64 ((sa : Nat) : Int) : Value) ∧ ρ 7 = (.int .i64 ((sb : Nat) : Int) : Value) ∧ ρ 8 = (.int .i64 ((i : Nat) : Int) : Value) ∧ ρ 9 = (.int .i64 ((0 : Nat) : Int) : Value) ∧ ρ 10 = (vo : Value) ∧ ρ 11 = (.int .i64 ((0 : Nat) : Int) : Value) ∧ ρ 12 = (.int .i64 ((0 : Nat) : Int) : Value) ∧ ρ 13 = (.int .i64 ((6 : Nat) : Int) : Value) ∧ ρ 14 = (.int .i64 (((0) / (2) : Nat) : Int) : Value) ∧ ρ 26 = (.bool (false) : Value) ∧ ρ 60 = (.bool (true) : Value) ∧ True) ⟨T0, T1, rfl, rfl, T6, T7, T8, T9, T10, T11, T12, T13, T14, T26, T60, trivial⟩ fun ρ47 ⟨T0, T1, T4, T5, T6, T7, T8, T9, T10, T11, T12, T13, T14, T26, T60, _⟩ => ?_
            refine thenF_normal (hK46 _ _ ?_)
            refine wpF_ret (thenF_ret (inBlockF_ret (thenF_ret (inBlockF_ret (thenF_ret ?_)))))
            refine postF_ret (fn := Try.f13) _ rfl [(Value.slice none 0 0), .int .i64 ((6 : Nat) : Int)] (.tuple #[(Value.slice none 0 0), .int .i64 ((6 : Nat) : Int)]) rfl ⟨T4, T5, trivial⟩ ?_
            rw [hfail] at hgo
            have hP : applyP B D = ([], 6) := by rw [applyP, hsz]; simp only; rw [if_neg hc1, if_neg hc2, ← hgo]
            rw [hP]
            exact ⟨_, rfl, RB.nil _, hE⟩
          · have hqx := lebDec_bound (a := i) (by omega) hgx
            by_cases s1 : x / 2 < 1
            · have hfail : applyGo B D sb (f' + 1) i o = none := applyGo_fail hc3 (.inl (pieceP_small hgx s1))
              refine wpF_skip ?_
              refine thenF_normal (hK34 _ _ ?_)
              refine wpF_block ?_
              refine wpF_seq_k fun K48 hK48 => ?_
              refine wpF_text ?_
              refine opsF_step rfl (YieldsK.move (show _ = (v : Value) from T1) ?_)    -- ref.go:81 t39 := (Op.move (Operand.tmp 1))
              refine opsF_step rfl (YieldsK.move (show _ = (.int .i64 ((i : Nat) : Int) : Value) from T8) ?_)    -- ref.go:81 t40 := (Op.move (Operand.tmp 8))
              refine opsF_step rfl (YieldsK.callA2 del19_pl25 (show _ = (v : Value) from rfl) (show _ = (.int .i64 ((i : Nat) : Int) : Value) from rfl) ?_)    -- ref.go:81 t41 := (Op.call { callee := (Callee.value (Operand.func 25)), args := #[(Operand.tmp 39), (Operand.tmp 40)], argTypes
              refine (refGetYes _ v D (hr.keep hE) (i) (by omega) hlen x k hgx).mono ?_
              rintro e w50 ⟨rfl, hx49⟩
              refine ⟨_, rfl, ?_⟩
              have hE : Ext w w50 := (hE.trans hx49)
              have ho_vo : w50.ownsRow w.heap.size 5 1 vo o.length (Lib.byteCells (o)) := (Stab.own _ _ _ _ _ _ _ _ ho_vo hx49)
              refine opsF_step rfl (YieldsK.move (show _ = (.tuple #[.int .i64 ((x : Nat) : Int), .int .i64 (((i) + k : Nat) : Int), .int .i64 ((0 : Nat) : Int)] : Value) from rfl) ?_)    -- ref.go:81 t38 := (Op.move (Operand.tmp 41))
              refine opsF_step rfl (YieldsK.extract (vs := [.int .i64 ((x : Nat) : Int), .int .i64 (((i) + k : Nat) : Int), .int .i64 ((0 : Nat) : Int)]) (show _ = (.tuple #[.int .i64 ((x : Nat) : Int), .int .i64 (((i) + k : Nat) : Int), .int .i64 ((0 : Nat) : Int)] : Value) from rfl) (show _ = some (.int .i64 ((x : Nat) : Int) : Value) from rfl) ?_)    -- ref.go:81 t42 := (Op.extract (Operand.tmp 38) 0)
              refine opsF_step rfl (YieldsK.extract (vs := [.int .i64 ((x : Nat) : Int), .int .i64 (((i) + k : Nat) : Int), .int .i64 ((0 : Nat) : Int)]) (show _ = (.tuple #[.int .i64 ((x : Nat) : Int), .int .i64 (((i) + k : Nat) : Int), .int .i64 ((0 : Nat) : Int)] : Value) from rfl) (show _ = some (.int .i64 (((i) + k : Nat) : Int) : Value) from rfl) ?_)    -- ref.go:81 t43 := (Op.extract (Operand.tmp 38) 1)
              refine opsF_step rfl (YieldsK.extract (vs := [.int .i64 ((x : Nat) : Int), .int .i64 (((i) + k : Nat) : Int), .int .i64 ((0 : Nat) : Int)]) (show _ = (.tuple #[.int .i64 ((x : Nat) : Int), .int .i64 (((i) + k : Nat) : Int), .int .i64 ((0 : Nat) : Int)] : Value) from rfl) (show _ = some (.int .i64 ((0 : Nat) : Int) : Value) from rfl) ?_)    -- ref.go:81 t44 := (Op.extract (Operand.tmp 38) 2)
              refine opsF_step rfl (YieldsK.assign (show _ = (.int .i64 ((x : Nat) : Int) : Value) from rfl) ?_)    -- ref.go:81 t11 := (Op.assign (Operand.tmp 42))
              refine opsF_step rfl (YieldsK.assign (show _ = (.int .i64 (((i) + k : Nat) : Int) : Value) from rfl) ?_)    -- ref.go:81 t12 := (Op.assign (Operand.tmp 43))
              refine opsF_step rfl (YieldsK.assign (show _ = (.int .i64 ((0 : Nat) : Int) : Value) from rfl) ?_)    -- ref.go:81 t13 := (Op.assign (Operand.tmp 44))
              refine opsF_end (fun ρ => ρ 0 = (vb : Value) ∧ ρ 1 = (v : Value) ∧ ρ 6 = (.int .i64 ((sa : Nat) : Int) : Value) ∧ ρ 7 = (.int .i64 ((sb : Nat) : Int) : Value) ∧ ρ 8 = (.int .i64 ((i : Nat) : Int) : Value) ∧ ρ 9 = (.int .i64 ((0 : Nat) : Int) : Value) ∧ ρ 10 = (vo : Value) ∧ ρ 11 = (.int .i64 ((x : Nat) : Int) : Value) ∧ ρ 12 = (.int .i64 (((i) + k : Nat) : Int) : Value) ∧ ρ 13 = (.int .i64 ((0 : Nat) : Int) : Value) ∧ ρ 26 = (.bool (false) : Value) ∧ True) ⟨T0, T1, T6, T7, T8, T9, T10, rfl, rfl, rfl, T26, trivial⟩ fun ρ51 ⟨T0, T1, T6, T7, T8, T9, T10, T11, T12, T13, T26, _⟩ => ?_
              refine thenF_normal (hK48 _ _ ?_)
              refine wpF_seq_k fun K52 hK52 => ?_
              refine wpF_text ?_
              refine opsF_step rfl (YieldsK.move (show _ = (.int .i64 ((x : Nat) : Int) : Value) from T11) ?_)    -- ref.go:82 t45 := (Op.move (Operand.tmp 11))
              refine opsF_step rfl (YieldsK.bin (xv := .int .i64 ((x : Nat) : Int)) (yv := .int .i64 ((2 : Nat) : Int)) (show _ = (.int .i64 ((x : Nat) : Int) : Value) from rfl) (show _ = (.int .i64 ((2 : Nat) : Int) : Value) from rfl) rfl (i64_quo _ (x) (2) (by omega) (by omega)) ?_)    -- ref.go:82 t46 := (Op.binOp BinOp.quo 3 (Operand.tmp 45) (Operand.const (Value.int IntKind.i64 2)) 3)
              refine opsF_step rfl (YieldsK.assign (show _ = (.int .i64 (((x) / (2) : Nat) : Int) : Value) from rfl) ?_)    -- ref.go:82 t14 := (Op.assign (Operand.tmp 46))
              refine opsF_end (fun ρ => ρ 0 = (vb : Value) ∧ ρ 1 = (v : Value) ∧ ρ 6 = (.int .i64 ((sa : Nat) : Int) : Value) ∧ ρ 7 = (.int .i64 ((sb : Nat) : Int) : Value) ∧ ρ 8 = (.int .i64 ((i : Nat) : Int) : Value) ∧ ρ 9 = (.int .i64 ((0 : Nat) : Int) : Value) ∧ ρ 10 = (vo : Value) ∧ ρ 11 = (.int .i64 ((x : Nat) : Int) : Value) ∧ ρ 12 = (.int .i64 (((i) + k : Nat) : Int) : Value) ∧ ρ 13 = (.int .i64 ((0 : Nat) : Int) : Value) ∧ ρ 14 = (.int .i64 (((x) / (2) : Nat) : Int) : Value) ∧ ρ 26 = (.bool (false) : Value) ∧ True) ⟨T0, T1, T6, T7, T8, T9, T10, T11, T12, T13, rfl, T26, trivial⟩ fun ρ53 ⟨T0, T1, T6, T7, T8, T9, T10, T11, T12, T13, T14, T26, _⟩ => ?_
              refine thenF_normal (hK52 _ _ ?_)
              refine wpF_seq_k fun K54 hK54 => ?_
              refine wpF_seq_k fun K55 hK55 => ?_
              refine wpF_text ?_
              refine opsF_step rfl (YieldsK.move (show _ = (.int .i64 ((0 : Nat) : Int) : Value) from T13) ?_)    -- ref.go:83 t47 := (Op.move (Operand.tmp 13))
              refine opsF_step rfl (YieldsK.eqI (a := ((0 : Nat) : Int)) (b := ((0 : Nat) : Int)) (show _ = (.int .i64 ((0 : Nat) : Int) : Value) from rfl) (show _ = (.int .i64 ((0 : Nat) : Int) : Value) from rfl) (k_neq _ .i64 (0) (0)) ?_)    -- ref.go:83 t48 := (Op.binOp BinOp.neq 3 (Operand.tmp 47) (Operand.const (Value.int IntKind.i64 0)) 3)
              refine opsF_step rfl (YieldsK.move (show _ = (.bool (false) : Value) from (congrArg Value.bool (decide_eq_false (by decide)))) ?_)    -- ref.go:83 t49 := (Op.move (Operand.tmp 48))
              refine opsF_on (d := 49) rfl rfl (show _ = (.bool (false) : Value) from rfl) (YieldsK.move (show _ = (.int .i64 (((x) / (2) : Nat) : Int) : Value) from T14) ?_)    -- ref.go:83 t50 := (Op.move (Operand.tmp 14))
              refine opsF_on (d := 49) rfl rfl (show _ = (.bool (false) : Value) from rfl) (YieldsK.eqI (a := (((x) / (2) : Nat) : Int)) (b := ((1 : Nat) : Int)) (show _ = (.int .i64 (((x) / (2) : Nat) : Int) : Value) from rfl) (show _ = (.int .i64 ((1 : Nat) : Int) : Value) from rfl) (k_lss _ .i64 ((x) / (2)) (1)) ?_)    -- ref.go:83 t51 := (Op.binOp BinOp.lss 3 (Operand.tmp 50) (Operand.const (Value.int IntKind.i64 1)) 3)
              refine opsF_step rfl (YieldsK.pickF (show _ = (.bool (false) : Value) from rfl) (show _ = (.bool (true) : Value) from (congrArg Value.bool (decide_eq_true (s1)))) ?_)    -- ref.go:83 t52 := (Op.pick (Operand.tmp 49) (Operand.const (Value.bool true)) (Operand.tmp 51))
              refine opsF_step rfl (YieldsK.move (show _ = (.bool (true) : Value) from rfl) ?_)    -- ref.go:83 t53 := (Op.move (Operand.tmp 52))
              refine opsF_off (d := 53) rfl rfl rfl (show _ = (.bool (true) : Value) from rfl) rfl ?_    -- ref.go:83 t54 := (Op.move (Operand.tmp 14))
              refine opsF_off (d := 53) rfl rfl rfl (show _ = (.bool (true) : Value) from rfl) rfl ?_    -- ref.go:83 t55 := (Op.move (Operand.tmp 7))
              refine opsF_off (d := 53) rfl rfl rfl (show _ = (.bool (true) : Value) from rfl) rfl ?_    -- ref.go:83 t56 := (Op.move (Operand.tmp 10))
              refine opsF_off (d := 53) rfl rfl rfl (show _ = (.bool (true) : Value) from rfl) rfl ?_    -- ref.go:83 t57 := (Op.call { callee := (Callee.builtin Builtin.len), args := #[(Operand.tmp 56)], argTypes := #[22] })
              refine opsF_off (d := 53) rfl rfl rfl (show _ = (.bool (true) : Value) from rfl) rfl ?_    -- ref.go:83 t58 := (Op.binOp BinOp.sub 3 (Operand.tmp 55) (Operand.tmp 57) 3)
              refine opsF_off (d := 53) rfl rfl rfl (show _ = (.bool (true) : Value) from rfl) rfl ?_    -- ref.go:83 t59 := (Op.binOp BinOp.gtr 3 (Operand.tmp 54) (Operand.tmp 58) 3)
              refine opsF_step rfl (YieldsK.pickT (show _ = (.bool (true) : Value) from rfl) (show _ = (.bool (true) : Value) from rfl) ?_)    -- ref.go:83 t60 := (Op.pick (Operand.tmp 53) (Operand.const (Value.bool true)) (Operand.tmp 59))
              refine opsF_end (fun ρ => ρ 0 = (vb : Value) ∧ ρ 1 = (v : Value) ∧ ρ 6 = (.int .i64 ((sa : Nat) : Int) : Value) ∧ ρ 7 = (.int .i64 ((sb : Nat) : Int) : Value) ∧ ρ 8 = (.int .i64 ((i : Nat) : Int) : Value) ∧ ρ 9 = (.int .i64 ((0 : Nat) : Int) : Value) ∧ ρ 10 = (vo : Value) ∧ ρ 11 = (.int .i64 ((x : Nat) : Int) : Value) ∧ ρ 12 = (.int .i64 (((i) + k : Nat) : Int) : Value) ∧ ρ 13 = (.int .i64 ((0 : Nat) : Int) : Value) ∧ ρ 14 = (.int .i64 (((x) / (2) : Nat) : Int) : Value) ∧ ρ 26 = (.bool (false) : Value) ∧ ρ 60 = (.bool (true) : Value) ∧ True) ⟨T0, T1, T6, T7, T8, T9, T10, T11, T12, T13, T14, T26, rfl, trivial⟩ fun ρ56 ⟨T0, T1, T6, T7, T8, T9, T10, T11, T12, T13, T14, T26, T60, _⟩ => ?_
              refine thenF_normal (hK55 _ _ ?_)
              refine wpF_true (show _ = (.bool (true) : Value) from T60) ?_
              refine wpF_seq_k fun K57 hK57 => ?_
              refine wpF_text ?_
              refine opsF_step rfl (YieldsK.assign (show _ = ((Value.slice none 0 0) : Value) from rfl) ?_)    -- ref.go:84 t4 := (Op.assign (Operand.const (Value.slice none 0 0)))
              refine opsF_step rfl (YieldsK.assign (show _ = (.int .i64 ((6 : Nat) : Int) : Value) from rfl) ?_)    -- ref.go:84 t5 := (Op.assign (Operand.const (Value.int IntKind.i64 6)))
              refine opsF_end (fun ρ => ρ 0 = (vb : Value) ∧ ρ 1 = (v : Value) ∧ ρ 4 = ((Value.slice none 0 0) : Value) ∧ ρ 5 = (.int .i64 ((6 : Nat) : Int) : Value) ∧ ρ 6 = (.int .i64 ((sa : Nat) : Int) : Value) ∧ ρ 7 = (.int .i64 ((sb : Nat) : Int) : Value) ∧ ρ 8 = (.int .i64 ((i : Nat) : Int) : Value) ∧ ρ 9 = (.int .i64 ((0 : Nat) : Int) : Value) ∧ ρ 10 = (vo : Value) ∧ ρ 11 = (.int .i64 ((x : Nat) : Int) : Value) ∧ ρ 12 = (.int .i64 (((i) + k : Nat) : Int) : Value) ∧ ρ 13 = (.int .i64 ((0 : Nat) : Int) : Value) ∧ ρ 14 = (.int .i64 (((x) / (2) : Nat) : Int) : Value) ∧ ρ 26 = (.bool (false) : Value) ∧ ρ 60 = (.bool (true) : Value) ∧ True) ⟨T0, T1, rfl, rfl, T6, T7, T8, T9, T10, T11, T12, T13, T14, T26, T60, trivial⟩ fun ρ58 ⟨T0, T1, T4, T5, T6, T7, T8, T9, T10, T11, T12, T13, T14, T26, T60, _⟩ => ?_
              refine thenF_normal (hK57 _ _ ?_)
              refine wpF_ret (thenF_ret (inBlockF_ret (thenF_ret (inBlockF_ret (thenF_ret ?_)))))
              refine postF_ret (fn := Try.f13) _ rfl [(Value.slice none 0 0), .int .i64 ((6 : Nat) : Int)] (.tuple #[(Value.slice none 0 0), .int .i64 ((6 : Nat) : Int)]) rfl ⟨T4, T5, trivial⟩ ?_
              rw [hfail] at hgo
              have hP : applyP B D = ([], 6) := by rw [applyP, hsz]; simp only; rw [if_neg hc1, if_neg hc2, ← hgo]
              rw [hP]
              exact ⟨_, rfl, RB.nil _, hE⟩
            · by_cases s2 : sb - o.length < x / 2
              · have hfail : applyGo B D sb (f' + 1) i o = none := applyGo_fail hc3 (pieceP_over hgx s2)
                refine wpF_skip ?_
                refine thenF_normal (hK34 _ _ ?_)
                refine wpF_block ?_
                refine wpF_seq_k fun K59 hK59 => ?_
                refine wpF_text ?_
                refine opsF_step rfl (YieldsK.move (show _ = (v : Value) from T1) ?_)    -- ref.go:81 t39 := (Op.move (Operand.tmp 1))
                refine opsF_step rfl (YieldsK.move (show _ = (.int .i64 ((i : Nat) : Int) : Value) from T8) ?_)    -- ref.go:81 t40 := (Op.move (Operand.tmp 8))
                refine opsF_step rfl (YieldsK.callA2 del19_pl25 (show _ = (v : Value) from rfl) (show _ = (.int .i64 ((i : Nat) : Int) : Value) from rfl) ?_)    -- ref.go:81 t41 := (Op.call { callee := (Callee.value (Operand.func 25)), args := #[(Operand.tmp 39), (Operand.tmp 40)], argTypes
                refine (refGetYes _ v D (hr.keep hE) (i) (by omega) hlen x k hgx).mono ?_
                rintro e w61 ⟨rfl, hx60⟩
                refine ⟨_, rfl, ?_⟩
                have hE : Ext w w61 := (hE.trans hx60)
                have ho_vo : w61.ownsRow w.heap.size 5 1 vo o.length (Lib.byteCells (o)) := (Stab.own _ _ _ _ _ _ _ _ ho_vo hx60)
                refine opsF_step rfl (YieldsK.move (show _ = (.tuple #[.int .i64 ((x : Nat) : Int), .int .i64 (((i) + k : Nat) : Int), .int .i64 ((0 : Nat) : Int)] : Value) from rfl) ?_)    -- ref.go:81 t38 := (Op.move (Operand.tmp 41))
                refine opsF_step rfl (YieldsK.extract (vs := [.int .i64 ((x : Nat) : Int), .int .i64 (((i) + k : Nat) : Int), .int .i64 ((0 : Nat) : Int)]) (show _ = (.tuple #[.int .i64 ((x : Nat) : Int), .int .i64 (((i) + k : Nat) : Int), .int .i64 ((0 : Nat) : Int)] : Value) from rfl) (show _ = some (.int .i64 ((x : Nat) : Int) : Value) from rfl) ?_)    -- ref.go:81 t42 := (Op.extract (Operand.tmp 38) 0)
                refine opsF_step rfl (YieldsK.extract (vs := [.int .i64 ((x : Nat) : Int), .int .i64 (((i) + k : Nat) : Int), .int .i64 ((0 : Nat) : Int)]) (show _ = (.tuple #[.int .i64 ((x : Nat) : Int), .int .i64 (((i) + k : Nat) : Int), .int .i64 ((0 : Nat) : Int)] : Value) from rfl) (show _ = some (.int .i64 (((i) + k : Nat) : Int) : Value) from rfl) ?_)    -- ref.go:81 t43 := (Op.extract (Operand.tmp 38) 1)
                refine opsF_step rfl (YieldsK.extract (vs := [.int .i64 ((x : Nat) : Int), .int .i64 (((i) + k : Nat) : Int), .int .i64 ((0 : Nat) : Int)]) (show _ = (.tuple #[.int .i64 ((x : Nat) : Int), .int .i64 (((i) + k : Nat) : Int), .int .i64 ((0 : Nat) : Int)] : Value) from rfl) (show _ = some (.int .i64 ((0 : Nat) : Int) : Value) from rfl) ?_)    -- ref.go:81 t44 := (Op.extract (Operand.tmp 38) 2)
                refine opsF_step rfl (YieldsK.assign (show _ = (.int .i64 ((x : Nat) : Int) : Value) from rfl) ?_)    -- ref.go:81 t11 := (Op.assign (Operand.tmp 42))
                refine opsF_step rfl (YieldsK.assign (show _ = (.int .i64 (((i) + k : Nat) : Int) : Value) from rfl) ?_)    -- ref.go:81 t12 := (Op.assign (Operand.tmp 43))
                refine opsF_step rfl (YieldsK.assign (show _ = (.int .i64 ((0 : Nat) : Int) : Value) from rfl) ?_)    -- ref.go:81 t13 := (Op.assign (Operand.tmp 44))
                refine opsF_end (fun ρ => ρ 0 = (vb : Value) ∧ ρ 1 = (v : Value) ∧ ρ 6 = (.int .i64 ((sa : Nat) : Int) : Value) ∧ ρ 7 = (.int .i64 ((sb : Nat) : Int) : Value) ∧ ρ 8 = (.int .i64 ((i : Nat) : Int) : Value) ∧ ρ 9 = (.int .i64 ((0 : Nat) : Int) : Value) ∧ ρ 10 = (vo : Value) ∧ ρ 11 = (.int .i64 ((x : Nat) : Int) : Value) ∧ ρ 12 = (.int .i64 (((i) + k : Nat) : Int) : Value) ∧ ρ 13 = (.int .i64 ((0 : Nat) : Int) : Value) ∧ ρ 26 = (.bool (false) : Value) ∧ True) ⟨T0, T1, T6, T7, T8, T9, T10, rfl, rfl, rfl, T26, trivial⟩ fun ρ62 ⟨T0, T1, T6, T7, T8, T9, T10, T11, T12, T13, T26, _⟩ => ?_
                refine thenF_normal (hK59 _ _ ?_)
                refine wpF_seq_k fun K63 hK63 => ?_
                refine wpF_text ?_
                refine opsF_step rfl (YieldsK.move (show _ = (.int .i64 ((x : Nat) : Int) : Value) from T11) ?_)    -- ref.go:82 t45 := (Op.move (Operand.tmp 11))
                refine opsF_step rfl (YieldsK.bin (xv := .int .i64 ((x : Nat) : Int)) (yv := .int .i64 ((2 : Nat) : Int)) (show _ = (.int .i64 ((x : Nat) : Int) : Value) from rfl) (show _ = (.int .i64 ((2 : Nat) : Int) : Value) from rfl) rfl (i64_quo _ (x) (2) (by omega) (by omega)) ?_)    -- ref.go:82 t46 := (Op.binOp BinOp.quo 3 (Operand.tmp 45) (Operand.const (Value.int IntKind.i64 2)) 3)
                refine opsF_step rfl (YieldsK.assign (show _ = (.int .i64 (((x) / (2) : Nat) : Int) : Value) from rfl) ?_)    -- ref.go:82 t14 := (Op.assign (Operand.tmp 46))
                refine opsF_end (fun ρ => ρ 0 = (vb : Value) ∧ ρ 1 = (v : Value) ∧ ρ 6 = (.int .i64 ((sa : Nat) : Int) : Value) ∧ ρ 7 = (.int .i64 ((sb : Nat) : Int) : Value) ∧ ρ 8 = (.int .i64 ((i : Nat) : Int) : Value) ∧ ρ 9 = (.int .i64 ((0 : Nat) : Int) : Value) ∧ ρ 10 = (vo : Value) ∧ ρ 11 = (.int .i64 ((x : Nat) : Int) : Value) ∧ ρ 12 = (.int .i64 (((i) + k : Nat) : Int) : Value) ∧ ρ 13 = (.int .i64 ((0 : Nat) : Int) : Value) ∧ ρ 14 = (.int .i64 (((x) / (2) : Nat) : Int) : Value) ∧ ρ 26 = (.bool (false) : Value) ∧ True) ⟨T0, T1, T6, T7, T8, T9, T10, T11, T12, T13, rfl, T26, trivial⟩ fun ρ64 ⟨T0, T1, T6, T7, T8, T9, T10, T11, T12, T13, T14, T26, _⟩ => ?_
                refine thenF_normal (hK63 _ _ ?_)
                refine wpF_seq_k fun K65 hK65 => ?_
                refine wpF_seq_k fun K66 hK66 => ?_
                refine wpF_text ?_
                refine opsF_step rfl (YieldsK.move (show _ = (.int .i64 ((0 : Nat) : Int) : Value) from T13) ?_)    -- ref.go:83 t47 := (Op.move (Operand.tmp 13))
                refine opsF_step rfl (YieldsK.eqI (a := ((0 : Nat) : Int)) (b := ((0 : Nat) : Int)) (show _ = (.int .i64 ((0 : Nat) : Int) : Value) from rfl) (show _ = (.int .i64 ((0 : Nat) : Int) : Value) from rfl) (k_neq _ .i64 (0) (0)) ?_)    -- ref.go:83 t48 := (Op.binOp BinOp.neq 3 (Operand.tmp 47) (Operand.const (Value.int IntKind.i64 0)) 3)
                refine opsF_step rfl (YieldsK.move (show _ = (.bool (false) : Value) from (congrArg Value.bool (decide_eq_false (by decide)))) ?_)    -- ref.go:83 t49 := (Op.move (Operand.tmp 48))
                refine opsF_on (d := 49) rfl rfl (show _ = (.bool (false) : Value) from rfl) (YieldsK.move (show _ = (.int .i64 (((x) / (2) : Nat) : Int) : Value) from T14) ?_)    -- ref.go:83 t50 := (Op.move (Operand.tmp 14))
                refine opsF_on (d := 49) rfl rfl (show _ = (.bool (false) : Value) from rfl) (YieldsK.eqI (a := (((x) / (2) : Nat) : Int)) (b := ((1 : Nat) : Int)) (show _ = (.int .i64 (((x) / (2) : Nat) : Int) : Value) from rfl) (show _ = (.int .i64 ((1 : Nat) : Int) : Value) from rfl) (k_lss _ .i64 ((x) / (2)) (1)) ?_)    -- ref.go:83 t51 := (Op.binOp BinOp.lss 3 (Operand.tmp 50) (Operand.const (Value.int IntKind.i64 1)) 3)
                refine opsF_step rfl (YieldsK.pickF (show _ = (.bool (false) : Value) from rfl) (show _ = (.bool (false) : Value) from (congrArg Value.bool (decide_eq_false (s1)))) ?_)    -- ref.go:83 t52 := (Op.pick (Operand.tmp 49) (Operand.const (Value.bool true)) (Operand.tmp 51))
                refine opsF_step rfl (YieldsK.move (show _ = (.bool (false) : Value) from rfl) ?_)    -- ref.go:83 t53 := (Op.move (Operand.tmp 52))
                refine opsF_on (d := 53) rfl rfl (show _ = (.bool (false) : Value) from rfl) (YieldsK.move (show _ = (.int .i64 (((x) / (2) : Nat) : Int) : Value) from T14) ?_)    -- ref.go:83 t54 := (Op.move (Operand.tmp 14))
                refine opsF_on (d := 53) rfl rfl (show _ = (.bool (false) : Value) from rfl) (YieldsK.move (show _ = (.int .i64 ((sb : Nat) : Int) : Value) from T7) ?_)    -- ref.go:83 t55 := (Op.move (Operand.tmp 7))
                refine opsF_on (d := 53) rfl rfl (show _ = (.bool (false) : Value) from rfl) (YieldsK.move (show _ = (vo : Value) from T10) ?_)    -- ref.go:83 t56 := (Op.move (Operand.tmp 10))
                refine opsF_on (d := 53) rfl rfl (show _ = (.bool (false) : Value) from rfl) (YieldsK.lenRB del19_ty22 (RB.of (RB.ofOwn ho_vo) (show _ = (vo : Value) from rfl)) ?_)    -- ref.go:83 t57 := (Op.call { callee := (Callee.builtin Builtin.len), args := #[(Operand.tmp 56)], argTypes := #[22] })
                refine opsF_on (d := 53) rfl rfl (show _ = (.bool (false) : Value) from rfl) (YieldsK.bin (xv := .int .i64 ((sb : Nat) : Int)) (yv := .int .i64 ((o.length : Nat) : Int)) (show _ = (.int .i64 ((sb : Nat) : Int) : Value) from rfl) (show _ = (.int .i64 ((o.length : Nat) : Int) : Value) from rfl) rfl (i64_sub _ (sb) (o.length) (by omega) (by omega)) ?_)    -- ref.go:83 t58 := (Op.binOp BinOp.sub 3 (Operand.tmp 55) (Operand.tmp 57) 3)
                refine opsF_on (d := 53) rfl rfl (show _ = (.bool (false) : Value) from rfl) (YieldsK.eqI (a := (((x) / (2) : Nat) : Int)) (b := (((sb) - (o.length) : Nat) : Int)) (show _ = (.int .i64 (((x) / (2) : Nat) : Int) : Value) from rfl) (show _ = (.int .i64 (((sb) - (o.length) : Nat) : Int) : Value) from rfl) (k_gtr _ .i64 ((x) / (2)) ((sb) - (o.length))) ?_)    -- ref.go:83 t59 := (Op.binOp BinOp.gtr 3 (Operand.tmp 54) (Operand.tmp 58) 3)
                refine opsF_step rfl (YieldsK.pickF (show _ = (.bool (false) : Value) from rfl) (show _ = (.bool (true) : Value) from (congrArg Value.bool (decide_eq_true (s2)))) ?_)    -- ref.go:83 t60 := (Op.pick (Operand.tmp 53) (Operand.const (Value.bool true)) (Operand.tmp 59))
                refine opsF_end (fun ρ => ρ 0 = (vb : Value) ∧ ρ 1 = (v : Value) ∧ ρ 6 = (.int .i64 ((sa : Nat) : Int) : Value) ∧ ρ 7 = (.int .i64 ((sb : Nat) : Int) : Value) ∧ ρ 8 = (.int .i64 ((i : Nat) : Int) : Value) ∧ ρ 9 = (.int .i64 ((0 : Nat) : Int) : Value) ∧ ρ 10 = (vo : Value) ∧ ρ 11 = (.int .i64 ((x : Nat) : Int) : Value) ∧ ρ 12 = (.int .i64 (((i) + k : Nat) : Int) : Value) ∧ ρ 13 = (.int .i64 ((0 : Nat) : Int) : Value) ∧ ρ 14 = (.int .i64 (((x) / (2) : Nat) : Int) : Value) ∧ ρ 26 = (.bool (false) : Value) ∧ ρ 60 = (.bool (true) : Value) ∧ True) ⟨T0, T1, T6, T7, T8, T9, T10, T11, T12, T13, T14, T26, rfl, trivial⟩ fun ρ67 ⟨T0, T1, T6, T7, T8, T9, T10, T11, T12, T13, T14, T26, T60, _⟩ => ?_
                refine thenF_normal (hK66 _ _ ?_)
                refine wpF_true (show _ = (.bool (true) : Value) from T60) ?_
                refine wpF_seq_k fun K68 hK68 => ?_
                refine wpF_text ?_
                refine opsF_step rfl (YieldsK.assign (show _ = ((Value.slice none 0 0) : Value) from rfl) ?_)    -- ref.go:84 t4 := (Op.assign (Operand.const (Value.slice none 0 0)))
                refine opsF_step rfl (YieldsK.assign (show _ = (.int .i64 ((6 : Nat) : Int) : Value) from rfl) ?_)    -- ref.go:84 t5 := (Op.assign (Operand.const (Value.int IntKind.i64 6)))
                refine opsF_end (fun ρ => ρ 0 = (vb : Value) ∧ ρ 1 = (v : Value) ∧ ρ 4 = ((Value.slice none 0 0) : Value) ∧ ρ 5 = (.int .i64 ((6 : Nat) : Int) : Value) ∧ ρ 6 = (.int .i64 ((sa : Nat) : Int) : Value) ∧ ρ 7 = (.int .i64 ((sb : Nat) : Int) : Value) ∧ ρ 8 = (.int .i64 ((i : Nat) : Int) : Value) ∧ ρ 9 = (.int .i64 ((0 : Nat) : Int) : Value) ∧ ρ 10 = (vo : Value) ∧ ρ 11 = (.int .i64 ((x : Nat) : Int) : Value) ∧ ρ 12 = (.int .i64 (((i) + k : Nat) : Int) : Value) ∧ ρ 13 = (.int .i64 ((0 : Nat) : Int) : Value) ∧ ρ 14 = (.int .i64 (((x) / (2) : Nat) : Int) : Value) ∧ ρ 26 = (.bool (false) : Value) ∧ ρ 60 = (.bool (true) : Value) ∧ True) ⟨T0, T1, rfl, rfl, T6, T7, T8, T9, T10, T11, T12, T13, T14, T26, T60, trivial⟩ fun ρ69 ⟨T0, T1, T4, T5, T6, T7, T8, T9, T10, T11, T12, T13, T14, T26, T60, _⟩ => ?_
                refine thenF_normal (hK68 _ _ ?_)
                refine wpF_ret (thenF_ret (inBlockF_ret (thenF_ret (inBlockF_ret (thenF_ret ?_)))))
                refine postF_ret (fn := Try.f13) _ rfl [(Value.slice none 0 0), .int .i64 ((6 : Nat) : Int)] (.tuple #[(Value.slice none 0 0), .int .i64 ((6 : Nat) : Int)]) rfl ⟨T4, T5, trivial⟩ ?_
                rw [hfail] at hgo
                have hP : applyP B D = ([], 6) := by rw [applyP, hsz]; simp only; rw [if_neg hc1, if_neg hc2, ← hgo]
                rw [hP]
                exact ⟨_, rfl, RB.nil _, hE⟩
              · by_cases he : x % 2 = 0
                · by_cases e1 : D.length - (i + k) < x / 2
                  · have hfail : applyGo B D sb (f' + 1) i o = none := applyGo_fail hc3 (.inl (by rw [pieceP, hgx]; simp only; rw [if_neg (by omega), cutP, if_pos (by omega)]))
                    refine wpF_skip ?_
                    refine thenF_normal (hK34 _ _ ?_)
                    refine wpF_block ?_
                    refine wpF_seq_k fun K70 hK70 => ?_
                    refine wpF_text ?_
                    refine opsF_step rfl (YieldsK.move (show _ = (v : Value) from T1) ?_)    -- ref.go:81 t39 := (Op.move (Operand.tmp 1))
                    refine opsF_step rfl (YieldsK.move (show _ = (.int .i64 ((i : Nat) : Int) : Value) from T8) ?_)    -- ref.go:81 t40 := (Op.move (Operand.tmp 8))
                    refine opsF_step rfl (YieldsK.callA2 del19_pl25 (show _ = (v : Value) from rfl) (show _ = (.int .i64 ((i : Nat) : Int) : Value) from rfl) ?_)    -- ref.go:81 t41 := (Op.call { callee := (Callee.value (Operand.func 25)), args := #[(Operand.tmp 39), (Operand.tmp 40)], argTypes
                    refine (refGetYes _ v D (hr.keep hE) (i) (by omega) hlen x k hgx).mono ?_
                    rintro e w72 ⟨rfl, hx71⟩
                    refine ⟨_, rfl, ?_⟩
                    have hE : Ext w w72 := (hE.trans hx71)
                    have ho_vo : w72.ownsRow w.heap.size 5 1 vo o.length (Lib.byteCells (o)) := (Stab.own _ _ _ _ _ _ _ _ ho_vo hx71)
                    refine opsF_step rfl (YieldsK.move (show _ = (.tuple #[.int .i64 ((x : Nat) : Int), .int .i64 (((i) + k : Nat) : Int), .int .i64 ((0 : Nat) : Int)] : Value) from rfl) ?_)    -- ref.go:81 t38 := (Op.move (Operand.tmp 41))
                    refine opsF_step rfl (YieldsK.extract (vs := [.int .i64 ((x : Nat) : Int), .int .i64 (((i) + k : Nat) : Int), .int .i64 ((0 : Nat) : Int)]) (show _ = (.tuple #[.int .i64 ((x : Nat) : Int), .int .i64 (((i) + k : Nat) : Int), .int .i64 ((0 : Nat) : Int)] : Value) from rfl) (show _ = some (.int .i64 ((x : Nat) : Int) : Value) from rfl) ?_)    -- ref.go:81 t42 := (Op.extract (Operand.tmp 38) 0)
                    refine opsF_step rfl (YieldsK.extract (vs := [.int .i64 ((x : Nat) : Int), .int .i64 (((i) + k : Nat) : Int), .int .i64 ((0 : Nat) : Int)]) (show _ = (.tuple #[.int .i64 ((x : Nat) : Int), .int .i64 (((i) + k : Nat) : Int), .int .i64 ((0 : Nat) : Int)] : Value) from rfl) (show _ = some (.int .i64 (((i) + k : Nat) : Int) : Value) from rfl) ?_)    -- ref.go:81 t43 := (Op.extract (Operand.tmp 38) 1)
                    refine opsF_step rfl (YieldsK.extract (vs := [.int .i64 ((x : Nat) : Int), .int .i64 (((i) + k : Nat) : Int), .int .i64 ((0 : Nat) : Int)]) (show _ = (.tuple #[.int .i64 ((x : Nat) : Int), .int .i64 (((i) + k : Nat) : Int), .int .i64 ((0 : Nat) : Int)] : Value) from rfl) (show _ = some (.int .i64 ((0 : Nat) : Int) : Value) from rfl) ?_)    -- ref.go:81 t44 := (Op.extract (Operand.tmp 38) 2)
                    refine opsF_step rfl (YieldsK.assign (show _ = (.int .i64 ((x : Nat) : Int) : Value) from rfl) ?_)    -- ref.go:81 t11 := (Op.assign (Operand.tmp 42))
                    refine opsF_step rfl (YieldsK.assign (show _ = (.int .i64 (((i) + k : Nat) : Int) : Value) from rfl) ?_)    -- ref.go:81 t12 := (Op.assign (Operand.tmp 43))
                    refine opsF_step rfl (YieldsK.assign (show _ = (.int .i64 ((0 : Nat) : Int) : Value) from rfl) ?_)    -- ref.go:81 t13 := (Op.assign (Operand.tmp 44))
                    refine opsF_end (fun ρ => ρ 0 = (vb : Value) ∧ ρ 1 = (v : Value) ∧ ρ 6 = (.int .i64 ((sa : Nat) : Int) : Value) ∧ ρ 7 = (.int .i64 ((sb : Nat) : Int) : Value) ∧ ρ 8 = (.int .i64 ((i : Nat) : Int) : Value) ∧ ρ 9 = (.int .i64 ((0 : Nat) : Int) : Value) ∧ ρ 10 = (vo : Value) ∧ ρ 11 = (.int .i64 ((x : Nat) : Int) : Value) ∧ ρ 12 = (.int .i64 (((i) + k : Nat) : Int) : Value) ∧ ρ 13 = (.int .i64 ((0 : Nat) : Int) : Value) ∧ ρ 26 = (.bool (false) : Value) ∧ True) ⟨T0, T1, T6, T7, T8, T9, T10, rfl, rfl, rfl, T26, trivial⟩ fun ρ73 ⟨T0, T1, T6, T7, T8, T9, T10, T11, T12, T13, T26, _⟩ => ?_
                    refine thenF_normal (hK70 _ _ ?_)
                    refine wpF_seq_k fun K74 hK74 => ?_
                    refine wpF_text ?_
                    refine opsF_step rfl (YieldsK.move (show _ = (.int .i64 ((x : Nat) : Int) : Value) from T11) ?_)    -- ref.go:82 t45 := (Op.move (Operand.tmp 11))
                    refine opsF_step rfl (YieldsK.bin (xv := .int .i64 ((x : Nat) : Int)) (yv := .int .i64 ((2 : Nat) : Int)) (show _ = (.int .i64 ((x : Nat) : Int) : Value) from rfl) (show _ = (.int .i64 ((2 : Nat) : Int) : Value) from rfl) rfl (i64_quo _ (x) (2) (by omega) (by omega)) ?_)    -- ref.go:82 t46 := (Op.binOp BinOp.quo 3 (Operand.tmp 45) (Operand.const (Value.int IntKind.i64 2)) 3)
                    refine opsF_step rfl (YieldsK.assign (show _ = (.int .i64 (((x) / (2) : Nat) : Int) : Value) from rfl) ?_)    -- ref.go:82 t14 := (Op.assign (Operand.tmp 46))
                    refine opsF_end (fun ρ => ρ 0 = (vb : Value) ∧ ρ 1 = (v : Value) ∧ ρ 6 = (.int .i64 ((sa : Nat) : Int) : Value) ∧ ρ 7 = (.int .i64 ((sb : Nat) : Int) : Value) ∧ ρ 8 = (.int .i64 ((i : Nat) : Int) : Value) ∧ ρ 9 = (.int .i64 ((0 : Nat) : Int) : Value) ∧ ρ 10 = (vo : Value) ∧ ρ 11 = (.int .i64 ((x : Nat) : Int) : Value) ∧ ρ 12 = (.int .i64 (((i) + k : Nat) : Int) : Value) ∧ ρ 13 = (.int .i64 ((0 : Nat) : Int) : Value) ∧ ρ 14 = (.int .i64 (((x) / (2) : Nat) : Int) : Value) ∧ ρ 26 = (.bool (false) : Value) ∧ True) ⟨T0, T1, T6, T7, T8, T9, T10, T11, T12, T13, rfl, T26, trivial⟩ fun ρ75 ⟨T0, T1, T6, T7, T8, T9, T10, T11, T12, T13, T14, T26, _⟩ => ?_
                    refine thenF_normal (hK74 _ _ ?_)
                    refine wpF_seq_k fun K76 hK76 => ?_
                    refine wpF_seq_k fun K77 hK77 => ?_
                    refine wpF_text ?_
                    refine opsF_step rfl (YieldsK.move (show _ = (.int .i64 ((0 : Nat) : Int) : Value) from T13) ?_)    -- ref.go:83 t47 := (Op.move (Operand.tmp 13))
                    refine opsF_step rfl (YieldsK.eqI (a := ((0 : Nat) : Int)) (b := ((0 : Nat) : Int)) (show _ = (.int .i64 ((0 : Nat) : Int) : Value) from rfl) (show _ = (.int .i64 ((0 : Nat) : Int) : Value) from rfl) (k_neq _ .i64 (0) (0)) ?_)    -- ref.go:83 t48 := (Op.binOp BinOp.neq 3 (Operand.tmp 47) (Operand.const (Value.int IntKind.i64 0)) 3)
                    refine opsF_step rfl (YieldsK.move (show _ = (.bool (false) : Value) from (congrArg Value.bool (decide_eq_false (by decide)))) ?_)    -- ref.go:83 t49 := (Op.move (Operand.tmp 48))
                    refine opsF_on (d := 49) rfl rfl (show _ = (.bool (false) : Value) from rfl) (YieldsK.move (show _ = (.int .i64 (((x) / (2) : Nat) : Int) : Value) from T14) ?_)    -- ref.go:83 t50 := (Op.move (Operand.tmp 14))
                    refine opsF_on (d := 49) rfl rfl (show _ = (.bool (false) : Value) from rfl) (YieldsK.eqI (a := (((x) / (2) : Nat) : Int)) (b := ((1 : Nat) : Int)) (show _ = (.int .i64 (((x) / (2) : Nat) : Int) : Value) from rfl) (show _ = (.int .i64 ((1 : Nat) : Int) : Value) from rfl) (k_lss _ .i64 ((x) / (2)) (1)) ?_)    -- ref.go:83 t51 := (Op.binOp BinOp.lss 3 (Operand.tmp 50) (Operand.const (Value.int IntKind.i64 1)) 3)
                    refine opsF_step rfl (YieldsK.pickF (show _ = (.bool (false) : Value) from rfl) (show _ = (.bool (false) : Value) from (congrArg Value.bool (decide_eq_false (s1)))) ?_)    -- ref.go:83 t52 := (Op.pick (Operand.tmp 49) (Operand.const (Value.bool true)) (Operand.tmp 51))
                    refine opsF_step rfl (YieldsK.move (show _ = (.bool (false) : Value) from rfl) ?_)    -- ref.go:83 t53 := (Op.move (Operand.tmp 52))
                    refine opsF_on (d := 53) rfl rfl (show _ = (.bool (false) : Value) from rfl) (YieldsK.move (show _ = (.int .i64 (((x) / (2) : Nat) : Int) : Value) from T14) ?_)    -- ref.go:83 t54 := (Op.move (Operand.tmp 14))
                    refine opsF_on (d := 53) rfl rfl (show _ = (.bool (false) : Value) from rfl) (YieldsK.move (show _ = (.int .i64 ((sb : Nat) : Int) : Value) from T7) ?_)    -- ref.go:83 t55 := (Op.move (Operand.tmp 7))
                    refine opsF_on (d := 53) rfl rfl (show _ = (.bool (false) : Value) from rfl) (YieldsK.move (show _ = (vo : Value) from T10) ?_)    -- ref.go:83 t56 := (Op.move (Operand.tmp 10))
                    refine opsF_on (d := 53) rfl rfl (show _ = (.bool (false) : Value) from rfl) (YieldsK.lenRB del19_ty22 (RB.of (RB.ofOwn ho_vo) (show _ = (vo : Value) from rfl)) ?_)    -- ref.go:83 t57 := (Op.call { callee := (Callee.builtin Builtin.len), args := #[(Operand.tmp 56)], argTypes := #[22] })
                    refine opsF_on (d := 53) rfl rfl (show _ = (.bool (false) : Value) from rfl) (YieldsK.bin (xv := .int .i64 ((sb : Nat) : Int)) (yv := .int .i64 ((o.length : Nat) : Int)) (show _ = (.int .i64 ((sb : Nat) : Int) : Value) from rfl) (show _ = (.int .i64 ((o.length : Nat) : Int) : Value) from rfl) rfl (i64_sub _ (sb) (o.length) (by omega) (by omega)) ?_)    -- ref.go:83 t58 := (Op.binOp BinOp.sub 3 (Operand.tmp 55) (Operand.tmp 57) 3)
                    refine opsF_on (d := 53) rfl rfl (show _ = (.bool (false) : Value) from rfl) (YieldsK.eqI (a := (((x) / (2) : Nat) : Int)) (b := (((sb) - (o.length) : Nat) : Int)) (show _ = (.int .i64 (((x) / (2) : Nat) : Int) : Value) from rfl) (show _ = (.int .i64 (((sb) - (o.length) : Nat) : Int) : Value) from rfl) (k_gtr _ .i64 ((x) / (2)) ((sb) - (o.length))) ?_)    -- ref.go:83 t59 := (Op.binOp BinOp.gtr 3 (Operand.tmp 54) (Operand.tmp 58) 3)
                    refine opsF_step rfl (YieldsK.pickF (show _ = (.bool (false) : Value) from rfl) (show _ = (.bool (false) : Value) from (congrArg Value.bool (decide_eq_false (s2)))) ?_)    -- ref.go:83 t60 := (Op.pick (Operand.tmp 53) (Operand.const (Value.bool true)) (Operand.tmp 59))
                    refine opsF_end (fun ρ => ρ 0 = (vb : Value) ∧ ρ 1 = (v : Value) ∧ ρ 6 = (.int .i64 ((sa : Nat) : Int) : Value) ∧ ρ 7 = (.int .i64 ((sb : Nat) : Int) : Value) ∧ ρ 8 = (.int .i64 ((i : Nat) : Int) : Value) ∧ ρ 9 = (.int .i64 ((0 : Nat) : Int) : Value) ∧ ρ 10 = (vo : Value) ∧ ρ 11 = (.int .i64 ((x : Nat) : Int) : Value) ∧ ρ 12 = (.int .i64 (((i) + k : Nat) : Int) : Value) ∧ ρ 13 = (.int .i64 ((0 : Nat) : Int) : Value) ∧ ρ 14 = (.int .i64 (((x) / (2) : Nat) : Int) : Value) ∧ ρ 26 = (.bool (false) : Value) ∧ ρ 60 = (.bool (false) : Value) ∧ True) ⟨T0, T1, T6, T7, T8, T9, T10, T11, T12, T13, T14, T26, rfl, trivial⟩ fun ρ78 ⟨T0, T1, T6, T7, T8, T9, T10, T11, T12, T13, T14, T26, T60, _⟩ => ?_
                    refine thenF_normal (hK77 _ _ ?_)
                    refine wpF_false (show _ = (.bool (false) : Value) from T60) ?_
                    refine wpF_skip ?_
                    refine thenF_normal (hK76 _ _ ?_)
                    refine wpF_seq_k fun K79 hK79 => ?_
                    refine wpF_seq_k fun K80 hK80 => ?_
                    refine wpF_text ?_
                    refine opsF_step rfl (YieldsK.move (show _ = (.int .i64 ((x : Nat) : Int) : Value) from T11) ?_)    -- ref.go:86 t61 := (Op.move (Operand.tmp 11))
                    refine opsF_step rfl (YieldsK.bin (xv := .int .i64 ((x : Nat) : Int)) (yv := .int .i64 ((2 : Nat) : Int)) (show _ = (.int .i64 ((x : Nat) : Int) : Value) from rfl) (show _ = (.int .i64 ((2 : Nat) : Int) : Value) from rfl) rfl (i64_rem _ (x) (2) (by omega)) ?_)    -- ref.go:86 t62 := (Op.binOp BinOp.rem 3 (Operand.tmp 61) (Operand.const (Value.int IntKind.i64 2)) 3)
                    refine opsF_step rfl (YieldsK.eqI (a := (((x) % (2) : Nat) : Int)) (b := ((0 : Nat) : Int)) (show _ = (.int .i64 (((x) % (2) : Nat) : Int) : Value) from rfl) (show _ = (.int .i64 ((0 : Nat) : Int) : Value) from rfl) (k_eql _ .i64 ((x) % (2)) (0)) ?_)    -- ref.go:86 t63 := (Op.binOp BinOp.eql 3 (Operand.tmp 62) (Operand.const (Value.int IntKind.i64 0)) 3)
                    refine opsF_end (fun ρ => ρ 0 = (vb : Value) ∧ ρ 1 = (v : Value) ∧ ρ 6 = (.int .i64 ((sa : Nat) : Int) : Value) ∧ ρ 7 = (.int .i64 ((sb : Nat) : Int) : Value) ∧ ρ 8 = (.int .i64 ((i : Nat) : Int) : Value) ∧ ρ 9 = (.int .i64 ((0 : Nat) : Int) : Value) ∧ ρ 10 = (vo : Value) ∧ ρ 11 = (.int .i64 ((x : Nat) : Int) : Value) ∧ ρ 12 = (.int .i64 (((i) + k : Nat) : Int) : Value) ∧ ρ 13 = (.int .i64 ((0 : Nat) : Int) : Value) ∧ ρ 14 = (.int .i64 (((x) / (2) : Nat) : Int) : Value) ∧ ρ 26 = (.bool (false) : Value) ∧ ρ 60 = (.bool (false) : Value) ∧ ρ 63 = (.bool (true) : Value) ∧ True) ⟨T0, T1, T6, T7, T8, T9, T10, T11, T12, T13, T14, T26, T60, (congrArg Value.bool (decide_eq_true (he))), trivial⟩ fun ρ81 ⟨T0, T1, T6, T7, T8, T9, T10, T11, T12, T13, T14, T26, T60, T63, _⟩ => ?_
                    refine thenF_normal (hK80 _ _ ?_)
                    refine wpF_true (show _ = (.bool (true) : Value) from T63) ?_
                    refine wpF_seq_k fun K82 hK82 => ?_
                    refine wpF_seq_k fun K83 hK83 => ?_
                    refine wpF_text ?_
                    refine opsF_step rfl (YieldsK.move (show _ = (.int .i64 (((x) / (2) : Nat) : Int) : Value) from T14) ?_)    -- ref.go:87 t64 := (Op.move (Operand.tmp 14))
                    refine opsF_step rfl (YieldsK.move (show _ = (v : Value) from T1) ?_)    -- ref.go:87 t65 := (Op.move (Operand.tmp 1))
                    refine opsF_step rfl (YieldsK.lenRB del19_ty22 (RB.of (hr.keep hE) (show _ = (v : Value) from rfl)) ?_)    -- ref.go:87 t66 := (Op.call { callee := (Callee.builtin Builtin.len), args := #[(Operand.tmp 65)], argTypes := #[22] })
                    refine opsF_step rfl (YieldsK.move (show _ = (.int .i64 (((i) + k : Nat) : Int) : Value) from T12) ?_)    -- ref.go:87 t67 := (Op.move (Operand.tmp 12))
                    refine opsF_step rfl (YieldsK.bin (xv := .int .i64 ((D.length : Nat) : Int)) (yv := .int .i64 (((i) + k : Nat) : Int)) (show _ = (.int .i64 ((D.length : Nat) : Int) : Value) from rfl) (show _ = (.int .i64 (((i) + k : Nat) : Int) : Value) from rfl) rfl (i64_sub _ (D.length) ((i) + k) (by omega) (by omega)) ?_)    -- ref.go:87 t68 := (Op.binOp BinOp.sub 3 (Operand.tmp 66) (Operand.tmp 67) 3)
                    refine opsF_step rfl (YieldsK.eqI (a := (((x) / (2) : Nat) : Int)) (b := (((D.length) - ((i) + k) : Nat) : Int)) (show _ = (.int .i64 (((x) / (2) : Nat) : Int) : Value) from rfl) (show _ = (.int .i64 (((D.length) - ((i) + k) : Nat) : Int) : Value) from rfl) (k_gtr _ .i64 ((x) / (2)) ((D.length) - ((i) + k))) ?_)    -- ref.go:87 t69 := (Op.binOp BinOp.gtr 3 (Operand.tmp 64) (Operand.tmp 68) 3)
                    refine opsF_end (fun ρ => ρ 0 = (vb : Value) ∧ ρ 1 = (v : Value) ∧ ρ 6 = (.int .i64 ((sa : Nat) : Int) : Value) ∧ ρ 7 = (.int .i64 ((sb : Nat) : Int) : Value) ∧ ρ 8 = (.int .i64 ((i : Nat) : Int) : Value) ∧ ρ 9 = (.int .i64 ((0 : Nat) : Int) : Value) ∧ ρ 10 = (vo : Value) ∧ ρ 11 = (.int .i64 ((x : Nat) : Int) : Value) ∧ ρ 12 = (.int .i64 (((i) + k : Nat) : Int) : Value) ∧ ρ 13 = (.int .i64 ((0 : Nat) : Int) : Value) ∧ ρ 14 = (.int .i64 (((x) / (2) : Nat) : Int) : Value) ∧ ρ 26 = (.bool (false) : Value) ∧ ρ 60 = (.bool (false) : Value) ∧ ρ 63 = (.bool (true) : Value) ∧ ρ 69 = (.bool (true) : Value) ∧ True) ⟨T0, T1, T6, T7, T8, T9, T10, T11, T12, T13, T14, T26, T60, T63, (congrArg Value.bool (decide_eq_true (e1))), trivial⟩ fun ρ84 ⟨T0, T1, T6, T7, T8, T9, T10, T11, T12, T13, T14, T26, T60, T63, T69, _⟩ => ?_
                    refine thenF_normal (hK83 _ _ ?_)
                    refine wpF_true (show _ = (.bool (true) : Value) from T69) ?_
                    refine wpF_seq_k fun K85 hK85 => ?_
                    refine wpF_text ?_
                    refine opsF_step rfl (YieldsK.assign (show _ = ((Value.slice none 0 0) : Value) from rfl) ?_)    -- ref.go:88 t4 := (Op.assign (Operand.const (Value.slice none 0 0)))
                    refine opsF_step rfl (YieldsK.assign (show _ = (.int .i64 ((6 : Nat) : Int) : Value) from rfl) ?_)    -- ref.go:88 t5 := (Op.assign (Operand.const (Value.int IntKind.i64 6)))
                    refine opsF_end (fun ρ => ρ 0 = (vb : Value) ∧ ρ 1 = (v : Value) ∧ ρ 4 = ((Value.slice none 0 0) : Value) ∧ ρ 5 = (.int .i64 ((6 : Nat) : Int) : Value) ∧ ρ 6 = (.int .i64 ((sa : Nat) : Int) : Value) ∧ ρ 7 = (.int .i64 ((sb : Nat) : Int) : Value) ∧ ρ 8 = (.int .i64 ((i : Nat) : Int) : Value) ∧ ρ 9 = (.int .i64 ((0 : Nat) : Int) : Value) ∧ ρ 10 = (vo : Value) ∧ ρ 11 = (.int .i64 ((x : Nat) : Int) : Value) ∧ ρ 12 = (.int .i64 (((i) + k : Nat) : Int) : Value) ∧ ρ 13 = (.int .i64 ((0 : Nat) : Int) : Value) ∧ ρ 14 = (.int .i64 (((x) / (2) : Nat) : Int) : Value) ∧ ρ 26 = (.bool (false) : Value) ∧ ρ 60 = (.bool (false) : Value) ∧ ρ 63 = (.bool (true) : Value) ∧ ρ 69 = (.bool (true) : Value) ∧ True) ⟨T0, T1, rfl, rfl, T6, T7, T8, T9, T10, T11, T12, T13, T14, T26, T60, T63, T69, trivial⟩ fun ρ86 ⟨T0, T1, T4, T5, T6, T7, T8, T9, T10, T11, T12, T13, T14, T26, T60, T63, T69, _⟩ => ?_
                    refine thenF_normal (hK85 _ _ ?_)
                    refine wpF_ret (thenF_ret (thenF_ret (inBlockF_ret (thenF_ret (inBlockF_ret (thenF_ret ?_))))))
                    refine postF_ret (fn := Try.f13) _ rfl [(Value.slice none 0 0), .int .i64 ((6 : Nat) : Int)] (.tuple #[(Value.slice none 0 0), .int .i64 ((6 : Nat) : Int)]) rfl ⟨T4, T5, trivial⟩ ?_
                    rw [hfail] at hgo
                    have hP : applyP B D = ([], 6) := by rw [applyP, hsz]; simp only; rw [if_neg hc1, if_neg hc2, ← hgo]
                    rw [hP]
                    exact ⟨_, rfl, RB.nil _, hE⟩
                  · have hpc : pieceP B D i = some ((D.drop (i + k)).take (x / 2), i + k + x / 2) := by rw [pieceP, hgx]; simp only; rw [if_neg (by omega), cutP, if_neg (by omega)]
                    have hbl : ((D.drop (i + k)).take (x / 2)).length = x / 2 := by rw [List.length_take, List.length_drop]; omega
                    refine wpF_skip ?_
                    refine thenF_normal (hK34 _ _ ?_)
                    refine wpF_block ?_
                    refine wpF_seq_k fun K87 hK87 => ?_
                    refine wpF_text ?_
                    refine opsF_step rfl (YieldsK.move (show _ = (v : Value) from T1) ?_)    -- ref.go:81 t39 := (Op.move (Operand.tmp 1))
                    refine opsF_step rfl (YieldsK.move (show _ = (.int .i64 ((i : Nat) : Int) : Value) from T8) ?_)    -- ref.go:81 t40 := (Op.move (Operand.tmp 8))
                    refine opsF_step rfl (YieldsK.callA2 del19_pl25 (show _ = (v : Value) from rfl) (show _ = (.int .i64 ((i : Nat) : Int) : Value) from rfl) ?_)    -- ref.go:81 t41 := (Op.call { callee := (Callee.value (Operand.func 25)), args := #[(Operand.tmp 39), (Operand.tmp 40)], argTypes
                    refine (refGetYes _ v D (hr.keep hE) (i) (by omega) hlen x k hgx).mono ?_
                    rintro e w89 ⟨rfl, hx88⟩
                    refine ⟨_, rfl, ?_⟩
                    have hE : Ext w w89 := (hE.trans hx88)
                    have ho_vo : w89.ownsRow w.heap.size 5 1 vo o.length (Lib.byteCells (o)) := (Stab.own _ _ _ _ _ _ _ _ ho_vo hx88)
                    refine opsF_step rfl (YieldsK.move (show _ = (.tuple #[.int .i64 ((x : Nat) : Int), .int .i64 (((i) + k : Nat) : Int), .int .i64 ((0 : Nat) : Int)] : Value) from rfl) ?_)    -- ref.go:81 t38 := (Op.move (Operand.tmp 41))
                    refine opsF_step rfl (YieldsK.extract (vs := [.int .i64 ((x : Nat) : Int), .int .i64 (((i) + k : Nat) : Int), .int .i64 ((0 : Nat) : Int)]) (show _ = (.tuple #[.int .i64 ((x : Nat) : Int), .int .i64 (((i) + k : Nat) : Int), .int .i64 ((0 : Nat) : Int)] : Value) from rfl) (show _ = some (.int .i64 ((x : Nat) : Int) : Value) from rfl) ?_)    -- ref.go:81 t42 := (Op.extract (Operand.tmp 38) 0)
                    refine opsF_step rfl (YieldsK.extract (vs := [.int .i64 ((x : Nat) : Int), .int .i64 (((i) + k : Nat) : Int), .int .i64 ((0 : Nat) : Int)]) (show _ = (.tuple #[.int .i64 ((x : Nat) : Int), .int .i64 (((i) + k : Nat) : Int), .int .i64 ((0 : Nat) : Int)] : Value) from rfl) (show _ = some (.int .i64 (((i) + k : Nat) : Int) : Value) from rfl) ?_)    -- ref.go:81 t43 := (Op.extract (Operand.tmp 38) 1)
                    refine opsF_step rfl (YieldsK.extract (vs := [.int .i64 ((x : Nat) : Int), .int .i64 (((i) + k : Nat) : Int), .int .i64 ((0 : Nat) : Int)]) (show _ = (.tuple #[.int .i64 ((x : Nat) : Int), .int .i64 (((i) + k : Nat) : Int), .int .i64 ((0 : Nat) : Int)] : Value) from rfl) (show _ = some (.int .i64 ((0 : Nat) : Int) : Value) from rfl) ?_)    -- ref.go:81 t44 := (Op.extract (Operand.tmp 38) 2)
                    refine opsF_step rfl (YieldsK.assign (show _ = (.int .i64 ((x : Nat) : Int) : Value) from rfl) ?_)    -- ref.go:81 t11 := (Op.assign (Operand.tmp 42))
                    refine opsF_step rfl (YieldsK.assign (show _ = (.int .i64 (((i) + k : Nat) : Int) : Value) from rfl) ?_)    -- ref.go:81 t12 := (Op.assign (Operand.tmp 43))
                    refine opsF_step rfl (YieldsK.assign (show _ = (.int .i64 ((0 : Nat) : Int) : Value) from rfl) ?_)    -- ref.go:81 t13 := (Op.assign (Operand.tmp 44))
                    refine opsF_end (fun ρ => ρ 0 = (vb : Value) ∧ ρ 1 = (v : Value) ∧ ρ 6 = (.int .i64 ((sa : Nat) : Int) : Value) ∧ ρ 7 = (.int .i64 ((sb : Nat) : Int) : Value) ∧ ρ 8 = (.int .i64 ((i : Nat) : Int) : Value) ∧ ρ 9 = (.int .i64 ((0 : Nat) : Int) : Value) ∧ ρ 10 = (vo : Value) ∧ ρ 11 = (.int .i64 ((x : Nat) : Int) : Value) ∧ ρ 12 = (.int .i64 (((i) + k : Nat) : Int) : Value) ∧ ρ 13 = (.int .i64 ((0 : Nat) : Int) : Value) ∧ ρ 26 = (.bool (false) : Value) ∧ True) ⟨T0, T1, T6, T7, T8, T9, T10, rfl, rfl, rfl, T26, trivial⟩ fun ρ90 ⟨T0, T1, T6, T7, T8, T9, T10, T11, T12, T13, T26, _⟩ => ?_
                    refine thenF_normal (hK87 _ _ ?_)
                    refine wpF_seq_k fun K91 hK91 => ?_
                    refine wpF_text ?_
                    refine opsF_step rfl (YieldsK.move (show _ = (.int .i64 ((x : Nat) : Int) : Value) from T11) ?_)    -- ref.go:82 t45 := (Op.move (Operand.tmp 11))
                    refine opsF_step rfl (YieldsK.bin (xv := .int .i64 ((x : Nat) : Int)) (yv := .int .i64 ((2 : Nat) : Int)) (show _ = (.int .i64 ((x : Nat) : Int) : Value) from rfl) (show _ = (.int .i64 ((2 : Nat) : Int) : Value) from rfl) rfl (i64_quo _ (x) (2) (by omega) (by omega)) ?_)    -- ref.go:82 t46 := (Op.binOp BinOp.quo 3 (Operand.tmp 45) (Operand.const (Value.int IntKind.i64 2)) 3)
                    refine opsF_step rfl (YieldsK.assign (show _ = (.int .i64 (((x) / (2) : Nat) : Int) : Value) from rfl) ?_)    -- ref.go:82 t14 := (Op.assign (Operand.tmp 46))
                    refine opsF_end (fun ρ => ρ 0 = (vb : Value) ∧ ρ 1 = (v : Value) ∧ ρ 6 = (.int .i64 ((sa : Nat) : Int) : Value) ∧ ρ 7 = (.int .i64 ((sb : Nat) : Int) : Value) ∧ ρ 8 = (.int .i64 ((i : Nat) : Int) : Value) ∧ ρ 9 = (.int .i64 ((0 : Nat) : Int) : Value) ∧ ρ 10 = (vo : Value) ∧ ρ 11 = (.int .i64 ((x : Nat) : Int) : Value) ∧ ρ 12 = (.int .i64 (((i) + k : Nat) : Int) : Value) ∧ ρ 13 = (.int .i64 ((0 : Nat) : Int) : Value) ∧ ρ 14 = (.int .i64 (((x) / (2) : Nat) : Int) : Value) ∧ ρ 26 = (.bool (false) : Value) ∧ True) ⟨T0, T1, T6, T7, T8, T9, T10, T11, T12, T13, rfl, T26, trivial⟩ fun ρ92 ⟨T0, T1, T6, T7, T8, T9, T10, T11, T12, T13, T14, T26, _⟩ => ?_
                    refine thenF_normal (hK91 _ _ ?_)
                    refine wpF_seq_k fun K93 hK93 => ?_
                    refine wpF_seq_k fun K94 hK94 => ?_
                    refine wpF_text ?_
                    refine opsF_step rfl (YieldsK.move (show _ = (.int .i64 ((0 : Nat) : Int) : Value) from T13) ?_)    -- ref.go:83 t47 := (Op.move (Operand.tmp 13))
                    refine opsF_step rfl (YieldsK.eqI (a := ((0 : Nat) : Int)) (b := ((0 : Nat) : Int)) (show _ = (.int .i64 ((0 : Nat) : Int) : Value) from rfl) (show _ = (.int .i64 ((0 : Nat) : Int) : Value) from rfl) (k_neq _ .i64 (0) (0)) ?_)    -- ref.go:83 t48 := (Op.binOp BinOp.neq 3 (Operand.tmp 47) (Operand.const (Value.int IntKind.i64 0)) 3)
                    refine opsF_step rfl (YieldsK.move (show _ = (.bool (false) : Value) from (congrArg Value.bool (decide_eq_false (by decide)))) ?_)    -- ref.go:83 t49 := (Op.move (Operand.tmp 48))
                    refine opsF_on (d := 49) rfl rfl (show _ = (.bool (false) : Value) from rfl) (YieldsK.move (show _ = (.int .i64 (((x) / (2) : Nat) : Int) : Value) from T14) ?_)    -- ref.go:83 t50 := (Op.move (Operand.tmp 14))
                    refine opsF_on (d := 49) rfl rfl (show _ = (.bool (false) : Value) from rfl) (YieldsK.eqI (a := (((x) / (2) : Nat) : Int)) (b := ((1 : Nat) : Int)) (show _ = (.int .i64 (((x) / (2) : Nat) : Int) : Value) from rfl) (show _ = (.int .i64 ((1 : Nat) : Int) : Value) from rfl) (k_lss _ .i64 ((x) / (2)) (1)) ?_)    -- ref.go:83 t51 := (Op.binOp BinOp.lss 3 (Operand.tmp 50) (Operand.const (Value.int IntKind.i64 1)) 3)
                    refine opsF_step rfl (YieldsK.pickF (show _ = (.bool (false) : Value) from rfl) (show _ = (.bool (false) : Value) from (congrArg Value.bool (decide_eq_false (s1)))) ?_)    -- ref.go:83 t52 := (Op.pick (Operand.tmp 49) (Operand.const (Value.bool true)) (Operand.tmp 51))
                    refine opsF_step rfl (YieldsK.move (show _ = (.bool (false) : Value) from rfl) ?_)    -- ref.go:83 t53 := (Op.move (Operand.tmp 52))
                    refine opsF_on (d := 53) rfl rfl (show _ = (.bool (false) : Value) from rfl) (YieldsK.move (show _ = (.int .i64 (((x) / (2) : Nat) : Int) : Value) from T14) ?_)    -- ref.go:83 t54 := (Op.move (Operand.tmp 14))
                    refine opsF_on (d := 53) rfl rfl (show _ = (.bool (false) : Value) from rfl) (YieldsK.move (show _ = (.int .i64 ((sb : Nat) : Int) : Value) from T7) ?_)    -- ref.go:83 t55 := (Op.move (Operand.tmp 7))
                    refine opsF_on (d := 53) rfl rfl (show _ = (.bool (false) : Value) from rfl) (YieldsK.move (show _ = (vo : Value) from T10) ?_)    -- ref.go:83 t56 := (Op.move (Operand.tmp 10))
                    refine opsF_on (d := 53) rfl rfl (show _ = (.bool (false) : Value) from rfl) (YieldsK.lenRB del19_ty22 (RB.of (RB.ofOwn ho_vo) (show _ = (vo : Value) from rfl)) ?_)    -- ref.go:83 t57 := (Op.call { callee := (Callee.builtin Builtin.len), args := #[(Operand.tmp 56)], argTypes := #[22] })
                    refine opsF_on (d := 53) rfl rfl (show _ = (.bool (false) : Value) from rfl) (YieldsK.bin (xv := .int .i64 ((sb : Nat) : Int)) (yv := .int .i64 ((o.length : Nat) : Int)) (show _ = (.int .i64 ((sb : Nat) : Int) : Value) from rfl) (show _ = (.int .i64 ((o.length : Nat) : Int) : Value) from rfl) rfl (i64_sub _ (sb) (o.length) (by omega) (by omega)) ?_)    -- ref.go:83 t58 := (Op.binOp BinOp.sub 3 (Operand.tmp 55) (Operand.tmp 57) 3)
                    refine opsF_on (d := 53) rfl rfl (show _ = (.bool (false) : Value) from rfl) (YieldsK.eqI (a := (((x) / (2) : Nat) : Int)) (b := (((sb) - (o.length) : Nat) : Int)) (show _ = (.int .i64 (((x) / (2) : Nat) : Int) : Value) from rfl) (show _ = (.int .i64 (((sb) - (o.length) : Nat) : Int) : Value) from rfl) (k_gtr _ .i64 ((x) / (2)) ((sb) - (o.length))) ?_)    -- ref.go:83 t59 := (Op.binOp BinOp.gtr 3 (Operand.tmp 54) (Operand.tmp 58) 3)
                    refine opsF_step rfl (YieldsK.pickF (show _ = (.bool (false) : Value) from rfl) (show _ = (.bool (false) : Value) from (congrArg Value.bool (decide_eq_false (s2)))) ?_)    -- ref.go:83 t60 := (Op.pick (Operand.tmp 53) (Operand.const (Value.bool true)) (Operand.tmp 59))
                    refine opsF_end (fun ρ => ρ 0 = (vb : Value) ∧ ρ 1 = (v : Value) ∧ ρ 6 = (.int .i64 ((sa : Nat) : Int) : Value) ∧ ρ 7 = (.int .i64 ((sb : Nat) : Int) : Value) ∧ ρ 8 = (.int .i64 ((i : Nat) : Int) : Value) ∧ ρ 9 = (.int .i64 ((0 : Nat) : Int) : Value) ∧ ρ 10 = (vo : Value) ∧ ρ 11 = (.int .i64 ((x : Nat) : Int) : Value) ∧ ρ 12 = (.int .i64 (((i) + k : Nat) : Int) : Value) ∧ ρ 13 = (.int .i64 ((0 : Nat) : Int) : Value) ∧ ρ 14 = (.int .i64 (((x) / (2) : Nat) : Int) : Value) ∧ ρ 26 = (.bool (false) : Value) ∧ ρ 60 = (.bool (false) : Value) ∧ True) ⟨T0, T1, T6, T7, T8, T9, T10, T11, T12, T13, T14, T26, rfl, trivial⟩ fun ρ95 ⟨T0, T1, T6, T7, T8, T9, T10, T11, T12, T13, T14, T26, T60, _⟩ => ?_
                    refine thenF_normal (hK94 _ _ ?_)
                    refine wpF_false (show _ = (.bool (false) : Value) from T60) ?_
                    refine wpF_skip ?_
                    refine thenF_normal (hK93 _ _ ?_)
                    refine wpF_seq_k fun K96 hK96 => ?_
                    refine wpF_seq_k fun K97 hK97 => ?_
                    refine wpF_text ?_
                    refine opsF_step rfl (YieldsK.move (show _ = (.int .i64 ((x : Nat) : Int) : Value) from T11) ?_)    -- ref.go:86 t61 := (Op.move (Operand.tmp 11))
                    refine opsF_step rfl (YieldsK.bin (xv := .int .i64 ((x : Nat) : Int)) (yv := .int .i64 ((2 : Nat) : Int)) (show _ = (.int .i64 ((x : Nat) : Int) : Value) from rfl) (show _ = (.int .i64 ((2 : Nat) : Int) : Value) from rfl) rfl (i64_rem _ (x) (2) (by omega)) ?_)    -- ref.go:86 t62 := (Op.binOp BinOp.rem 3 (Operand.tmp 61) (Operand.const (Value.int IntKind.i64 2)) 3)
                    refine opsF_step rfl (YieldsK.eqI (a := (((x) % (2) : Nat) : Int)) (b := ((0 : Nat) : Int)) (show _ = (.int .i64 (((x) % (2) : Nat) : Int) : Value) from rfl) (show _ = (.int .i64 ((0 : Nat) : Int) : Value) from rfl) (k_eql _ .i64 ((x) % (2)) (0)) ?_)    -- ref.go:86 t63 := (Op.binOp BinOp.eql 3 (Operand.tmp 62) (Operand.const (Value.int IntKind.i64 0)) 3)
                    refine opsF_end (fun ρ => ρ 0 = (vb : Value) ∧ ρ 1 = (v : Value) ∧ ρ 6 = (.int .i64 ((sa : Nat) : Int) : Value) ∧ ρ 7 = (.int .i64 ((sb : Nat) : Int) : Value) ∧ ρ 8 = (.int .i64 ((i : Nat) : Int) : Value) ∧ ρ 9 = (.int .i64 ((0 : Nat) : Int) : Value) ∧ ρ 10 = (vo : Value) ∧ ρ 11 = (.int .i64 ((x : Nat) : Int) : Value) ∧ ρ 12 = (.int .i64 (((i) + k : Nat) : Int) : Value) ∧ ρ 13 = (.int .i64 ((0 : Nat) : Int) : Value) ∧ ρ 14 = (.int .i64 (((x) / (2) : Nat) : Int) : Value) ∧ ρ 26 = (.bool (false) : Value) ∧ ρ 60 = (.bool (false) : Value) ∧ ρ 63 = (.bool (true) : Value) ∧ True) ⟨T0, T1, T6, T7, T8, T9, T10, T11, T12, T13, T14, T26, T60, (congrArg Value.bool (decide_eq_true (he))), trivial⟩ fun ρ98 ⟨T0, T1, T6, T7, T8, T9, T10, T11, T12, T13, T14, T26, T60, T63, _⟩ => ?_
                    refine thenF_normal (hK97 _ _ ?_)
                    refine wpF_true (show _ = (.bool (true) : Value) from T63) ?_
                    refine wpF_seq_k fun K99 hK99 => ?_
                    refine wpF_seq_k fun K100 hK100 => ?_
                    refine wpF_text ?_
                    refine opsF_step rfl (YieldsK.move (show _ = (.int .i64 (((x) / (2) : Nat) : Int) : Value) from T14) ?_)    -- ref.go:87 t64 := (Op.move (Operand.tmp 14))
                    refine opsF_step rfl (YieldsK.move (show _ = (v : Value) from T1) ?_)    -- ref.go:87 t65 := (Op.move (Operand.tmp 1))
                    refine opsF_step rfl (YieldsK.lenRB del19_ty22 (RB.of (hr.keep hE) (show _ = (v : Value) from rfl)) ?_)    -- ref.go:87 t66 := (Op.call { callee := (Callee.builtin Builtin.len), args := #[(Operand.tmp 65)], argTypes := #[22] })
                    refine opsF_step rfl (YieldsK.move (show _ = (.int .i64 (((i) + k : Nat) : Int) : Value) from T12) ?_)    -- ref.go:87 t67 := (Op.move (Operand.tmp 12))
                    refine opsF_step rfl (YieldsK.bin (xv := .int .i64 ((D.length : Nat) : Int)) (yv := .int .i64 (((i) + k : Nat) : Int)) (show _ = (.int .i64 ((D.length : Nat) : Int) : Value) from rfl) (show _ = (.int .i64 (((i) + k : Nat) : Int) : Value) from rfl) rfl (i64_sub _ (D.length) ((i) + k) (by omega) (by omega)) ?_)    -- ref.go:87 t68 := (Op.binOp BinOp.sub 3 (Operand.tmp 66) (Operand.tmp 67) 3)
                    refine opsF_step rfl (YieldsK.eqI (a := (((x) / (2) : Nat) : Int)) (b := (((D.length) - ((i) + k) : Nat) : Int)) (show _ = (.int .i64 (((x) / (2) : Nat) : Int) : Value) from rfl) (show _ = (.int .i64 (((D.length) - ((i) + k) : Nat) : Int) : Value) from rfl) (k_gtr _ .i64 ((x) / (2)) ((D.length) - ((i) + k))) ?_)    -- ref.go:87 t69 := (Op.binOp BinOp.gtr 3 (Operand.tmp 64) (Operand.tmp 68) 3)
                    refine opsF_end (fun ρ => ρ 0 = (vb : Value) ∧ ρ 1 = (v : Value) ∧ ρ 6 = (.int .i64 ((sa : Nat) : Int) : Value) ∧ ρ 7 = (.int .i64 ((sb : Nat) : Int) : Value) ∧ ρ 8 = (.int .i64 ((i : Nat) : Int) : Value) ∧ ρ 9 = (.int .i64 ((0 : Nat) : Int) : Value) ∧ ρ 10 = (vo : Value) ∧ ρ 11 = (.int .i64 ((x : Nat) : Int) : Value) ∧ ρ 12 = (.int .i64 (((i) + k : Nat) : Int) : Value) ∧ ρ 13 = (.int .i64 ((0 : Nat) : Int) : Value) ∧ ρ 14 = (.int .i64 (((x) / (2) : Nat) : Int) : Value) ∧ ρ 26 = (.bool (false) : Value) ∧ ρ 60 = (.bool (false) : Value) ∧ ρ 63 = (.bool (true) : Value) ∧ ρ 69 = (.bool (false) : Value) ∧ True) ⟨T0, T1, T6, T7, T8, T9, T10, T11, T12, T13, T14, T26, T60, T63, (congrArg Value.bool (decide_eq_false (e1))), trivial⟩ fun ρ101 ⟨T0, T1, T6, T7, T8, T9, T10, T11, T12, T13, T14, T26, T60, T63, T69, _⟩ => ?_
                    refine thenF_normal (hK100 _ _ ?_)
                    refine wpF_false (show _ = (.bool (false) : Value) from T69) ?_
                    refine wpF_skip ?_
                    refine thenF_normal (hK99 _ _ ?_)
                    refine wpF_seq_k fun K102 hK102 => ?_
                    refine wpF_text ?_
                    refine opsF_step rfl (YieldsK.move (show _ = (vo : Value) from T10) ?_)    -- ref.go:90 t70 := (Op.move (Operand.tmp 10))
                    refine opsF_step rfl (YieldsK.move (show _ = (v : Value) from T1) ?_)    -- ref.go:90 t71 := (Op.move (Operand.tmp 1))
                    refine opsF_step rfl (YieldsK.move (show _ = (.int .i64 (((i) + k : Nat) : Int) : Value) from T12) ?_)    -- ref.go:90 t72 := (Op.move (Operand.tmp 12))
                    refine opsF_step rfl (YieldsK.move (show _ = (.int .i64 (((i) + k : Nat) : Int) : Value) from T12) ?_)    -- ref.go:90 t73 := (Op.move (Operand.tmp 12))
                    refine opsF_step rfl (YieldsK.move (show _ = (.int .i64 (((x) / (2) : Nat) : Int) : Value) from T14) ?_)    -- ref.go:90 t74 := (Op.move (Operand.tmp 14))
                    refine opsF_step rfl (YieldsK.bin (xv := .int .i64 (((i) + k : Nat) : Int)) (yv := .int .i64 (((x) / (2) : Nat) : Int)) (show _ = (.int .i64 (((i) + k : Nat) : Int) : Value) from rfl) (show _ = (.int .i64 (((x) / (2) : Nat) : Int) : Value) from rfl) rfl (i64_add _ ((i) + k) ((x) / (2)) (by omega)) ?_)    -- ref.go:90 t75 := (Op.binOp BinOp.add 3 (Operand.tmp 73) (Operand.tmp 74) 3)
                    refine opsF_step rfl (YieldsK.sliceLH (xs := D) (l := (i) + k) (n := ((i) + k) + ((x) / (2))) del19_ty22 del19_sz5 (show _ = (v : Value) from rfl) (hr.keep hE) (show _ = (.int .i64 (((i) + k : Nat) : Int) : Value) from rfl) (show _ = (.int .i64 ((((i) + k) + ((x) / (2)) : Nat) : Int) : Value) from rfl) (by omega) (by omega) fun v103 hr104 ha105 => ?_)    -- ref.go:90 t76 := (Op.slice 22 (Operand.tmp 71) (some (Operand.tmp 72)) (some (Operand.tmp 75)) none)
                    refine opsF_step rfl (YieldsK.appendRB _ _ w.heap.size (.int .u8 0) del19_ty22 del19_inf5 rfl del19_ty22 (o) ((D.drop ((i) + k)).take ((((i) + k) + ((x) / (2))) - ((i) + k))) (own_of ho_vo (show _ = (vo : Value) from rfl)) (RB.of hr104 (show _ = (v103 : Value) from rfl)) (by rw [List.length_take, List.length_drop]; omega) hE.size fun v106 w107 ho108 hg109 => ?_)    -- ref.go:90 t77 := (Op.call { callee := (Callee.builtin Builtin.append), args := #[(Operand.tmp 70), (Operand.tmp 76)], argTypes 
                    have hg109 : Grew w89 w107 vo v106 := hg109
                    have hE : Ext w w107 := ext_grew hE hg109 ho_vo (Nat.le_refl _)
                    clear ho_vo
                    clear hr104
                    refine opsF_step rfl (YieldsK.assign (show _ = (v106 : Value) from rfl) ?_)    -- ref.go:90 t10 := (Op.assign (Operand.tmp 77))
                    refine opsF_end (fun ρ => ρ 0 = (vb : Value) ∧ ρ 1 = (v : Value) ∧ ρ 6 = (.int .i64 ((sa : Nat) : Int) : Value) ∧ ρ 7 = (.int .i64 ((sb : Nat) : Int) : Value) ∧ ρ 8 = (.int .i64 ((i : Nat) : Int) : Value) ∧ ρ 9 = (.int .i64 ((0 : Nat) : Int) : Value) ∧ ρ 10 = (v106 : Value) ∧ ρ 11 = (.int .i64 ((x : Nat) : Int) : Value) ∧ ρ 12 = (.int .i64 (((i) + k : Nat) : Int) : Value) ∧ ρ 13 = (.int .i64 ((0 : Nat) : Int) : Value) ∧ ρ 14 = (.int .i64 (((x) / (2) : Nat) : Int) : Value) ∧ ρ 26 = (.bool (false) : Value) ∧ ρ 60 = (.bool (false) : Value) ∧ ρ 63 = (.bool (true) : Value) ∧ ρ 69 = (.bool (false) : Value) ∧ True) ⟨T0, T1, T6, T7, T8, T9, rfl, T11, T12, T13, T14, T26, T60, T63, T69, trivial⟩ fun ρ110 ⟨T0, T1, T6, T7, T8, T9, T10, T11, T12, T13, T14, T26, T60, T63, T69, _⟩ => ?_
                    refine thenF_normal (hK102 _ _ ?_)
                    refine wpF_seq_k fun K111 hK111 => ?_
                    refine wpF_text ?_
                    refine opsF_step rfl (YieldsK.move (show _ = (.int .i64 (((i) + k : Nat) : Int) : Value) from T12) ?_)    -- ref.go:91 t78 := (Op.move (Operand.tmp 12))
                    refine opsF_step rfl (YieldsK.move (show _ = (.int .i64 (((x) / (2) : Nat) : Int) : Value) from T14) ?_)    -- ref.go:91 t79 := (Op.move (Operand.tmp 14))
                    refine opsF_step rfl (YieldsK.bin (xv := .int .i64 (((i) + k : Nat) : Int)) (yv := .int .i64 (((x) / (2) : Nat) : Int)) (show _ = (.int .i64 (((i) + k : Nat) : Int) : Value) from rfl) (show _ = (.int .i64 (((x) / (2) : Nat) : Int) : Value) from rfl) rfl (i64_add _ ((i) + k) ((x) / (2)) (by omega)) ?_)    -- ref.go:91 t80 := (Op.binOp BinOp.add 3 (Operand.tmp 78) (Operand.tmp 79) 3)
                    refine opsF_step rfl (YieldsK.assign (show _ = (.int .i64 ((((i) + k) + ((x) / (2)) : Nat) : Int) : Value) from rfl) ?_)    -- ref.go:91 t8 := (Op.assign (Operand.tmp 80))
                    refine opsF_end (fun ρ => ρ 0 = (vb : Value) ∧ ρ 1 = (v : Value) ∧ ρ 6 = (.int .i64 ((sa : Nat) : Int) : Value) ∧ ρ 7 = (.int .i64 ((sb : Nat) : Int) : Value) ∧ ρ 8 = (.int .i64 ((((i) + k) + ((x) / (2)) : Nat) : Int) : Value) ∧ ρ 9 = (.int .i64 ((0 : Nat) : Int) : Value) ∧ ρ 10 = (v106 : Value) ∧ ρ 11 = (.int .i64 ((x : Nat) : Int) : Value) ∧ ρ 12 = (.int .i64 (((i) + k : Nat) : Int) : Value) ∧ ρ 13 = (.int .i64 ((0 : Nat) : Int) : Value) ∧ ρ 14 = (.int .i64 (((x) / (2) : Nat) : Int) : Value) ∧ ρ 26 = (.bool (false) : Value) ∧ ρ 60 = (.bool (false) : Value) ∧ ρ 63 = (.bool (true) : Value) ∧ ρ 69 = (.bool (false) : Value) ∧ True) ⟨T0, T1, T6, T7, rfl, T9, T10, T11, T12, T13, T14, T26, T60, T63, T69, trivial⟩ fun ρ112 ⟨T0, T1, T6, T7, T8, T9, T10, T11, T12, T13, T14, T26, T60, T63, T69, _⟩ => ?_
                    refine thenF_normal (hK111 _ _ ?_)
                    refine wpF_exit (thenF_exit (inBlockF_hit ?_))
                    refine thenF_normal (And.intro ⟨i + k + x / 2, f', o ++ (D.drop (i + k)).take (x / 2), v106, T0, T1, T6, T7, T9, T26, T8, T10, hE, own_eq ho108 (by simp only [Nat.add_sub_cancel_left]), by rw [applyGo, if_pos hc3, hpc] at hgo; simp only at hgo; rw [if_neg (by rw [hbl]; omega)] at hgo; exact hgo, by omega, by omega, by rw [List.length_append, hbl]; omega, trivial⟩ ?_)
                    show D.length - (intOf (ρ112 8)).toNat < D.length - (intOf (ρ32 8)).toNat
                    rw [T8, q8]
                    simp only [intOf, Int.toNat_natCast]; omega
                · rcases hgp : lebDec 0 (D.drop (i + k)) with _ | ⟨p, m⟩
                  · have hfail : applyGo B D sb (f' + 1) i o = none := applyGo_fail hc3 (.inl (by rw [pieceP, hgx]; simp only; rw [if_pos (by omega), hgp]))
                    refine wpF_skip ?_
                    refine thenF_normal (hK34 _ _ ?_)
                    refine wpF_block ?_
                    refine wpF_seq_k fun K113 hK113 => ?_
                    refine wpF_text ?_
                    refine opsF_step rfl (YieldsK.move (show _ = (v : Value) from T1) ?_)    -- ref.go:81 t39 := (Op.move (Operand.tmp 1))
                    refine opsF_step rfl (YieldsK.move (show _ = (.int .i64 ((i : Nat) : Int) : Value) from T8) ?_)    -- ref.go:81 t40 := (Op.move (Operand.tmp 8))
                    refine opsF_step rfl (YieldsK.callA2 del19_pl25 (show _ = (v : Value) from rfl) (show _ = (.int .i64 ((i : Nat) : Int) : Value) from rfl) ?_)    -- ref.go:81 t41 := (Op.call { callee := (Callee.value (Operand.func 25)), args := #[(Operand.tmp 39), (Operand.tmp 40)], argTypes
                    refine (refGetYes _ v D (hr.keep hE) (i) (by omega) hlen x k hgx).mono ?_
                    rintro e w115 ⟨rfl, hx114⟩
                    refine ⟨_, rfl, ?_⟩
                    have hE : Ext w w115 := (hE.trans hx114)
                    have ho_vo : w115.ownsRow w.heap.size 5 1 vo o.length (Lib.byteCells (o)) := (Stab.own _ _ _ _ _ _ _ _ ho_vo hx114)
                    refine opsF_step rfl (YieldsK.move (show _ = (.tuple #[.int .i64 ((x : Nat) : Int), .int .i64 (((i) + k : Nat) : Int), .int .i64 ((0 : Nat) : Int)] : Value) from rfl) ?_)    -- ref.go:81 t38 := (Op.move (Operand.tmp 41))
                    refine opsF_step rfl (YieldsK.extract (vs := [.int .i64 ((x : Nat) : Int), .int .i64 (((i) + k : Nat) : Int), .int .i64 ((0 : Nat) : Int)]) (show _ = (.tuple #[.int .i64 ((x : Nat) : Int), .int .i64 (((i) + k : Nat) : Int), .int .i64 ((0 : Nat) : Int)] : Value) from rfl) (show _ = some (.int .i64 ((x : Nat) : Int) : Value) from rfl) ?_)    -- ref.go:81 t42 := (Op.extract (Operand.tmp 38) 0)
                    refine opsF_step rfl (YieldsK.extract (vs := [.int .i64 ((x : Nat) : Int), .int .i64 (((i) + k : Nat) : Int), .int .i64 ((0 : Nat) : Int)]) (show _ = (.tuple #[.int .i64 ((x : Nat) : Int), .int .i64 (((i) + k : Nat) : Int), .int .i64 ((0 : Nat) : Int)] : Value) from rfl) (show _ = some (.int .i64 (((i) + k : Nat) : Int) : Value) from rfl) ?_)    -- ref.go:81 t43 := (Op.extract (Operand.tmp 38) 1)
                    refine opsF_step rfl (YieldsK.extract (vs := [.int .i64 ((x : Nat) : Int), .int .i64 (((i) + k : Nat) : Int), .int .i64 ((0 : Nat) : Int)]) (show _ = (.tuple #[.int .i64 ((x : Nat) : Int), .int .i64 (((i) + k : Nat) : Int), .int .i64 ((0 : Nat) : Int)] : Value) from rfl) (show _ = some (.int .i64 ((0 : Nat) : Int) : Value) from rfl) ?_)    -- ref.go:81 t44 := (Op.extract (Operand.tmp 38) 2)
                    refine opsF_step rfl (YieldsK.assign (show _ = (.int .i64 ((x : Nat) : Int) : Value) from rfl) ?_)    -- ref.go:81 t11 := (Op.assign (Operand.tmp 42))
                    refine opsF_step rfl (YieldsK.assign (show _ = (.int .i64 (((i) + k : Nat) : Int) : Value) from rfl) ?_)    -- ref.go:81 t12 := (Op.assign (Operand.tmp 43))
                    refine opsF_step rfl (YieldsK.assign (show _ = (.int .i64 ((0 : Nat) : Int) : Value) from rfl) ?_)    -- ref.go:81 t13 := (Op.assign (Operand.tmp 44))
                    refine opsF_end (fun ρ => ρ 0 = (vb : Value) ∧ ρ 1 = (v : Value) ∧ ρ 6 = (.int .i64 ((sa : Nat) : Int) : Value) ∧ ρ 7 = (.int .i64 ((sb : Nat) : Int) : Value) ∧ ρ 8 = (.int .i64 ((i : Nat) : Int) : Value) ∧ ρ 9 = (.int .i64 ((0 : Nat) : Int) : Value) ∧ ρ 10 = (vo : Value) ∧ ρ 11 = (.int .i64 ((x : Nat) : Int) : Value) ∧ ρ 12 = (.int .i64 (((i) + k : Nat) : Int) : Value) ∧ ρ 13 = (.int .i64 ((0 : Nat) : Int) : Value) ∧ ρ 26 = (.bool (false) : Value) ∧ True) ⟨T0, T1, T6, T7, T8, T9, T10, rfl, rfl, rfl, T26, trivial⟩ fun ρ116 ⟨T0, T1, T6, T7, T8, T9, T10, T11, T12, T13, T26, _⟩ => ?_
                    refine thenF_normal (hK113 _ _ ?_)
                    refine wpF_seq_k fun K117 hK117 => ?_
                    refine wpF_text ?_
                    refine opsF_step rfl (YieldsK.move (show _ = (.int .i64 ((x : Nat) : Int) : Value) from T11) ?_)    -- ref.go:82 t45 := (Op.move (Operand.tmp 11))
                    refine opsF_step rfl (YieldsK.bin (xv := .int .i64 ((x : Nat) : Int)) (yv := .int .i64 ((2 : Nat) : Int)) (show _ = (.int .i64 ((x : Nat) : Int) : Value) from rfl) (show _ = (.int .i64 ((2 : Nat) : Int) : Value) from rfl) rfl (i64_quo _ (x) (2) (by omega) (by omega)) ?_)    -- ref.go:82 t46 := (Op.binOp BinOp.quo 3 (Operand.tmp 45) (Operand.const (Value.int IntKind.i64 2)) 3)
                    refine opsF_step rfl (YieldsK.assign (show _ = (.int .i64 (((x) / (2) : Nat) : Int) : Value) from rfl) ?_)    -- ref.go:82 t14 := (Op.assign (Operand.tmp 46))
                    refine opsF_end (fun ρ => ρ 0 = (vb : Value) ∧ ρ 1 = (v : Value) ∧ ρ 6 = (.int .i64 ((sa : Nat) : Int) : Value) ∧ ρ 7 = (.int .i64 ((sb : Nat) : Int) : Value) ∧ ρ 8 = (.int .i64 ((i : Nat) : Int) : Value) ∧ ρ 9 = (.int .i64 ((0 : Nat) : Int) : Value) ∧ ρ 10 = (vo : Value) ∧ ρ 11 = (.int .i64 ((x : Nat) : Int) : Value) ∧ ρ 12 = (.int .i64 (((i) + k : Nat) : Int) : Value) ∧ ρ 13 = (.int .i64 ((0 : Nat) : Int) : Value) ∧ ρ 14 = (.int .i64 (((x) / (2) : Nat) : Int) : Value) ∧ ρ 26 = (.bool (false) : Value) ∧ True) ⟨T0, T1, T6, T7, T8, T9, T10, T11, T12, T13, rfl, T26, trivial⟩ fun ρ118 ⟨T0, T1, T6, T7, T8, T9, T10, T11, T12, T13, T14, T26, _⟩ => ?_
                    refine thenF_normal (hK117 _ _ ?_)
                    refine wpF_seq_k fun K119 hK119 => ?_
                    refine wpF_seq_k fun K120 hK120 => ?_
                    refine wpF_text ?_
                    refine opsF_step rfl (YieldsK.move (show _ = (.int .i64 ((0 : Nat) : Int) : Value) from T13) ?_)    -- ref.go:83 t47 := (Op.move (Operand.tmp 13))
                    refine opsF_step rfl (YieldsK.eqI (a := ((0 : Nat) : Int)) (b := ((0 : Nat) : Int)) (show _ = (.int .i64 ((0 : Nat) : Int) : Value) from rfl) (show _ = (.int .i64 ((0 : Nat) : Int) : Value) from rfl) (k_neq _ .i64 (0) (0)) ?_)    -- ref.go:83 t48 := (Op.binOp BinOp.neq 3 (Operand.tmp 47) (Operand.const (Value.int IntKind.i64 0)) 3)
                    refine opsF_step rfl (YieldsK.move (show _ = (.bool (false) : Value) from (congrArg Value.bool (decide_eq_false (by decide)))) ?_)    -- ref.go:83 t49 := (Op.move (Operand.tmp 48))
                    refine opsF_on (d := 49) rfl rfl (show _ = (.bool (false) : Value) from rfl) (YieldsK.move (show _ = (.int .i64 (((x) / (2) : Nat) : Int) : Value) from T14) ?_)    -- ref.go:83 t50 := (Op.move (Operand.tmp 14))
                    refine opsF_on (d := 49) rfl rfl (show _ = (.bool (false) : Value) from rfl) (YieldsK.eqI (a := (((x) / (2) : Nat) : Int)) (b := ((1 : Nat) : Int)) (show _ = (.int .i64 (((x) / (2) : Nat) : Int) : Value) from rfl) (show _ = (.int .i64 ((1 : Nat) : Int) : Value) from rfl) (k_lss _ .i64 ((x) / (2)) (1)) ?_)    -- ref.go:83 t51 := (Op.binOp BinOp.lss 3 (Operand.tmp 50) (Operand.const (Value.int IntKind.i64 1)) 3)
                    refine opsF_step rfl (YieldsK.pickF (show _ = (.bool (false) : Value) from rfl) (show _ = (.bool (false) : Value) from (congrArg Value.bool (decide_eq_false (s1)))) ?_)    -- ref.go:83 t52 := (Op.pick (Operand.tmp 49) (Operand.const (Value.bool true)) (Operand.tmp 51))
                    refine opsF_step rfl (YieldsK.move (show _ = (.bool (false) : Value) from rfl) ?_)    -- ref.go:83 t53 := (Op.move (Operand.tmp 52))
                    refine opsF_on (d := 53) rfl rfl (show _ = (.bool (false) : Value) from rfl) (YieldsK.move (show _ = (.int .i64 (((x) / (2) : Nat) : Int) : Value) from T14) ?_)    -- ref.go:83 t54 := (Op.move (Operand.tmp 14))
                    refine opsF_on (d := 53) rfl rfl (show _ = (.bool (false) : Value) from rfl) (YieldsK.move (show _ = (.int .i64 ((sb : Nat) : Int) : Value) from T7) ?_)    -- ref.go:83 t55 := (Op.move (Operand.tmp 7))
                    refine opsF_on (d := 53) rfl rfl (show _ = (.bool (false) : Value) from rfl) (YieldsK.move (show _ = (vo : Value) from T10) ?_)    -- ref.go:83 t56 := (Op.move (Operand.tmp 10))
                    refine opsF_on (d := 53) rfl rfl (show _ = (.bool (false) : Value) from rfl) (YieldsK.lenRB del19_ty22 (RB.of (RB.ofOwn ho_vo) (show _ = (vo : Value) from rfl)) ?_)    -- ref.go:83 t57 := (Op.call { callee := (Callee.builtin Builtin.len), args := #[(Operand.tmp 56)], argTypes := #[22] })
                    refine opsF_on (d := 53) rfl rfl (show _ = (.bool (false) : Value) from rfl) (YieldsK.bin (xv := .int .i64 ((sb : Nat) : Int)) (yv := .int .i64 ((o.length : Nat) : Int)) (show _ = (.int .i64 ((sb : Nat) : Int) : Value) from rfl) (show _ = (.int .i64 ((o.length : Nat) : Int) : Value) from rfl) rfl (i64_sub _ (sb) (o.length) (by omega) (by omega)) ?_)    -- ref.go:83 t58 := (Op.binOp BinOp.sub 3 (Operand.tmp 55) (Operand.tmp 57) 3)
                    refine opsF_on (d := 53) rfl rfl (show _ = (.bool (false) : Value) from rfl) (YieldsK.eqI (a := (((x) / (2) : Nat) : Int)) (b := (((sb) - (o.length) : Nat) : Int)) (show _ = (.int .i64 (((x) / (2) : Nat) : Int) : Value) from rfl) (show _ = (.int .i64 (((sb) - (o.length) : Nat) : Int) : Value) from rfl) (k_gtr _ .i64 ((x) / (2)) ((sb) - (o.length))) ?_)    -- ref.go:83 t59 := (Op.binOp BinOp.gtr 3 (Operand.tmp 54) (Operand.tmp 58) 3)
                    refine opsF_step rfl (YieldsK.pickF (show _ = (.bool (false) : Value) from rfl) (show _ = (.bool (false) : Value) from (congrArg Value.bool (decide_eq_false (s2)))) ?_)    -- ref.go:83 t60 := (Op.pick (Operand.tmp 53) (Operand.const (Value.bool true)) (Operand.tmp 59))
                    refine opsF_end (fun ρ => ρ 0 = (vb : Value) ∧ ρ 1 = (v : Value) ∧ ρ 6 = (.int .i64 ((sa : Nat) : Int) : Value) ∧ ρ 7 = (.int .i64 ((sb : Nat) : Int) : Value) ∧ ρ 8 = (.int .i64 ((i : Nat) : Int) : Value) ∧ ρ 9 = (.int .i64 ((0 : Nat) : Int) : Value) ∧ ρ 10 = (vo : Value) ∧ ρ 11 = (.int .i64 ((x : Nat) : Int) : Value) ∧ ρ 12 = (.int .i64 (((i) + k : Nat) : Int) : Value) ∧ ρ 13 = (.int .i64 ((0 : Nat) : Int) : Value) ∧ ρ 14 = (.int .i64 (((x) / (2) : Nat) : Int) : Value) ∧ ρ 26 = (.bool (false) : Value) ∧ ρ 60 = (.bool (false) : Value) ∧ True) ⟨T0, T1, T6, T7, T8, T9, T10, T11, T12, T13, T14, T26, rfl, trivial⟩ fun ρ121 ⟨T0, T1, T6, T7, T8, T9, T10, T11, T12, T13, T14, T26, T60, _⟩ => ?_
                    refine thenF_normal (hK120 _ _ ?_)
                    refine wpF_false (show _ = (.bool (false) : Value) from T60) ?_
                    refine wpF_skip ?_
                    refine thenF_normal (hK119 _ _ ?_)
                    refine wpF_seq_k fun K122 hK122 => ?_
                    refine wpF_seq_k fun K123 hK123 => ?_
                    refine wpF_text ?_
                    refine opsF_step rfl (YieldsK.move (show _ = (.int .i64 ((x : Nat) : Int) : Value) from T11) ?_)    -- ref.go:86 t61 := (Op.move (Operand.tmp 11))
                    refine opsF_step rfl (YieldsK.bin (xv := .int .i64 ((x : Nat) : Int)) (yv := .int .i64 ((2 : Nat) : Int)) (show _ = (.int .i64 ((x : Nat) : Int) : Value) from rfl) (show _ = (.int .i64 ((2 : Nat) : Int) : Value) from rfl) rfl (i64_rem _ (x) (2) (by omega)) ?_)    -- ref.go:86 t62 := (Op.binOp BinOp.rem 3 (Operand.tmp 61) (Operand.const (Value.int IntKind.i64 2)) 3)
                    refine opsF_step rfl (YieldsK.eqI (a := (((x) % (2) : Nat) : Int)) (b := ((0 : Nat) : Int)) (show _ = (.int .i64 (((x) % (2) : Nat) : Int) : Value) from rfl) (show _ = (.int .i64 ((0 : Nat) : Int) : Value) from rfl) (k_eql _ .i64 ((x) % (2)) (0)) ?_)    -- ref.go:86 t63 := (Op.binOp BinOp.eql 3 (Operand.tmp 62) (Operand.const (Value.int IntKind.i64 0)) 3)
                    refine opsF_end (fun ρ => ρ 0 = (vb : Value) ∧ ρ 1 = (v : Value) ∧ ρ 6 = (.int .i64 ((sa : Nat) : Int) : Value) ∧ ρ 7 = (.int .i64 ((sb : Nat) : Int) : Value) ∧ ρ 8 = (.int .i64 ((i : Nat) : Int) : Value) ∧ ρ 9 = (.int .i64 ((0 : Nat) : Int) : Value) ∧ ρ 10 = (vo : Value) ∧ ρ 11 = (.int .i64 ((x : Nat) : Int) : Value) ∧ ρ 12 = (.int .i64 (((i) + k : Nat) : Int) : Value) ∧ ρ 13 = (.int .i64 ((0 : Nat) : Int) : Value) ∧ ρ 14 = (.int .i64 (((x) / (2) : Nat) : Int) : Value) ∧ ρ 26 = (.bool (false) : Value) ∧ ρ 60 = (.bool (false) : Value) ∧ ρ 63 = (.bool (false) : Value) ∧ True) ⟨T0, T1, T6, T7, T8, T9, T10, T11, T12, T13, T14, T26, T60, (congrArg Value.bool (decide_eq_false (he))), trivial⟩ fun ρ124 ⟨T0, T1, T6, T7, T8, T9, T10, T11, T12, T13, T14, T26, T60, T63, _⟩ => ?_
                    refine thenF_normal (hK123 _ _ ?_)
                    refine wpF_false (show _ = (.bool (false) : Value) from T63) ?_
                    refine wpF_skip ?_
                    refine thenF_normal (hK122 _ _ ?_)
                    refine wpF_seq_k fun K125 hK125 => ?_
                    refine wpF_text ?_
                    refine opsF_step rfl (YieldsK.move (show _ = (v : Value) from T1) ?_)    -- ref.go:94 t82 := (Op.move (Operand.tmp 1))
                    refine opsF_step rfl (YieldsK.move (show _ = (.int .i64 (((i) + k : Nat) : Int) : Value) from T12) ?_)    -- ref.go:94 t83 := (Op.move (Operand.tmp 12))
                    refine opsF_step rfl (YieldsK.callA2 del19_pl25 (show _ = (v : Value) from rfl) (show _ = (.int .i64 (((i) + k : Nat) : Int) : Value) from rfl) ?_)    -- ref.go:94 t84 := (Op.call { callee := (Callee.value (Operand.func 25)), args := #[(Operand.tmp 82), (Operand.tmp 83)], argTypes
                    refine (refGetNo _ v D (hr.keep hE) ((i) + k) (by omega) hlen hgp).mono ?_
                    rintro e w127 ⟨rfl, hx126⟩
                    refine ⟨_, rfl, ?_⟩
                    have hE : Ext w w127 := (hE.trans hx126)
                    have ho_vo : w127.ownsRow w.heap.size 5 1 vo o.length (Lib.byteCells (o)) := (Stab.own _ _ _ _ _ _ _ _ ho_vo hx126)
                    refine opsF_step rfl (YieldsK.move (show _ = (.tuple #[.int .i64 ((0 : Nat) : Int), .int .i64 ((0 : Nat) : Int), .int .i64 ((6 : Nat) : Int)] : Value) from rfl) ?_)    -- ref.go:94 t81 := (Op.move (Operand.tmp 84))
                    refine opsF_step rfl (YieldsK.extract (vs := [.int .i64 ((0 : Nat) : Int), .int .i64 ((0 : Nat) : Int), .int .i64 ((6 : Nat) : Int)]) (show _ = (.tuple #[.int .i64 ((0 : Nat) : Int), .int .i64 ((0 : Nat) : Int), .int .i64 ((6 : Nat) : Int)] : Value) from rfl) (show _ = some (.int .i64 ((0 : Nat) : Int) : Value) from rfl) ?_)    -- ref.go:94 t85 := (Op.extract (Operand.tmp 81) 0)
                    refine opsF_step rfl (YieldsK.extract (vs := [.int .i64 ((0 : Nat) : Int), .int .i64 ((0 : Nat) : Int), .int .i64 ((6 : Nat) : Int)]) (show _ = (.tuple #[.int .i64 ((0 : Nat) : Int), .int .i64 ((0 : Nat) : Int), .int .i64 ((6 : Nat) : Int)] : Value) from rfl) (show _ = some (.int .i64 ((0 : Nat) : Int) : Value) from rfl) ?_)    -- ref.go:94 t86 := (Op.extract (Operand.tmp 81) 1)
                    refine opsF_step rfl (YieldsK.extract (vs := [.int .i64 ((0 : Nat) : Int), .int .i64 ((0 : Nat) : Int), .int .i64 ((6 : Nat) : Int)]) (show _ = (.tuple #[.int .i64 ((0 : Nat) : Int), .int .i64 ((0 : Nat) : Int), .int .i64 ((6 : Nat) : Int)] : Value) from rfl) (show _ = some (.int .i64 ((6 : Nat) : Int) : Value) from rfl) ?_)    -- ref.go:94 t87 := (Op.extract (Operand.tmp 81) 2)
                    refine opsF_step rfl (YieldsK.assign (show _ = (.int .i64 ((0 : Nat) : Int) : Value) from rfl) ?_)    -- ref.go:94 t15 := (Op.assign (Operand.tmp 85))
                    refine opsF_step rfl (YieldsK.assign (show _ = (.int .i64 ((0 : Nat) : Int) : Value) from rfl) ?_)    -- ref.go:94 t16 := (Op.assign (Operand.tmp 86))
                    refine opsF_step rfl (YieldsK.assign (show _ = (.int .i64 ((6 : Nat) : Int) : Value) from rfl) ?_)    -- ref.go:94 t17 := (Op.assign (Operand.tmp 87))
                    refine opsF_end (fun ρ => ρ 0 = (vb : Value) ∧ ρ 1 = (v : Value) ∧ ρ 6 = (.int .i64 ((sa : Nat) : Int) : Value) ∧ ρ 7 = (.int .i64 ((sb : Nat) : Int) : Value) ∧ ρ 8 = (.int .i64 ((i : Nat) : Int) : Value) ∧ ρ 9 = (.int .i64 ((0 : Nat) : Int) : Value) ∧ ρ 10 = (vo : Value) ∧ ρ 11 = (.int .i64 ((x : Nat) : Int) : Value) ∧ ρ 12 = (.int .i64 (((i) + k : Nat) : Int) : Value) ∧ ρ 13 = (.int .i64 ((0 : Nat) : Int) : Value) ∧ ρ 14 = (.int .i64 (((x) / (2) : Nat) : Int) : Value) ∧ ρ 15 = (.int .i64 ((0 : Nat) : Int) : Value) ∧ ρ 16 = (.int .i64 ((0 : Nat) : Int) : Value) ∧ ρ 17 = (.int .i64 ((6 : Nat) : Int) : Value) ∧ ρ 26 = (.bool (false) : Value) ∧ ρ 60 = (.bool (false) : Value) ∧ ρ 63 = (.bool (false) : Value) ∧ True) ⟨T0, T1, T6, T7, T8, T9, T10, T11, T12, T13, T14, rfl, rfl, rfl, T26, T60, T63, trivial⟩ fun ρ128 ⟨T0, T1, T6, T7, T8, T9, T10, T11, T12, T13, T14, T15, T16, T17, T26, T60, T63, _⟩ => ?_
                    refine thenF_normal (hK125 _ _ ?_)
                    refine wpF_seq_k fun K129 hK129 => ?_
                    refine wpF_seq_k fun K130 hK130 => ?_
                    refine wpF_text ?_
                    refine opsF_step rfl (YieldsK.move (show _ = (.int .i64 ((6 : Nat) : Int) : Value) from T17) ?_)    -- ref.go:95 t88 := (Op.move (Operand.tmp 17))
                    refine opsF_step rfl (YieldsK.eqI (a := ((6 : Nat) : Int)) (b := ((0 : Nat) : Int)) (show _ = (.int .i64 ((6 : Nat) : Int) : Value) from rfl) (show _ = (.int .i64 ((0 : Nat) : Int) : Value) from rfl) (k_neq _ .i64 (6) (0)) ?_)    -- ref.go:95 t89 := (Op.binOp BinOp.neq 3 (Operand.tmp 88) (Operand.const (Value.int IntKind.i64 0)) 3)
                    refine opsF_step rfl (YieldsK.move (show _ = (.bool (true) : Value) from (congrArg Value.bool (decide_eq_true (by decide)))) ?_)    -- ref.go:95 t90 := (Op.move (Operand.tmp 89))
                    refine opsF_off (d := 90) rfl rfl rfl (show _ = (.bool (true) : Value) from rfl) rfl ?_    -- ref.go:95 t91 := (Op.move (Operand.tmp 15))
                    refine opsF_off (d := 90) rfl rfl rfl (show _ = (.bool (true) : Value) from rfl) rfl ?_    -- ref.go:95 t92 := (Op.move (Operand.tmp 0))
                    refine opsF_off (d := 90) rfl rfl rfl (show _ = (.bool (true) : Value) from rfl) rfl ?_    -- ref.go:95 t93 := (Op.call { callee := (Callee.builtin Builtin.len), args := #[(Operand.tmp 92)], argTypes := #[22] })
                    refine opsF_off (d := 90) rfl rfl rfl (show _ = (.bool (true) : Value) from rfl) rfl ?_    -- ref.go:95 t94 := (Op.binOp BinOp.gtr 3 (Operand.tmp 91) (Operand.tmp 93) 3)
                    refine opsF_step rfl (YieldsK.pickT (show _ = (.bool (true) : Value) from rfl) (show _ = (.bool (true) : Value) from rfl) ?_)    -- ref.go:95 t95 := (Op.pick (Operand.tmp 90) (Operand.const (Value.bool true)) (Operand.tmp 94))
                    refine opsF_step rfl (YieldsK.move (show _ = (.bool (true) : Value) from rfl) ?_)    -- ref.go:95 t96 := (Op.move (Operand.tmp 95))
                    refine opsF_off (d := 96) rfl rfl rfl (show _ = (.bool (true) : Value) from rfl) rfl ?_    -- ref.go:95 t97 := (Op.move (Operand.tmp 14))
                    refine opsF_off (d := 96) rfl rfl rfl (show _ = (.bool (true) : Value) from rfl) rfl ?_    -- ref.go:95 t98 := (Op.move (Operand.tmp 0))
                    refine opsF_off (d := 96) rfl rfl rfl (show _ = (.bool (true) : Value) from rfl) rfl ?_    -- ref.go:95 t99 := (Op.call { callee := (Callee.builtin Builtin.len), args := #[(Operand.tmp 98)], argTypes := #[22] })
                    refine opsF_off (d := 96) rfl rfl rfl (show _ = (.bool (true) : Value) from rfl) rfl ?_    -- ref.go:95 t100 := (Op.move (Operand.tmp 15))
                    refine opsF_off (d := 96) rfl rfl rfl (show _ = (.bool (true) : Value) from rfl) rfl ?_    -- ref.go:95 t101 := (Op.binOp BinOp.sub 3 (Operand.tmp 99) (Operand.tmp 100) 3)
                    refine opsF_off (d := 96) rfl rfl rfl (show _ = (.bool (true) : Value) from rfl) rfl ?_    -- ref.go:95 t102 := (Op.binOp BinOp.gtr 3 (Operand.tmp 97) (Operand.tmp 101) 3)
                    refine opsF_step rfl (YieldsK.pickT (show _ = (.bool (true) : Value) from rfl) (show _ = (.bool (true) : Value) from rfl) ?_)    -- ref.go:95 t103 := (Op.pick (Operand.tmp 96) (Operand.const (Value.bool true)) (Operand.tmp 102))
                    refine opsF_end (fun ρ => ρ 0 = (vb : Value) ∧ ρ 1 = (v : Value) ∧ ρ 6 = (.int .i64 ((sa : Nat) : Int) : Value) ∧ ρ 7 = (.int .i64 ((sb : Nat) : Int) : Value) ∧ ρ 8 = (.int .i64 ((i : Nat) : Int) : Value) ∧ ρ 9 = (.int .i64 ((0 : Nat) : Int) : Value) ∧ ρ 10 = (vo : Value) ∧ ρ 11 = (.int .i64 ((x : Nat) : Int) : Value) ∧ ρ 12 = (.int .i64 (((i) + k : Nat) : Int) : Value) ∧ ρ 13 = (.int .i64 ((0 : Nat) : Int) : Value) ∧ ρ 14 = (.int .i64 (((x) / (2) : Nat) : Int) : Value) ∧ ρ 15 = (.int .i64 ((0 : Nat) : Int) : Value) ∧ ρ 16 = (.int .i64 ((0 : Nat) : Int) : Value) ∧ ρ 17 = (.int .i64 ((6 : Nat) : Int) : Value) ∧ ρ 26 = (.bool (false) : Value) ∧ ρ 60 = (.bool (false) : Value) ∧ ρ 63 = (.bool (false) : Value) ∧ ρ 103 = (.bool (true) : Value) ∧ True) ⟨T0, T1, T6, T7, T8, T9, T10, T11, T12, T13, T14, T15, T16, T17, T26, T60, T63, rfl, trivial⟩ fun ρ131 ⟨T0, T1, T6, T7, T8, T9, T10, T11, T12, T13, T14, T15, T16, T17, T26, T60, T63, T103, _⟩ => ?_
                    refine thenF_normal (hK130 _ _ ?_)
                    refine wpF_true (show _ = (.bool (true) : Value) from T103) ?_
                    refine wpF_seq_k fun K132 hK132 => ?_
                    refine wpF_text ?_
                    refine opsF_step rfl (YieldsK.assign (show _ = ((Value.slice none 0 0) : Value) from rfl) ?_)    -- ref.go:96 t4 := (Op.assign (Operand.const (Value.slice none 0 0)))
                    refine opsF_step rfl (YieldsK.assign (show _ = (.int .i64 ((6 : Nat) : Int) : Value) from rfl) ?_)    -- ref.go:96 t5 := (Op.assign (Operand.const (Value.int IntKind.i64 6)))
                    refine opsF_end (fun ρ => ρ 0 = (vb : Value) ∧ ρ 1 = (v : Value) ∧ ρ 4 = ((Value.slice none 0 0) : Value) ∧ ρ 5 = (.int .i64 ((6 : Nat) : Int) : Value) ∧ ρ 6 = (.int .i64 ((sa : Nat) : Int) : Value) ∧ ρ 7 = (.int .i64 ((sb : Nat) : Int) : Value) ∧ ρ 8 = (.int .i64 ((i : Nat) : Int) : Value) ∧ ρ 9 = (.int .i64 ((0 : Nat) : Int) : Value) ∧ ρ 10 = (vo : Value) ∧ ρ 11 = (.int .i64 ((x : Nat) : Int) : Value) ∧ ρ 12 = (.int .i64 (((i) + k : Nat) : Int) : Value) ∧ ρ 13 = (.int .i64 ((0 : Nat) : Int) : Value) ∧ ρ 14 = (.int .i64 (((x) / (2) : Nat) : Int) : Value) ∧ ρ 15 = (.int .i64 ((0 : Nat) : Int) : Value) ∧ ρ 16 = (.int .i64 ((0 : Nat) : Int) : Value) ∧ ρ 17 = (.int .i64 ((6 : Nat) : Int) : Value) ∧ ρ 26 = (.bool (false) : Value) ∧ ρ 60 = (.bool (false) : Value) ∧ ρ 63 = (.bool (false) : Value) ∧ ρ 103 = (.bool (true) : Value) ∧ True) ⟨T0, T1, rfl, rfl, T6, T7, T8, T9, T10, T11, T12, T13, T14, T15, T16, T17, T26, T60, T63, T103, trivial⟩ fun ρ133 ⟨T0, T1, T4, T5, T6, T7, T8, T9, T10, T11, T12, T13, T14, T15, T16, T17, T26, T60, T63, T103, _⟩ => ?_
                    refine thenF_normal (hK132 _ _ ?_)
                    refine wpF_ret (thenF_ret (inBlockF_ret (thenF_ret (inBlockF_ret (thenF_ret ?_)))))
                    refine postF_ret (fn := Try.f13) _ rfl [(Value.slice none 0 0), .int .i64 ((6 : Nat) : Int)] (.tuple #[(Value.slice none 0 0), .int .i64 ((6 : Nat) : Int)]) rfl ⟨T4, T5, trivial⟩ ?_
                    rw [hfail] at hgo
                    have hP : applyP B D = ([], 6) := by rw [applyP, hsz]; simp only; rw [if_neg hc1, if_neg hc2, ← hgo]
                    rw [hP]
                    exact ⟨_, rfl, RB.nil _, hE⟩
                  · have hqp := lebDec_bound (a := i + k) (by omega) hgp
                    by_cases o1 : B.length < p
                    · have hfail : applyGo B D sb (f' + 1) i o = none := applyGo_fail hc3 (.inl (by rw [pieceP, hgx]; simp only; rw [if_pos (by omega), hgp]; simp only; rw [cutP, if_pos (by omega)]))
                      refine wpF_skip ?_
                      refine thenF_normal (hK34 _ _ ?_)
                      refine wpF_block ?_
                      refine wpF_seq_k fun K134 hK134 => ?_
                      refine wpF_text ?_
                      refine opsF_step rfl (YieldsK.move (show _ = (v : Value) from T1) ?_)    -- ref.go:81 t39 := (Op.move (Operand.tmp 1))
                      refine opsF_step rfl (YieldsK.move (show _ = (.int .i64 ((i : Nat) : Int) : Value) from T8) ?_)    -- ref.go:81 t40 := (Op.move (Operand.tmp 8))
                      refine opsF_step rfl (YieldsK.callA2 del19_pl25 (show _ = (v : Value) from rfl) (show _ = (.int .i64 ((i : Nat) : Int) : Value) from rfl) ?_)    -- ref.go:81 t41 := (Op.call { callee := (Callee.value (Operand.func 25)), args := #[(Operand.tmp 39), (Operand.tmp 40)], argTypes
                      refine (refGetYes _ v D (hr.keep hE) (i) (by omega) hlen x k hgx).mono ?_
                      rintro e w136 ⟨rfl, hx135⟩
                      refine ⟨_, rfl, ?_⟩
                      have hE : Ext w w136 := (hE.trans hx135)
                      have ho_vo : w136.ownsRow w.heap.size 5 1 vo o.length (Lib.byteCells (o)) := (Stab.own _ _ _ _ _ _ _ _ ho_vo hx135)
                      refine opsF_step rfl (YieldsK.move (show _ = (.tuple #[.int .i64 ((x : Nat) : Int), .int .i64 (((i) + k : Nat) : Int), .int .i64 ((0 : Nat) : Int)] : Value) from rfl) ?_)    -- ref.go:81 t38 := (Op.move (Operand.tmp 41))
                      refine opsF_step rfl (YieldsK.extract (vs := [.int .i64 ((x : Nat) : Int), .int .i64 (((i) + k : Nat) : Int), .int .i64 ((0 : Nat) : Int)]) (show _ = (.tuple #[.int .i64 ((x : Nat) : Int), .int .i64 (((i) + k : Nat) : Int), .int .i64 ((0 : Nat) : Int)] : Value) from rfl) (show _ = some (.int .i64 ((x : Nat) : Int) : Value) from rfl) ?_)    -- ref.go:81 t42 := (Op.extract (Operand.tmp 38) 0)
                      refine opsF_step rfl (YieldsK.extract (vs := [.int .i64 ((x : Nat) : Int), .int .i64 (((i) + k : Nat) : Int), .int .i64 ((0 : Nat) : Int)]) (show _ = (.tuple #[.int .i64 ((x : Nat) : Int), .int .i64 (((i) + k : Nat) : Int), .int .i64 ((0 : Nat) : Int)] : Value) from rfl) (show _ = some (.int .i64 (((i) + k : Nat) : Int) : Value) from rfl) ?_)    -- ref.go:81 t43 := (Op.extract (Operand.tmp 38) 1)
                      refine opsF_step rfl (YieldsK.extract (vs := [.int .i64 ((x : Nat) : Int), .int .i64 (((i) + k : Nat) : Int), .int .i64 ((0 : Nat) : Int)]) (show _ = (.tuple #[.int .i64 ((x : Nat) : Int), .int .i64 (((i) + k : Nat) : Int), .int .i64 ((0 : Nat) : Int)] : Value) from rfl) (show _ = some (.int .i64 ((0 : Nat) : Int) : Value) from rfl) ?_)    -- ref.go:81 t44 := (Op.extract (Operand.tmp 38) 2)
                      refine opsF_step rfl (YieldsK.assign (show _ = (.int .i64 ((x : Nat) : Int) : Value) from rfl) ?_)    -- ref.go:81 t11 := (Op.assign (Operand.tmp 42))
                      refine opsF_step rfl (YieldsK.assign (show _ = (.int .i64 (((i) + k : Nat) : Int) : Value) from rfl) ?_)    -- ref.go:81 t12 := (Op.assign (Operand.tmp 43))
                      refine opsF_step rfl (YieldsK.assign (show _ = (.int .i64 ((0 : Nat) : Int) : Value) from rfl) ?_)    -- ref.go:81 t13 := (Op.assign (Operand.tmp 44))
                      refine opsF_end (fun ρ => ρ 0 = (vb : Value) ∧ ρ 1 = (v : Value) ∧ ρ 6 = (.int .i64 ((sa : Nat) : Int) : Value) ∧ ρ 7 = (.int .i64 ((sb : Nat) : Int) : Value) ∧ ρ 8 = (.int .i64 ((i : Nat) : Int) : Value) ∧ ρ 9 = (.int .i64 ((0 : Nat) : Int) : Value) ∧ ρ 10 = (vo : Value) ∧ ρ 11 = (.int .i64 ((x : Nat) : Int) : Value) ∧ ρ 12 = (.int .i64 (((i) + k : Nat) : Int) : Value) ∧ ρ 13 = (.int .i64 ((0 : Nat) : Int) : Value) ∧ ρ 26 = (.bool (false) : Value) ∧ True) ⟨T0, T1, T6, T7, T8, T9, T10, rfl, rfl, rfl, T26, trivial⟩ fun ρ137 ⟨T0, T1, T6, T7, T8, T9, T10, T11, T12, T13, T26, _⟩ => ?_
                      refine thenF_normal (hK134 _ _ ?_)
                      refine wpF_seq_k fun K138 hK138 => ?_
                      refine wpF_text ?_
                      refine opsF_step rfl (YieldsK.move (show _ = (.int .i64 ((x : Nat) : Int) : Value) from T11) ?_)    -- ref.go:82 t45 := (Op.move (Operand.tmp 11))
                      refine opsF_step rfl (YieldsK.bin (xv := .int .i64 ((x : Nat) : Int)) (yv := .int .i64 ((2 : Nat) : Int)) (show _ = (.int .i64 ((x : Nat) : Int) : Value) from rfl) (show _ = (.int .i64 ((2 : Nat) : Int) : Value) from rfl) rfl (i64_quo _ (x) (2) (by omega) (by omega)) ?_)    -- ref.go:82 t46 := (Op.binOp BinOp.quo 3 (Operand.tmp 45) (Operand.const (Value.int IntKind.i64 2)) 3)
                      refine opsF_step rfl (YieldsK.assign (show _ = (.int .i64 (((x) / (2) : Nat) : Int) : Value) from rfl) ?_)    -- ref.go:82 t14 := (Op.assign (Operand.tmp 46))
                      refine opsF_end (fun ρ => ρ 0 = (vb : Value) ∧ ρ 1 = (v : Value) ∧ ρ 6 = (.int .i64 ((sa : Nat) : Int) : Value) ∧ ρ 7 = (.int .i64 ((sb : Nat) : Int) : Value) ∧ ρ 8 = (.int .i64 ((i : Nat) : Int) : Value) ∧ ρ 9 = (.int .i64 ((0 : Nat) : Int) : Value) ∧ ρ 10 = (vo : Value) ∧ ρ 11 = (.int .i64 ((x : Nat) : Int) : Value) ∧ ρ 12 = (.int .i64 (((i) + k : Nat) : Int) : Value) ∧ ρ 13 = (.int .i64 ((0 : Nat) : Int) : Value) ∧ ρ 14 = (.int .i64 (((x) / (2) : Nat) : Int) : Value) ∧ ρ 26 = (.bool (false) : Value) ∧ True) ⟨T0, T1, T6, T7, T8, T9, T10, T11, T12, T13, rfl, T26, trivial⟩ fun ρ139 ⟨T0, T1, T6, T7, T8, T9, T10, T11, T12, T13, T14, T26, _⟩ => ?_
                      refine thenF_normal (hK138 _ _ ?_)
                      refine wpF_seq_k fun K140 hK140 => ?_
                      refine wpF_seq_k fun K141 hK141 => ?_
                      refine wpF_text ?_
                      refine opsF_step rfl (YieldsK.move (show _ = (.int .i64 ((0 : Nat) : Int) : Value) from T13) ?_)    -- ref.go:83 t47 := (Op.move (Operand.tmp 13))
                      refine opsF_step rfl (YieldsK.eqI (a := ((0 : Nat) : Int)) (b := ((0 : Nat) : Int)) (show _ = (.int .i64 ((0 : Nat) : Int) : Value) from rfl) (show _ = (.int .i64 ((0 : Nat) : Int) : Value) from rfl) (k_neq _ .i64 (0) (0)) ?_)    -- ref.go:83 t48 := (Op.binOp BinOp.neq 3 (Operand.tmp 47) (Operand.const (Value.int IntKind.i64 0)) 3)
                      refine opsF_step rfl (YieldsK.move (show _ = (.bool (false) : Value) from (congrArg Value.bool (decide_eq_false (by decide)))) ?_)    -- ref.go:83 t49 := (Op.move (Operand.tmp 48))
                      refine opsF_on (d := 49) rfl rfl (show _ = (.bool (false) : Value) from rfl) (YieldsK.move (show _ = (.int .i64 (((x) / (2) : Nat) : Int) : Value) from T14) ?_)    -- ref.go:83 t50 := (Op.move (Operand.tmp 14))
                      refine opsF_on (d := 49) rfl rfl (show _ = (.bool (false) : Value) from rfl) (YieldsK.eqI (a := (((x) / (2) : Nat) : Int)) (b := ((1 : Nat) : Int)) (show _ = (.int .i64 (((x) / (2) : Nat) : Int) : Value) from rfl) (show _ = (.int .i64 ((1 : Nat) : Int) : Value) from rfl) (k_lss _ .i64 ((x) / (2)) (1)) ?_)    -- ref.go:83 t51 := (Op.binOp BinOp.lss 3 (Operand.tmp 50) (Operand.const (Value.int IntKind.i64 1)) 3)
                      refine opsF_step rfl (YieldsK.pickF (show _ = (.bool (false) : Value) from rfl) (show _ = (.bool (false) : Value) from (congrArg Value.bool (decide_eq_false (s1)))) ?_)    -- ref.go:83 t52 := (Op.pick (Operand.tmp 49) (Operand.const (Value.bool true)) (Operand.tmp 51))
                      refine opsF_step rfl (YieldsK.move (show _ = (.bool (false) : Value) from rfl) ?_)    -- ref.go:83 t53 := (Op.move (Operand.tmp 52))
                      refine opsF_on (d := 53) rfl rfl (show _ = (.bool (false) : Value) from rfl) (YieldsK.move (show _ = (.int .i64 (((x) / (2) : Nat) : Int) : Value) from T14) ?_)    -- ref.go:83 t54 := (Op.move (Operand.tmp 14))
                      refine opsF_on (d := 53) rfl rfl (show _ = (.bool (false) : Value) from rfl) (YieldsK.move (show _ = (.int .i64 ((sb : Nat) : Int) : Value) from T7) ?_)    -- ref.go:83 t55 := (Op.move (Operand.tmp 7))
                      refine opsF_on (d := 53) rfl rfl (show _ = (.bool (false) : Value) from rfl) (YieldsK.move (show _ = (vo : Value) from T10) ?_)    -- ref.go:83 t56 := (Op.move (Operand.tmp 10))
                      refine opsF_on (d := 53) rfl rfl (show _ = (.bool (false) : Value) from rfl) (YieldsK.lenRB del19_ty22 (RB.of (RB.ofOwn ho_vo) (show _ = (vo : Value) from rfl)) ?_)    -- ref.go:83 t57 := (Op.call { callee := (Callee.builtin Builtin.len), args := #[(Operand.tmp 56)], argTypes := #[22] })
                      refine opsF_on (d := 53) rfl rfl (show _ = (.bool (false) : Value) from rfl) (YieldsK.bin (xv := .int .i64 ((sb : Nat) : Int)) (yv := .int .i64 ((o.length : Nat) : Int)) (show _ = (.int .i64 ((sb : Nat) : Int) : Value) from rfl) (show _ = (.int .i64 ((o.length : Nat) : Int) : Value) from rfl) rfl (i64_sub _ (sb) (o.length) (by omega) (by omega)) ?_)    -- ref.go:83 t58 := (Op.binOp BinOp.sub 3 (Operand.tmp 55) (Operand.tmp 57) 3)
                      refine opsF_on (d := 53) rfl rfl (show _ = (.bool (false) : Value) from rfl) (YieldsK.eqI (a := (((x) / (2) : Nat) : Int)) (b := (((sb) - (o.length) : Nat) : Int)) (show _ = (.int .i64 (((x) / (2) : Nat) : Int) : Value) from rfl) (show _ = (.int .i64 (((sb) - (o.length) : Nat) : Int) : Value) from rfl) (k_gtr _ .i64 ((x) / (2)) ((sb) - (o.length))) ?_)    -- ref.go:83 t59 := (Op.binOp BinOp.gtr 3 (Operand.tmp 54) (Operand.tmp 58) 3)
                      refine opsF_step rfl (YieldsK.pickF (show _ = (.bool (false) : Value) from rfl) (show _ = (.bool (false) : Value) from (congrArg Value.bool (decide_eq_false (s2)))) ?_)    -- ref.go:83 t60 := (Op.pick (Operand.tmp 53) (Operand.const (Value.bool true)) (Operand.tmp 59))
                      refine opsF_end (fun ρ => ρ 0 = (vb : Value) ∧ ρ 1 = (v : Value) ∧ ρ 6 = (.int .i64 ((sa : Nat) : Int) : Value) ∧ ρ 7 = (.int .i64 ((sb : Nat) : Int) : Value) ∧ ρ 8 = (.int .i64 ((i : Nat) : Int) : Value) ∧ ρ 9 = (.int .i64 ((0 : Nat) : Int) : Value) ∧ ρ 10 = (vo : Value) ∧ ρ 11 = (.int .i64 ((x : Nat) : Int) : Value) ∧ ρ 12 = (.int .i64 (((i) + k : Nat) : Int) : Value) ∧ ρ 13 = (.int .i64 ((0 : Nat) : Int) : Value) ∧ ρ 14 = (.int .i64 (((x) / (2) : Nat) : Int) : Value) ∧ ρ 26 = (.bool (false) : Value) ∧ ρ 60 = (.bool (false) : Value) ∧ True) ⟨T0, T1, T6, T7, T8, T9, T10, T11, T12, T13, T14, T26, rfl, trivial⟩ fun ρ142 ⟨T0, T1, T6, T7, T8, T9, T10, T11, T12, T13, T14, T26, T60, _⟩ => ?_
                      refine thenF_normal (hK141 _ _ ?_)
                      refine wpF_false (show _ = (.bool (false) : Value) from T60) ?_
                      refine wpF_skip ?_
                      refine thenF_normal (hK140 _ _ ?_)
                      refine wpF_seq_k fun K143 hK143 => ?_
                      refine wpF_seq_k fun K144 hK144 => ?_
                      refine wpF_text ?_
                      refine opsF_step rfl (YieldsK.move (show _ = (.int .i64 ((x : Nat) : Int) : Value) from T11) ?_)    -- ref.go:86 t61 := (Op.move (Operand.tmp 11))
                      refine opsF_step rfl (YieldsK.bin (xv := .int .i64 ((x : Nat) : Int)) (yv := .int .i64 ((2 : Nat) : Int)) (show _ = (.int .i64 ((x : Nat) : Int) : Value) from rfl) (show _ = (.int .i64 ((2 : Nat) : Int) : Value) from rfl) rfl (i64_rem _ (x) (2) (by omega)) ?_)    -- ref.go:86 t62 := (Op.binOp BinOp.rem 3 (Operand.tmp 61) (Operand.const (Value.int IntKind.i64 2)) 3)
                      refine opsF_step rfl (YieldsK.eqI (a := (((x) % (2) : Nat) : Int)) (b := ((0 : Nat) : Int)) (show _ = (.int .i64 (((x) % (2) : Nat) : Int) : Value) from rfl) (show _ = (.int .i64 ((0 : Nat) : Int) : Value) from rfl) (k_eql _ .i64 ((x) % (2)) (0)) ?_)    -- ref.go:86 t63 := (Op.binOp BinOp.eql 3 (Operand.tmp 62) (Operand.const (Value.int IntKind.i64 0)) 3)
                      refine opsF_end (fun ρ => ρ 0 = (vb : Value) ∧ ρ 1 = (v : Value) ∧ ρ 6 = (.int .i64 ((sa : Nat) : Int) : Value) ∧ ρ 7 = (.int .i64 ((sb : Nat) : Int) : Value) ∧ ρ 8 = (.int .i64 ((i : Nat) : Int) : Value) ∧ ρ 9 = (.int .i64 ((0 : Nat) : Int) : Value) ∧ ρ 10 = (vo : Value) ∧ ρ 11 = (.int .i64 ((x : Nat) : Int) : Value) ∧ ρ 12 = (.int .i64 (((i) + k : Nat) : Int) : Value) ∧ ρ 13 = (.int .i64 ((0 : Nat) : Int) : Value) ∧ ρ 14 = (.int .i64 (((x) / (2) : Nat) : Int) : Value) ∧ ρ 26 = (.bool (false) : Value) ∧ ρ 60 = (.bool (false) : Value) ∧ ρ 63 = (.bool (false) : Value) ∧ True) ⟨T0, T1, T6, T7, T8, T9, T10, T11, T12, T13, T14, T26, T60, (congrArg Value.bool (decide_eq_false (he))), trivial⟩ fun ρ145 ⟨T0, T1, T6, T7, T8, T9, T10, T11, T12, T13, T14, T26, T60, T63, _⟩ => ?_
                      refine thenF_normal (hK144 _ _ ?_)
                      refine wpF_false (show _ = (.bool (false) : Value) from T63) ?_
                      refine wpF_skip ?_
                      refine thenF_normal (hK143 _ _ ?_)
                      refine wpF_seq_k fun K146 hK146 => ?_
                      refine wpF_text ?_
                      refine opsF_step rfl (YieldsK.move (show _ = (v : Value) from T1) ?_)    -- ref.go:94 t82 := (Op.move (Operand.tmp 1))
                      refine opsF_step rfl (YieldsK.move (show _ = (.int .i64 (((i) + k : Nat) : Int) : Value) from T12) ?_)    -- ref.go:94 t83 := (Op.move (Operand.tmp 12))
                      refine opsF_step rfl (YieldsK.callA2 del19_pl25 (show _ = (v : Value) from rfl) (show _ = (.int .i64 (((i) + k : Nat) : Int) : Value) from rfl) ?_)    -- ref.go:94 t84 := (Op.call { callee := (Callee.value (Operand.func 25)), args := #[(Operand.tmp 82), (Operand.tmp 83)], argTypes
                      refine (refGetYes _ v D (hr.keep hE) ((i) + k) (by omega) hlen p m hgp).mono ?_
                      rintro e w148 ⟨rfl, hx147⟩
                      refine ⟨_, rfl, ?_⟩
                      have hE : Ext w w148 := (hE.trans hx147)
                      have ho_vo : w148.ownsRow w.heap.size 5 1 vo o.length (Lib.byteCells (o)) := (Stab.own _ _ _ _ _ _ _ _ ho_vo hx147)
                      refine opsF_step rfl (YieldsK.move (show _ = (.tuple #[.int .i64 ((p : Nat) : Int), .int .i64 ((((i) + k) + m : Nat) : Int), .int .i64 ((0 : Nat) : Int)] : Value) from rfl) ?_)    -- ref.go:94 t81 := (Op.move (Operand.tmp 84))
                      refine opsF_step rfl (YieldsK.extract (vs := [.int .i64 ((p : Nat) : Int), .int .i64 ((((i) + k) + m : Nat) : Int), .int .i64 ((0 : Nat) : Int)]) (show _ = (.tuple #[.int .i64 ((p : Nat) : Int), .int .i64 ((((i) + k) + m : Nat) : Int), .int .i64 ((0 : Nat) : Int)] : Value) from rfl) (show _ = some (.int .i64 ((p : Nat) : Int) : Value) from rfl) ?_)    -- ref.go:94 t85 := (Op.extract (Operand.tmp 81) 0)
                      refine opsF_step rfl (YieldsK.extract (vs := [.int .i64 ((p : Nat) : Int), .int .i64 ((((i) + k) + m : Nat) : Int), .int .i64 ((0 : Nat) : Int)]) (show _ = (.tuple #[.int .i64 ((p : Nat) : Int), .int .i64 ((((i) + k) + m : Nat) : Int), .int .i64 ((0 : Nat) : Int)] : Value) from rfl) (show _ = some (.int .i64 ((((i) + k) + m : Nat) : Int) : Value) from rfl) ?_)    -- ref.go:94 t86 := (Op.extract (Operand.tmp 81) 1)
                      refine opsF_step rfl (YieldsK.extract (vs := [.int .i64 ((p : Nat) : Int), .int .i64 ((((i) + k) + m : Nat) : Int), .int .i64 ((0 : Nat) : Int)]) (show _ = (.tuple #[.int .i64 ((p : Nat) : Int), .int .i64 ((((i) + k) + m : Nat) : Int), .int .i64 ((0 : Nat) : Int)] : Value) from rfl) (show _ = some (.int .i64 ((0 : Nat) : Int) : Value) from rfl) ?_)    -- ref.go:94 t87 := (Op.extract (Operand.tmp 81) 2)
                      refine opsF_step rfl (YieldsK.assign (show _ = (.int .i64 ((p : Nat) : Int) : Value) from rfl) ?_)    -- ref.go:94 t15 := (Op.assign (Operand.tmp 85))
                      refine opsF_step rfl (YieldsK.assign (show _ = (.int .i64 ((((i) + k) + m : Nat) : Int) : Value) from rfl) ?_)    -- ref.go:94 t16 := (Op.assign (Operand.tmp 86))
                      refine opsF_step rfl (YieldsK.assign (show _ = (.int .i64 ((0 : Nat) : Int) : Value) from rfl) ?_)    -- ref.go:94 t17 := (Op.assign (Operand.tmp 87))
                      refine opsF_end (fun ρ => ρ 0 = (vb : Value) ∧ ρ 1 = (v : Value) ∧ ρ 6 = (.int .i64 ((sa : Nat) : Int) : Value) ∧ ρ 7 = (.int .i64 ((sb : Nat) : Int) : Value) ∧ ρ 8 = (.int .i64 ((i : Nat) : Int) : Value) ∧ ρ 9 = (.int .i64 ((0 : Nat) : Int) : Value) ∧ ρ 10 = (vo : Value) ∧ ρ 11 = (.int .i64 ((x : Nat) : Int) : Value) ∧ ρ 12 = (.int .i64 (((i) + k : Nat) : Int) : Value) ∧ ρ 13 = (.int .i64 ((0 : Nat) : Int) : Value) ∧ ρ 14 = (.int .i64 (((x) / (2) : Nat) : Int) : Value) ∧ ρ 15 = (.int .i64 ((p : Nat) : Int) : Value) ∧ ρ 16 = (.int .i64 ((((i) + k) + m : Nat) : Int) : Value) ∧ ρ 17 = (.int .i64 ((0 : Nat) : Int) : Value) ∧ ρ 26 = (.bool (false) : Value) ∧ ρ 60 = (.bool (false) : Value) ∧ ρ 63 = (.bool (false) : Value) ∧ True) ⟨T0, T1, T6, T7, T8, T9, T10, T11, T12, T13, T14, rfl, rfl, rfl, T26, T60, T63, trivial⟩ fun ρ149 ⟨T0, T1, T6, T7, T8, T9, T10, T11, T12, T13, T14, T15, T16, T17, T26, T60, T63, _⟩ => ?_
                      refine thenF_normal (hK146 _ _ ?_)
                      refine wpF_seq_k fun K150 hK150 => ?_
                      refine wpF_seq_k fun K151 hK151 => ?_
                      refine wpF_text ?_
                      refine opsF_step rfl (YieldsK.move (show _ = (.int .i64 ((0 : Nat) : Int) : Value) from T17) ?_)    -- ref.go:95 t88 := (Op.move (Operand.tmp 17))
                      refine opsF_step rfl (YieldsK.eqI (a := ((0 : Nat) : Int)) (b := ((0 : Nat) : Int)) (show _ = (.int .i64 ((0 : Nat) : Int) : Value) from rfl) (show _ = (.int .i64 ((0 : Nat) : Int) : Value) from rfl) (k_neq _ .i64 (0) (0)) ?_)    -- ref.go:95 t89 := (Op.binOp BinOp.neq 3 (Operand.tmp 88) (Operand.const (Value.int IntKind.i64 0)) 3)
                      refine opsF_step rfl (YieldsK.move (show _ = (.bool (false) : Value) from (congrArg Value.bool (decide_eq_false (by decide)))) ?_)    -- ref.go:95 t90 := (Op.move (Operand.tmp 89))
                      refine opsF_on (d := 90) rfl rfl (show _ = (.bool (false) : Value) from rfl) (YieldsK.move (show _ = (.int .i64 ((p : Nat) : Int) : Value) from T15) ?_)    -- ref.go:95 t91 := (Op.move (Operand.tmp 15))
                      refine opsF_on (d := 90) rfl rfl (show _ = (.bool (false) : Value) from rfl) (YieldsK.move (show _ = (vb : Value) from T0) ?_)    -- ref.go:95 t92 := (Op.move (Operand.tmp 0))
                      refine opsF_on (d := 90) rfl rfl (show _ = (.bool (false) : Value) from rfl) (YieldsK.lenRB del19_ty22 (RB.of (hrb.keep hE) (show _ = (vb : Value) from rfl)) ?_)    -- ref.go:95 t93 := (Op.call { callee := (Callee.builtin Builtin.len), args := #[(Operand.tmp 92)], argTypes := #[22] })
                      refine opsF_on (d := 90) rfl rfl (show _ = (.bool (false) : Value) from rfl) (YieldsK.eqI (a := ((p : Nat) : Int)) (b := ((B.length : Nat) : Int)) (show _ = (.int .i64 ((p : Nat) : Int) : Value) from rfl) (show _ = (.int .i64 ((B.length : Nat) : Int) : Value) from rfl) (k_gtr _ .i64 (p) (B.length)) ?_)    -- ref.go:95 t94 := (Op.binOp BinOp.gtr 3 (Operand.tmp 91) (Operand.tmp 93) 3)
                      refine opsF_step rfl (YieldsK.pickF (show _ = (.bool (false) : Value) from rfl) (show _ = (.bool (true) : Value) from (congrArg Value.bool (decide_eq_true (o1)))) ?_)    -- ref.go:95 t95 := (Op.pick (Operand.tmp 90) (Operand.const (Value.bool true)) (Operand.tmp 94))
                      refine opsF_step rfl (YieldsK.move (show _ = (.bool (true) : Value) from rfl) ?_)    -- ref.go:95 t96 := (Op.move (Operand.tmp 95))
                      refine opsF_off (d := 96) rfl rfl rfl (show _ = (.bool (true) : Value) from rfl) rfl ?_    -- ref.go:95 t97 := (Op.move (Operand.tmp 14))
                      refine opsF_off (d := 96) rfl rfl rfl (show _ = (.bool (true) : Value) from rfl) rfl ?_    -- ref.go:95 t98 := (Op.move (Operand.tmp 0))
                      refine opsF_off (d := 96) rfl rfl rfl (show _ = (.bool (true) : Value) from rfl) rfl ?_    -- ref.go:95 t99 := (Op.call { callee := (Callee.builtin Builtin.len), args := #[(Operand.tmp 98)], argTypes := #[22] })
                      refine opsF_off (d := 96) rfl rfl rfl (show _ = (.bool (true) : Value) from rfl) rfl ?_    -- ref.go:95 t100 := (Op.move (Operand.tmp 15))
                      refine opsF_off (d := 96) rfl rfl rfl (show _ = (.bool (true) : Value) from rfl) rfl ?_    -- ref.go:95 t101 := (Op.binOp BinOp.sub 3 (Operand.tmp 99) (Operand.tmp 100) 3)
                      refine opsF_off (d := 96) rfl rfl rfl (show _ = (.bool (true) : Value) from rfl) rfl ?_    -- ref.go:95 t102 := (Op.binOp BinOp.gtr 3 (Operand.tmp 97) (Operand.tmp 101) 3)
                      refine opsF_step rfl (YieldsK.pickT (show _ = (.bool (true) : Value) from rfl) (show _ = (.bool (true) : Value) from rfl) ?_)    -- ref.go:95 t103 := (Op.pick (Operand.tmp 96) (Operand.const (Value.bool true)) (Operand.tmp 102))
                      refine opsF_end (fun ρ => ρ 0 = (vb : Value) ∧ ρ 1 = (v : Value) ∧ ρ 6 = (.int .i64 ((sa : Nat) : Int) : Value) ∧ ρ 7 = (.int .i64 ((sb : Nat) : Int) : Value) ∧ ρ 8 = (.int .i64 ((i : Nat) : Int) : Value) ∧ ρ 9 = (.int .i64 ((0 : Nat) : Int) : Value) ∧ ρ 10 = (vo : Value) ∧ ρ 11 = (.int .i64 ((x : Nat) : Int) : Value) ∧ ρ 12 = (.int .i64 (((i) + k : Nat) : Int) : Value) ∧ ρ 13 = (.int .i64 ((0 : Nat) : Int) : Value) ∧ ρ 14 = (.int .i64 (((x) / (2) : Nat) : Int) : Value) ∧ ρ 15 = (.int .i64 ((p : Nat) : Int) : Value) ∧ ρ 16 = (.int .i64 ((((i) + k) + m : Nat) : Int) : Value) ∧ ρ 17 = (.int .i64 ((0 : Nat) : Int) : Value) ∧ ρ 26 = (.bool (false) : Value) ∧ ρ 60 = (.bool (false) : Value) ∧ ρ 63 = (.bool (false) : Value) ∧ ρ 103 = (.bool (true) : Value) ∧ True) ⟨T0, T1, T6, T7, T8, T9, T10, T11, T12, T13, T14, T15, T16, T17, T26, T60, T63, rfl, trivial⟩ fun ρ152 ⟨T0, T1, T6, T7, T8, T9, T10, T11, T12, T13, T14, T15, T16, T17, T26, T60, T63, T103, _⟩ => ?_
                      refine thenF_normal (hK151 _ _ ?_)
                      refine wpF_true (show _ = (.bool (true) : Value) from T103) ?_
                      refine wpF_seq_k fun K153 hK153 => ?_
                      refine wpF_text ?_
                      refine opsF_step rfl (YieldsK.assign (show _ = ((Value.slice none 0 0) : Value) from rfl) ?_)    -- ref.go:96 t4 := (Op.assign (Operand.const (Value.slice none 0 0)))
                      refine opsF_step rfl (YieldsK.assign (show _ = (.int .i64 ((6 : Nat) : Int) : Value) from rfl) ?_)    -- ref.go:96 t5 := (Op.assign (Operand.const (Value.int IntKind.i64 6)))
                      refine opsF_end (fun ρ => ρ 0 = (vb : Value) ∧ ρ 1 = (v : Value) ∧ ρ 4 = ((Value.slice none 0 0) : Value) ∧ ρ 5 = (.int .i64 ((6 : Nat) : Int) : Value) ∧ ρ 6 = (.int .i64 ((sa : Nat) : Int) : Value) ∧ ρ 7 = (.int .i64 ((sb : Nat) : Int) : Value) ∧ ρ 8 = (.int .i64 ((i : Nat) : Int) : Value) ∧ ρ 9 = (.int .i64 ((0 : Nat) : Int) : Value) ∧ ρ 10 = (vo : Value) ∧ ρ 11 = (.int .i64 ((x : Nat) : Int) : Value) ∧ ρ 12 = (.int .i64 (((i) + k : Nat) : Int) : Value) ∧ ρ 13 = (.int .i64 ((0 : Nat) : Int) : Value) ∧ ρ 14 = (.int .i64 (((x) / (2) : Nat) : Int) : Value) ∧ ρ 15 = (.int .i64 ((p : Nat) : Int) : Value) ∧ ρ 16 = (.int .i64 ((((i) + k) + m : Nat) : Int) : Value) ∧ ρ 17 = (.int .i64 ((0 : Nat) : Int) : Value) ∧ ρ 26 = (.bool (false) : Value) ∧ ρ 60 = (.bool (false) : Value) ∧ ρ 63 = (.bool (false) : Value) ∧ ρ 103 = (.bool (true) : Value) ∧ True) ⟨T0, T1, rfl, rfl, T6, T7, T8, T9, T10, T11, T12, T13, T14, T15, T16, T17, T26, T60, T63, T103, trivial⟩ fun ρ154 ⟨T0, T1, T4, T5, T6, T7, T8, T9, T10, T11, T12, T13, T14, T15, T16, T17, T26, T60, T63, T103, _⟩ => ?_
                      refine thenF_normal (hK153 _ _ ?_)
                      refine wpF_ret (thenF_ret (inBlockF_ret (thenF_ret (inBlockF_ret (thenF_ret ?_)))))
                      refine postF_ret (fn := Try.f13) _ rfl [(Value.slice none 0 0), .int .i64 ((6 : Nat) : Int)] (.tuple #[(Value.slice none 0 0), .int .i64 ((6 : Nat) : Int)]) rfl ⟨T4, T5, trivial⟩ ?_
                      rw [hfail] at hgo
                      have hP : applyP B D = ([], 6) := by rw [applyP, hsz]; simp only; rw [if_neg hc1, if_neg hc2, ← hgo]
                      rw [hP]
                      exact ⟨_, rfl, RB.nil _, hE⟩
                    · by_cases o2 : B.length - p < x / 2
                      · have hfail : applyGo B D sb (f' + 1) i o = none := applyGo_fail hc3 (.inl (by rw [pieceP, hgx]; simp only; rw [if_pos (by omega), hgp]; simp only; rw [cutP, if_pos (by omega)]))
                        refine wpF_skip ?_
                        refine thenF_normal (hK34 _ _ ?_)
                        refine wpF_block ?_
                        refine wpF_seq_k fun K155 hK155 => ?_
                        refine wpF_text ?_
                        refine opsF_step rfl (YieldsK.move (show _ = (v : Value) from T1) ?_)    -- ref.go:81 t39 := (Op.move (Operand.tmp 1))
                        refine opsF_step rfl (YieldsK.move (show _ = (.int .i64 ((i : Nat) : Int) : Value) from T8) ?_)    -- ref.go:81 t40 := (Op.move (Operand.tmp 8))
                        refine opsF_step rfl (YieldsK.callA2 del19_pl25 (show _ = (v : Value) from rfl) (show _ = (.int .i64 ((i : Nat) : Int) : Value) from rfl) ?_)    -- ref.go:81 t41 := (Op.call { callee := (Callee.value (Operand.func 25)), args := #[(Operand.tmp 39), (Operand.tmp 40)], argTypes
                        refine (refGetYes _ v D (hr.keep hE) (i) (by omega) hlen x k hgx).mono ?_
                        rintro e w157 ⟨rfl, hx156⟩
                        refine ⟨_, rfl, ?_⟩
                        have hE : Ext w w157 := (hE.trans hx156)
                        have ho_vo : w157.ownsRow w.heap.size 5 1 vo o.length (Lib.byteCells (o)) := (Stab.own _ _ _ _ _ _ _ _ ho_vo hx156)
                        refine opsF_step rfl (YieldsK.move (show _ = (.tuple #[.int .i64 ((x : Nat) : Int), .int .i64 (((i) + k : Nat) : Int), .int .i64 ((0 : Nat) : Int)] : Value) from rfl) ?_)    -- ref.go:81 t38 := (Op.move (Operand.tmp 41))
                        refine opsF_step rfl (YieldsK.extract (vs := [.int .i64 ((x : Nat) : Int), .int .i64 (((i) + k : Nat) : Int), .int .i64 ((0 : Nat) : Int)]) (show _ = (.tuple #[.int .i64 ((x : Nat) : Int), .int .i64 (((i) + k : Nat) : Int), .int .i64 ((0 : Nat) : Int)] : Value) from rfl) (show _ = some (.int .i64 ((x : Nat) : Int) : Value) from rfl) ?_)    -- ref.go:81 t42 := (Op.extract (Operand.tmp 38) 0)
                        refine opsF_step rfl (YieldsK.extract (vs := [.int .i64 ((x : Nat) : Int), .int .i64 (((i) + k : Nat) : Int), .int .i64 ((0 : Nat) : Int)]) (show _ = (.tuple #[.int .i64 ((x : Nat) : Int), .int .i64 (((i) + k : Nat) : Int), .int .i64 ((0 : Nat) : Int)] : Value) from rfl) (show _ = some (.int .i64 (((i) + k : Nat) : Int) : Value) from rfl) ?_)    -- ref.go:81 t43 := (Op.extract (Operand.tmp 38) 1)
                        refine opsF_step rfl (YieldsK.extract (vs := [.int .i64 ((x : Nat) : Int), .int .i64 (((i) + k : Nat) : Int), .int .i64 ((0 : Nat) : Int)]) (show _ = (.tuple #[.int .i64 ((x : Nat) : Int), .int .i64 (((i) + k : Nat) : Int), .int .i64 ((0 : Nat) : Int)] : Value) from rfl) (show _ = some (.int .i64 ((0 : Nat) : Int) : Value) from rfl) ?_)    -- ref.go:81 t44 := (Op.extract (Operand.tmp 38) 2)
                        refine opsF_step rfl (YieldsK.assign (show _ = (.int .i64 ((x : Nat) : Int) : Value) from rfl) ?_)    -- ref.go:81 t11 := (Op.assign (Operand.tmp 42))
                        refine opsF_step rfl (YieldsK.assign (show _ = (.int .i64 (((i) + k : Nat) : Int) : Value) from rfl) ?_)    -- ref.go:81 t12 := (Op.assign (Operand.tmp 43))
                        refine opsF_step rfl (YieldsK.assign (show _ = (.int .i64 ((0 : Nat) : Int) : Value) from rfl) ?_)    -- ref.go:81 t13 := (Op.assign (Operand.tmp 44))
                        refine opsF_end (fun ρ => ρ 0 = (vb : Value) ∧ ρ 1 = (v : Value) ∧ ρ 6 = (.int .i64 ((sa : Nat) : Int) : Value) ∧ ρ 7 = (.int .i64 ((sb : Nat) : Int) : Value) ∧ ρ 8 = (.int .i64 ((i : Nat) : Int) : Value) ∧ ρ 9 = (.int .i64 ((0 : Nat) : Int) : Value) ∧ ρ 10 = (vo : Value) ∧ ρ 11 = (.int .i64 ((x : Nat) : Int) : Value) ∧ ρ 12 = (.int .i64 (((i) + k : Nat) : Int) : Value) ∧ ρ 13 = (.int .i64 ((0 : Nat) : Int) : Value) ∧ ρ 26 = (.bool (false) : Value) ∧ True) ⟨T0, T1, T6, T7, T8, T9, T10, rfl, rfl, rfl, T26, trivial⟩ fun ρ158 ⟨T0, T1, T6, T7, T8, T9, T10, T11, T12, T13, T26, _⟩ => ?_
                        refine thenF_normal (hK155 _ _ ?_)
                        refine wpF_seq_k fun K159 hK159 => ?_
                        refine wpF_text ?_
                        refine opsF_step rfl (YieldsK.move (show _ = (.int .i64 ((x : Nat) : Int) : Value) from T11) ?_)    -- ref.go:82 t45 := (Op.move (Operand.tmp 11))
                        refine opsF_step rfl (YieldsK.bin (xv := .int .i64 ((x : Nat) : Int)) (yv := .int .i64 ((2 : Nat) : Int)) (show _ = (.int .i64 ((x : Nat) : Int) : Value) from rfl) (show _ = (.int .i64 ((2 : Nat) : Int) : Value) from rfl) rfl (i64_quo _ (x) (2) (by omega) (by omega)) ?_)    -- ref.go:82 t46 := (Op.binOp BinOp.quo 3 (Operand.tmp 45) (Operand.const (Value.int IntKind.i64 2)) 3)
                        refine opsF_step rfl (YieldsK.assign (show _ = (.int .i64 (((x) / (2) : Nat) : Int) : Value) from rfl) ?_)    -- ref.go:82 t14 := (Op.assign (Operand.tmp 46))
                        refine opsF_end (fun ρ => ρ 0 = (vb : Value) ∧ ρ 1 = (v : Value) ∧ ρ 6 = (.int .i64 ((sa : Nat) : Int) : Value) ∧ ρ 7 = (.int .i64 ((sb : Nat) : Int) : Value) ∧ ρ 8 = (.int .i64 ((i : Nat) : Int) : Value) ∧ ρ 9 = (.int .i64 ((0 : Nat) : Int) : Value) ∧ ρ 10 = (vo : Value) ∧ ρ 11 = (.int .i64 ((x : Nat) : Int) : Value) ∧ ρ 12 = (.int .i64 (((i) + k : Nat) : Int) : Value) ∧ ρ 13 = (.int .i64 ((0 : Nat) : Int) : Value) ∧ ρ 14 = (.int .i64 (((x) / (2) : Nat) : Int) : Value) ∧ ρ 26 = (.bool (false) : Value) ∧ True) ⟨T0, T1, T6, T7, T8, T9, T10, T11, T12, T13, rfl, T26, trivial⟩ fun ρ160 ⟨T0, T1, T6, T7, T8, T9, T10, T11, T12, T13, T14, T26, _⟩ => ?_
                        refine thenF_normal (hK159 _ _ ?_)
                        refine wpF_seq_k fun K161 hK161 => ?_
                        refine wpF_seq_k fun K162 hK162 => ?_
                        refine wpF_text ?_
                        refine opsF_step rfl (YieldsK.move (show _ = (.int .i64 ((0 : Nat) : Int) : Value) from T13) ?_)    -- ref.go:83 t47 := (Op.move (Operand.tmp 13))
                        refine opsF_step rfl (YieldsK.eqI (a := ((0 : Nat) : Int)) (b := ((0 : Nat) : Int)) (show _ = (.int .i64 ((0 : Nat) : Int) : Value) from rfl) (show _ = (.int .i64 ((0 : Nat) : Int) : Value) from rfl) (k_neq _ .i64 (0) (0)) ?_)    -- ref.go:83 t48 := (Op.binOp BinOp.neq 3 (Operand.tmp 47) (Operand.const (Value.int IntKind.i64 0)) 3)
                        refine opsF_step rfl (YieldsK.move (show _ = (.bool (false) : Value) from (congrArg Value.bool (decide_eq_false (by decide)))) ?_)    -- ref.go:83 t49 := (Op.move (Operand.tmp 48))
                        refine opsF_on (d := 49) rfl rfl (show _ = (.bool (false) : Value) from rfl) (YieldsK.move (show _ = (.int .i64 (((x) / (2) : Nat) : Int) : Value) from T14) ?_)    -- ref.go:83 t50 := (Op.move (Operand.tmp 14))
                        refine opsF_on (d := 49) rfl rfl (show _ = (.bool (false) : Value) from rfl) (YieldsK.eqI (a := (((x) / (2) : Nat) : Int)) (b := ((1 : Nat) : Int)) (show _ = (.int .i64 (((x) / (2) : Nat) : Int) : Value) from rfl) (show _ = (.int .i64 ((1 : Nat) : Int) : Value) from rfl) (k_lss _ .i64 ((x) / (2)) (1)) ?_)    -- ref.go:83 t51 := (Op.binOp BinOp.lss 3 (Operand.tmp 50) (Operand.const (Value.int IntKind.i64 1)) 3)
                        refine opsF_step rfl (YieldsK.pickF (show _ = (.bool (false) : Value) from rfl) (show _ = (.bool (false) : Value) from (congrArg Value.bool (decide_eq_false (s1)))) ?_)    -- ref.go:83 t52 := (Op.pick (Operand.tmp 49) (Operand.const (Value.bool true)) (Operand.tmp 51))
                        refine opsF_step rfl (YieldsK.move (show _ = (.bool (false) : Value) from rfl) ?_)    -- ref.go:83 t53 := (Op.move (Operand.tmp 52))
                        refine opsF_on (d := 53) rfl rfl (show _ = (.bool (false) : Value) from rfl) (YieldsK.move (show _ = (.int .i64 (((x) / (2) : Nat) : Int) : Value) from T14) ?_)    -- ref.go:83 t54 := (Op.move (Operand.tmp 14))
                        refine opsF_on (d := 53) rfl rfl (show _ = (.bool (false) : Value) from rfl) (YieldsK.move (show _ = (.int .i64 ((sb : Nat) : Int) : Value) from T7) ?_)    -- ref.go:83 t55 := (Op.move (Operand.tmp 7))
                        refine opsF_on (d := 53) rfl rfl (show _ = (.bool (false) : Value) from rfl) (YieldsK.move (show _ = (vo : Value) from T10) ?_)    -- ref.go:83 t56 := (Op.move (Operand.tmp 10))
                        refine opsF_on (d := 53) rfl rfl (show _ = (.bool (false) : Value) from rfl) (YieldsK.lenRB del19_ty22 (RB.of (RB.ofOwn ho_vo) (show _ = (vo : Value) from rfl)) ?_)    -- ref.go:83 t57 := (Op.call { callee := (Callee.builtin Builtin.len), args := #[(Operand.tmp 56)], argTypes := #[22] })
                        refine opsF_on (d := 53) rfl rfl (show _ = (.bool (false) : Value) from rfl) (YieldsK.bin (xv := .int .i64 ((sb : Nat) : Int)) (yv := .int .i64 ((o.length : Nat) : Int)) (show _ = (.int .i64 ((sb : Nat) : Int) : Value) from rfl) (show _ = (.int .i64 ((o.length : Nat) : Int) : Value) from rfl) rfl (i64_sub _ (sb) (o.length) (by omega) (by omega)) ?_)    -- ref.go:83 t58 := (Op.binOp BinOp.sub 3 (Operand.tmp 55) (Operand.tmp 57) 3)
                        refine opsF_on (d := 53) rfl rfl (show _ = (.bool (false) : Value) from rfl) (YieldsK.eqI (a := (((x) / (2) : Nat) : Int)) (b := (((sb) - (o.length) : Nat) : Int)) (show _ = (.int .i64 (((x) / (2) : Nat) : Int) : Value) from rfl) (show _ = (.int .i64 (((sb) - (o.length) : Nat) : Int) : Value) from rfl) (k_gtr _ .i64 ((x) / (2)) ((sb) - (o.length))) ?_)    -- ref.go:83 t59 := (Op.binOp BinOp.gtr 3 (Operand.tmp 54) (Operand.tmp 58) 3)
                        refine opsF_step rfl (YieldsK.pickF (show _ = (.bool (false) : Value) from rfl) (show _ = (.bool (false) : Value) from (congrArg Value.bool (decide_eq_false (s2)))) ?_)    -- ref.go:83 t60 := (Op.pick (Operand.tmp 53) (Operand.const (Value.bool true)) (Operand.tmp 59))
                        refine opsF_end (fun ρ => ρ 0 = (vb : Value) ∧ ρ 1 = (v : Value) ∧ ρ 6 = (.int .i64 ((sa : Nat) : Int) : Value) ∧ ρ 7 = (.int .i64 ((sb : Nat) : Int) : Value) ∧ ρ 8 = (.int .i64 ((i : Nat) : Int) : Value) ∧ ρ 9 = (.int .i64 ((0 : Nat) : Int) : Value) ∧ ρ 10 = (vo : Value) ∧ ρ 11 = (.int .i64 ((x : Nat) : Int) : Value) ∧ ρ 12 = (.int .i64 (((i) + k : Nat) : Int) : Value) ∧ ρ 13 = (.int .i64 ((0 : Nat) : Int) : Value) ∧ ρ 14 = (.int .i64 (((x) / (2) : Nat) : Int) : Value) ∧ ρ 26 = (.bool (false) : Value) ∧ ρ 60 = (.bool (false) : Value) ∧ True) ⟨T0, T1, T6, T7, T8, T9, T10, T11, T12, T13, T14, T26, rfl, trivial⟩ fun ρ163 ⟨T0, T1, T6, T7, T8, T9, T10, T11, T12, T13, T14, T26, T60, _⟩ => ?_
                        refine thenF_normal (hK162 _ _ ?_)
                        refine wpF_false (show _ = (.bool (false) : Value) from T60) ?_
                        refine wpF_skip ?_
                        refine thenF_normal (hK161 _ _ ?_)
                        refine wpF_seq_k fun K164 hK164 => ?_
                        refine wpF_seq_k fun K165 hK165 => ?_
                        refine wpF_text ?_
                        refine opsF_step rfl (YieldsK.move (show _ = (.int .i64 ((x : Nat) : Int) : Value) from T11) ?_)    -- ref.go:86 t61 := (Op.move (Operand.tmp 11))
                        refine opsF_step rfl (YieldsK.bin (xv := .int .i64 ((x : Nat) : Int)) (yv := .int .i64 ((2 : Nat) : Int)) (show _ = (.int .i64 ((x : Nat) : Int) : Value) from rfl) (show _ = (.int .i64 ((2 : Nat) : Int) : Value) from rfl) rfl (i64_rem _ (x) (2) (by omega)) ?_)    -- ref.go:86 t62 := (Op.binOp BinOp.rem 3 (Operand.tmp 61) (Operand.const (Value.int IntKind.i64 2)) 3)
                        refine opsF_step rfl (YieldsK.eqI (a := (((x) % (2) : Nat) : Int)) (b := ((0 : Nat) : Int)) (show _ = (.int .i64 (((x) % (2) : Nat) : Int) : Value) from rfl) (show _ = (.int .i64 ((0 : Nat) : Int) : Value) from rfl) (k_eql _ .i64 ((x) % (2)) (0)) ?_)    -- ref.go:86 t63 := (Op.binOp BinOp.eql 3 (Operand.tmp 62) (Operand.const (Value.int IntKind.i64 0)) 3)
                        refine opsF_end (fun ρ => ρ 0 = (vb : Value) ∧ ρ 1 = (v : Value) ∧ ρ 6 = (.int .i64 ((sa : Nat) : Int) : Value) ∧ ρ 7 = (.int .i64 ((sb : Nat) : Int) : Value) ∧ ρ 8 = (.int .i64 ((i : Nat) : Int) : Value) ∧ ρ 9 = (.int .i64 ((0 : Nat) : Int) : Value) ∧ ρ 10 = (vo : Value) ∧ ρ 11 = (.int .i64 ((x : Nat) : Int) : Value) ∧ ρ 12 = (.int .i64 (((i) + k : Nat) : Int) : Value) ∧ ρ 13 = (.int .i64 ((0 : Nat) : Int) : Value) ∧ ρ 14 = (.int .i64 (((x) / (2) : Nat) : Int) : Value) ∧ ρ 26 = (.bool (false) : Value) ∧ ρ 60 = (.bool (false) : Value) ∧ ρ 63 = (.bool (false) : Value) ∧ True) ⟨T0, T1, T6, T7, T8, T9, T10, T11, T12, T13, T14, T26, T60, (congrArg Value.bool (decide_eq_false (he))), trivial⟩ fun ρ166 ⟨T0, T1, T6, T7, T8, T9, T10, T11, T12, T13, T14, T26, T60, T63, _⟩ => ?_
                        refine thenF_normal (hK165 _ _ ?_)
                        refine wpF_false (show _ = (.bool (false) : Value) from T63) ?_
                        refine wpF_skip ?_
                        refine thenF_normal (hK164 _ _ ?_)
                        refine wpF_seq_k fun K167 hK167 => ?_
                        refine wpF_text ?_
                        refine opsF_step rfl (YieldsK.move (show _ = (v : Value) from T1) ?_)    -- ref.go:94 t82 := (Op.move (Operand.tmp 1))
                        refine opsF_step rfl (YieldsK.move (show _ = (.int .i64 (((i) + k : Nat) : Int) : Value) from T12) ?_)    -- ref.go:94 t83 := (Op.move (Operand.tmp 12))
                        refine opsF_step rfl (YieldsK.callA2 del19_pl25 (show _ = (v : Value) from rfl) (show _ = (.int .i64 (((i) + k : Nat) : Int) : Value) from rfl) ?_)    -- ref.go:94 t84 := (Op.call { callee := (Callee.value (Operand.func 25)), args := #[(Operand.tmp 82), (Operand.tmp 83)], argTypes
                        refine (refGetYes _ v D (hr.keep hE) ((i) + k) (by omega) hlen p m hgp).mono ?_
                        rintro e w169 ⟨rfl, hx168⟩
                        refine ⟨_, rfl, ?_⟩
                        have hE : Ext w w169 := (hE.trans hx168)
                        have ho_vo : w169.ownsRow w.heap.size 5 1 vo o.length (Lib.byteCells (o)) := (Stab.own _ _ _ _ _ _ _ _ ho_vo hx168)
                        refine opsF_step rfl (YieldsK.move (show _ = (.tuple #[.int .i64 ((p : Nat) : Int), .int .i64 ((((i) + k) + m : Nat) : Int), .int .i64 ((0 : Nat) : Int)] : Value) from rfl) ?_)    -- ref.go:94 t81 := (Op.move (Operand.tmp 84))
                        refine opsF_step rfl (YieldsK.extract (vs := [.int .i64 ((p : Nat) : Int), .int .i64 ((((i) + k) + m : Nat) : Int), .int .i64 ((0 : Nat) : Int)]) (show _ = (.tuple #[.int .i64 ((p : Nat) : Int), .int .i64 ((((i) + k) + m : Nat) : Int), .int .i64 ((0 : Nat) : Int)] : Value) from rfl) (show _ = some (.int .i64 ((p : Nat) : Int) : Value) from rfl) ?_)    -- ref.go:94 t85 := (Op.extract (Operand.tmp 81) 0)
                        refine opsF_step rfl (YieldsK.extract (vs := [.int .i64 ((p : Nat) : Int), .int .i64 ((((i) + k) + m : Nat) : Int), .int .i64 ((0 : Nat) : Int)]) (show _ = (.tuple #[.int .i64 ((p : Nat) : Int), .int .i64 ((((i) + k) + m : Nat) : Int), .int .i64 ((0 : Nat) : Int)] : Value) from rfl) (show _ = some (.int .i64 ((((i) + k) + m : Nat) : Int) : Value) from rfl) ?_)    -- ref.go:94 t86 := (Op.extract (Operand.tmp 81) 1)
                        refine opsF_step rfl (YieldsK.extract (vs := [.int .i64 ((p : Nat) : Int), .int .i64 ((((i) + k) + m : Nat) : Int), .int .i64 ((0 : Nat) : Int)]) (show _ = (.tuple #[.int .i64 ((p : Nat) : Int), .int .i64 ((((i) + k) + m : Nat) : Int), .int .i64 ((0 : Nat) : Int)] : Value) from rfl) (show _ = some (.int .i64 ((0 : Nat) : Int) : Value) from rfl) ?_)    -- ref.go:94 t87 := (Op.extract (Operand.tmp 81) 2)
                        refine opsF_step rfl (YieldsK.assign (show _ = (.int .i64 ((p : Nat) : Int) : Value) from rfl) ?_)    -- ref.go:94 t15 := (Op.assign (Operand.tmp 85))
                        refine opsF_step rfl (YieldsK.assign (show _ = (.int .i64 ((((i) + k) + m : Nat) : Int) : Value) from rfl) ?_)    -- ref.go:94 t16 := (Op.assign (Operand.tmp 86))
                        refine opsF_step rfl (YieldsK.assign (show _ = (.int .i64 ((0 : Nat) : Int) : Value) from rfl) ?_)    -- ref.go:94 t17 := (Op.assign (Operand.tmp 87))
                        refine opsF_end (fun ρ => ρ 0 = (vb : Value) ∧ ρ 1 = (v : Value) ∧ ρ 6 = (.int .i64 ((sa : Nat) : Int) : Value) ∧ ρ 7 = (.int .i64 ((sb : Nat) : Int) : Value) ∧ ρ 8 = (.int .i64 ((i : Nat) : Int) : Value) ∧ ρ 9 = (.int .i64 ((0 : Nat) : Int) : Value) ∧ ρ 10 = (vo : Value) ∧ ρ 11 = (.int .i64 ((x : Nat) : Int) : Value) ∧ ρ 12 = (.int .i64 (((i) + k : Nat) : Int) : Value) ∧ ρ 13 = (.int .i64 ((0 : Nat) : Int) : Value) ∧ ρ 14 = (.int .i64 (((x) / (2) : Nat) : Int) : Value) ∧ ρ 15 = (.int .i64 ((p : Nat) : Int) : Value) ∧ ρ 16 = (.int .i64 ((((i) + k) + m : Nat) : Int) : Value) ∧ ρ 17 = (.int .i64 ((0 : Nat) : Int) : Value) ∧ ρ 26 = (.bool (false) : Value) ∧ ρ 60 = (.bool (false) : Value) ∧ ρ 63 = (.bool (false) : Value) ∧ True) ⟨T0, T1, T6, T7, T8, T9, T10, T11, T12, T13, T14, rfl, rfl, rfl, T26, T60, T63, trivial⟩ fun ρ170 ⟨T0, T1, T6, T7, T8, T9, T10, T11, T12, T13, T14, T15, T16, T17, T26, T60, T63, _⟩ => ?_
                        refine thenF_normal (hK167 _ _ ?_)
                        refine wpF_seq_k fun K171 hK171 => ?_
                        refine wpF_seq_k fun K172 hK172 => ?_
                        refine wpF_text ?_
                        refine opsF_step rfl (YieldsK.move (show _ = (.int .i64 ((0 : Nat) : Int) : Value) from T17) ?_)    -- ref.go:95 t88 := (Op.move (Operand.tmp 17))
                        refine opsF_step rfl (YieldsK.eqI (a := ((0 : Nat) : Int)) (b := ((0 : Nat) : Int)) (show _ = (.int .i64 ((0 : Nat) : Int) : Value) from rfl) (show _ = (.int .i64 ((0 : Nat) : Int) : Value) from rfl) (k_neq _ .i64 (0) (0)) ?_)    -- ref.go:95 t89 := (Op.binOp BinOp.neq 3 (Operand.tmp 88) (Operand.const (Value.int IntKind.i64 0)) 3)
                        refine opsF_step rfl (YieldsK.move (show _ = (.bool (false) : Value) from (congrArg Value.bool (decide_eq_false (by decide)))) ?_)    -- ref.go:95 t90 := (Op.move (Operand.tmp 89))
                        refine opsF_on (d := 90) rfl rfl (show _ = (.bool (false) : Value) from rfl) (YieldsK.move (show _ = (.int .i64 ((p : Nat) : Int) : Value) from T15) ?_)    -- ref.go:95 t91 := (Op.move (Operand.tmp 15))
                        refine opsF_on (d := 90) rfl rfl (show _ = (.bool (false) : Value) from rfl) (YieldsK.move (show _ = (vb : Value) from T0) ?_)    -- ref.go:95 t92 := (Op.move (Operand.tmp 0))
                        refine opsF_on (d := 90) rfl rfl (show _ = (.bool (false) : Value) from rfl) (YieldsK.lenRB del19_ty22 (RB.of (hrb.keep hE) (show _ = (vb : Value) from rfl)) ?_)    -- ref.go:95 t93 := (Op.call { callee := (Callee.builtin Builtin.len), args := #[(Operand.tmp 92)], argTypes := #[22] })
                        refine opsF_on (d := 90) rfl rfl (show _ = (.bool (false) : Value) from rfl) (YieldsK.eqI (a := ((p : Nat) : Int)) (b := ((B.length : Nat) : Int)) (show _ = (.int .i64 ((p : Nat) : Int) : Value) from rfl) (show _ = (.int .i64 ((B.length : Nat) : Int) : Value) from rfl) (k_gtr _ .i64 (p) (B.length)) ?_)    -- ref.go:95 t94 := (Op.binOp BinOp.gtr 3 (Operand.tmp 91) (Operand.tmp 93) 3)
                        refine opsF_step rfl (YieldsK.pickF (show _ = (.bool (false) : Value) from rfl) (show _ = (.bool (false) : Value) from (congrArg Value.bool (decide_eq_false (o1)))) ?_)    -- ref.go:95 t95 := (Op.pick (Operand.tmp 90) (Operand.const (Value.bool true)) (Operand.tmp 94))
                        refine opsF_step rfl (YieldsK.move (show _ = (.bool (false) : Value) from rfl) ?_)    -- ref.go:95 t96 := (Op.move (Operand.tmp 95))
                        refine opsF_on (d := 96) rfl rfl (show _ = (.bool (false) : Value) from rfl) (YieldsK.move (show _ = (.int .i64 (((x) / (2) : Nat) : Int) : Value) from T14) ?_)    -- ref.go:95 t97 := (Op.move (Operand.tmp 14))
                        refine opsF_on (d := 96) rfl rfl (show _ = (.bool (false) : Value) from rfl) (YieldsK.move (show _ = (vb : Value) from T0) ?_)    -- ref.go:95 t98 := (Op.move (Operand.tmp 0))
                        refine opsF_on (d := 96) rfl rfl (show _ = (.bool (false) : Value) from rfl) (YieldsK.lenRB del19_ty22 (RB.of (hrb.keep hE) (show _ = (vb : Value) from rfl)) ?_)    -- ref.go:95 t99 := (Op.call { callee := (Callee.builtin Builtin.len), args := #[(Operand.tmp 98)], argTypes := #[22] })
                        refine opsF_on (d := 96) rfl rfl (show _ = (.bool (false) : Value) from rfl) (YieldsK.move (show _ = (.int .i64 ((p : Nat) : Int) : Value) from T15) ?_)    -- ref.go:95 t100 := (Op.move (Operand.tmp 15))
                        refine opsF_on (d := 96) rfl rfl (show _ = (.bool (false) : Value) from rfl) (YieldsK.bin (xv := .int .i64 ((B.length : Nat) : Int)) (yv := .int .i64 ((p : Nat) : Int)) (show _ = (.int .i64 ((B.length : Nat) : Int) : Value) from rfl) (show _ = (.int .i64 ((p : Nat) : Int) : Value) from rfl) rfl (i64_sub _ (B.length) (p) (by omega) (by omega)) ?_)    -- ref.go:95 t101 := (Op.binOp BinOp.sub 3 (Operand.tmp 99) (Operand.tmp 100) 3)
                        refine opsF_on (d := 96) rfl rfl (show _ = (.bool (false) : Value) from rfl) (YieldsK.eqI (a := (((x) / (2) : Nat) : Int)) (b := (((B.length) - (p) : Nat) : Int)) (show _ = (.int .i64 (((x) / (2) : Nat) : Int) : Value) from rfl) (show _ = (.int .i64 (((B.length) - (p) : Nat) : Int) : Value) from rfl) (k_gtr _ .i64 ((x) / (2)) ((B.length) - (p))) ?_)    -- ref.go:95 t102 := (Op.binOp BinOp.gtr 3 (Operand.tmp 97) (Operand.tmp 101) 3)
                        refine opsF_step rfl (YieldsK.pickF (show _ = (.bool (false) : Value) from rfl) (show _ = (.bool (true) : Value) from (congrArg Value.bool (decide_eq_true (o2)))) ?_)    -- ref.go:95 t103 := (Op.pick (Operand.tmp 96) (Operand.const (Value.bool true)) (Operand.tmp 102))
                        refine opsF_end (fun ρ => ρ 0 = (vb : Value) ∧ ρ 1 = (v : Value) ∧ ρ 6 = (.int .i64 ((sa : Nat) : Int) : Value) ∧ ρ 7 = (.int .i64 ((sb : Nat) : Int) : Value) ∧ ρ 8 = (.int .i64 ((i : Nat) : Int) : Value) ∧ ρ 9 = (.int .i64 ((0 : Nat) : Int) : Value) ∧ ρ 10 = (vo : Value) ∧ ρ 11 = (.int .i64 ((x : Nat) : Int) : Value) ∧ ρ 12 = (.int .i64 (((i) + k : Nat) : Int) : Value) ∧ ρ 13 = (.int .i64 ((0 : Nat) : Int) : Value) ∧ ρ 14 = (.int .i64 (((x) / (2) : Nat) : Int) : Value) ∧ ρ 15 = (.int .i64 ((p : Nat) : Int) : Value) ∧ ρ 16 = (.int .i64 ((((i) + k) + m : Nat) : Int) : Value) ∧ ρ 17 = (.int .i64 ((0 : Nat) : Int) : Value) ∧ ρ 26 = (.bool (false) : Value) ∧ ρ 60 = (.bool (false) : Value) ∧ ρ 63 = (.bool (false) : Value) ∧ ρ 103 = (.bool (true) : Value) ∧ True) ⟨T0, T1, T6, T7, T8, T9, T10, T11, T12, T13, T14, T15, T16, T17, T26, T60, T63, rfl, trivial⟩ fun ρ173 ⟨T0, T1, T6, T7, T8, T9, T10, T11, T12, T13, T14, T15, T16, T17, T26, T60, T63, T103, _⟩ => ?_
                        refine thenF_normal (hK172 _ _ ?_)
                        refine wpF_true (show _ = (.bool (true) : Value) from T103) ?_
                        refine wpF_seq_k fun K174 hK174 => ?_
                        refine wpF_text ?_
                        refine opsF_step rfl (YieldsK.assign (show _ = ((Value.slice none 0 0) : Value) from rfl) ?_)    -- ref.go:96 t4 := (Op.assign (Operand.const (Value.slice none 0 0)))
                        refine opsF_step rfl (YieldsK.assign (show _ = (.int .i64 ((6 : Nat) : Int) : Value) from rfl) ?_)    -- ref.go:96 t5 := (Op.assign (Operand.const (Value.int IntKind.i64 6)))
                        refine opsF_end (fun ρ => ρ 0 = (vb : Value) ∧ ρ 1 = (v : Value) ∧ ρ 4 = ((Value.slice none 0 0) : Value) ∧ ρ 5 = (.int .i64 ((6 : Nat) : Int) : Value) ∧ ρ 6 = (.int .i64 ((sa : Nat) : Int) : Value) ∧ ρ 7 = (.int .i64 ((sb : Nat) : Int) : Value) ∧ ρ 8 = (.int .i64 ((i : Nat) : Int) : Value) ∧ ρ 9 = (.int .i64 ((0 : Nat) : Int) : Value) ∧ ρ 10 = (vo : Value) ∧ ρ 11 = (.int .i64 ((x : Nat) : Int) : Value) ∧ ρ 12 = (.int .i64 (((i) + k : Nat) : Int) : Value) ∧ ρ 13 = (.int .i64 ((0 : Nat) : Int) : Value) ∧ ρ 14 = (.int .i64 (((x) / (2) : Nat) : Int) : Value) ∧ ρ 15 = (.int .i64 ((p : Nat) : Int) : Value) ∧ ρ 16 = (.int .i64 ((((i) + k) + m : Nat) : Int) : Value) ∧ ρ 17 = (.int .i64 ((0 : Nat) : Int) : Value) ∧ ρ 26 = (.bool (false) : Value) ∧ ρ 60 = (.bool (false) : Value) ∧ ρ 63 = (.bool (false) : Value) ∧ ρ 103 = (.bool (true) : Value) ∧ True) ⟨T0, T1, rfl, rfl, T6, T7, T8, T9, T10, T11, T12, T13, T14, T15, T16, T17, T26, T60, T63, T103, trivial⟩ fun ρ175 ⟨T0, T1, T4, T5, T6, T7, T8, T9, T10, T11, T12, T13, T14, T15, T16, T17, T26, T60, T63, T103, _⟩ => ?_
                        refine thenF_normal (hK174 _ _ ?_)
                        refine wpF_ret (thenF_ret (inBlockF_ret (thenF_ret (inBlockF_ret (thenF_ret ?_)))))
                        refine postF_ret (fn := Try.f13) _ rfl [(Value.slice none 0 0), .int .i64 ((6 : Nat) : Int)] (.tuple #[(Value.slice none 0 0), .int .i64 ((6 : Nat) : Int)]) rfl ⟨T4, T5, trivial⟩ ?_
                        rw [hfail] at hgo
                        have hP : applyP B D = ([], 6) := by rw [applyP, hsz]; simp only; rw [if_neg hc1, if_neg hc2, ← hgo]
                        rw [hP]
                        exact ⟨_, rfl, RB.nil _, hE⟩
                      · have hpc : pieceP B D i = some ((B.drop p).take (x / 2), i + k + m) := by rw [pieceP, hgx]; simp only; rw [if_pos (by omega), hgp]; simp only; rw [cutP, if_neg (by omega)]
                        have hbl : ((B.drop p).take (x / 2)).length = x / 2 := by rw [List.length_take, List.length_drop]; omega
                        refine wpF_skip ?_
                        refine thenF_normal (hK34 _ _ ?_)
                        refine wpF_block ?_
                        refine wpF_seq_k fun K176 hK176 => ?_
                        refine wpF_text ?_
                        refine opsF_step rfl (YieldsK.move (show _ = (v : Value) from T1) ?_)    -- ref.go:81 t39 := (Op.move (Operand.tmp 1))
                        refine opsF_step rfl (YieldsK.move (show _ = (.int .i64 ((i : Nat) : Int) : Value) from T8) ?_)    -- ref.go:81 t40 := (Op.move (Operand.tmp 8))
                        refine opsF_step rfl (YieldsK.callA2 del19_pl25 (show _ = (v : Value) from rfl) (show _ = (.int .i64 ((i : Nat) : Int) : Value) from rfl) ?_)    -- ref.go:81 t41 := (Op.call { callee := (Callee.value (Operand.func 25)), args := #[(Operand.tmp 39), (Operand.tmp 40)], argTypes
                        refine (refGetYes _ v D (hr.keep hE) (i) (by omega) hlen x k hgx).mono ?_
                        rintro e w178 ⟨rfl, hx177⟩
                        refine ⟨_, rfl, ?_⟩
                        have hE : Ext w w178 := (hE.trans hx177)
                        have ho_vo : w178.ownsRow w.heap.size 5 1 vo o.length (Lib.byteCells (o)) := (Stab.own _ _ _ _ _ _ _ _ ho_vo hx177)
                        refine opsF_step rfl (YieldsK.move (show _ = (.tuple #[.int .i64 ((x : Nat) : Int), .int .i64 (((i) + k : Nat) : Int), .int .i64 ((0 : Nat) : Int)] : Value) from rfl) ?_)    -- ref.go:81 t38 := (Op.move (Operand.tmp 41))
                        refine opsF_step rfl (YieldsK.extract (vs := [.int .i64 ((x : Nat) : Int), .int .i64 (((i) + k : Nat) : Int), .int .i64 ((0 : Nat) : Int)]) (show _ = (.tuple #[.int .i64 ((x : Nat) : Int), .int .i64 (((i) + k : Nat) : Int), .int .i64 ((0 : Nat) : Int)] : Value) from rfl) (show _ = some (.int .i64 ((x : Nat) : Int) : Value) from rfl) ?_)    -- ref.go:81 t42 := (Op.extract (Operand.tmp 38) 0)
                        refine opsF_step rfl (YieldsK.extract (vs := [.int .i64 ((x : Nat) : Int), .int .i64 (((i) + k : Nat) : Int), .int .i64 ((0 : Nat) : Int)]) (show _ = (.tuple #[.int .i64 ((x : Nat) : Int), .int .i64 (((i) + k : Nat) : Int), .int .i64 ((0 : Nat) : Int)] : Value) from rfl) (show _ = some (.int .i64 (((i) + k : Nat) : Int) : Value) from rfl) ?_)    -- ref.go:81 t43 := (Op.extract (Operand.tmp 38) 1)
                        refine opsF_step rfl (YieldsK.extract (vs := [.int .i64 ((x : Nat) : Int), .int .i64 (((i) + k : Nat) : Int), .int .i64 ((0 : Nat) : Int)]) (show _ = (.tuple #[.int .i64 ((x : Nat) : Int), .int .i64 (((i) + k : Nat) : Int), .int .i64 ((0 : Nat) : Int)] : Value) from rfl) (show _ = some (.int .i64 ((0 : Nat) : Int) : Value) from rfl) ?_)    -- ref.go:81 t44 := (Op.extract (Operand.tmp 38) 2)
                        refine opsF_step rfl (YieldsK.assign (show _ = (.int .i64 ((x : Nat) : Int) : Value) from rfl) ?_)    -- ref.go:81 t11 := (Op.assign (Operand.tmp 42))
                        refine opsF_step rfl (YieldsK.assign (show _ = (.int .i64 (((i) + k : Nat) : Int) : Value) from rfl) ?_)    -- ref.go:81 t12 := (Op.assign (Operand.tmp 43))
                        refine opsF_step rfl (YieldsK.assign (show _ = (.int .i64 ((0 : Nat) : Int) : Value) from rfl) ?_)    -- ref.go:81 t13 := (Op.assign (Operand.tmp 44))
                        refine opsF_end (fun ρ => ρ 0 = (vb : Value) ∧ ρ 1 = (v : Value) ∧ ρ 6 = (.int .i64 ((sa : Nat) : Int) : Value) ∧ ρ 7 = (.int .i64 ((sb : Nat) : Int) : Value) ∧ ρ 8 = (.int .i64 ((i : Nat) : Int) : Value) ∧ ρ 9 = (.int .i64 ((0 : Nat) : Int) : Value) ∧ ρ 10 = (vo : Value) ∧ ρ 11 = (.int .i64 ((x : Nat) : Int) : Value) ∧ ρ 12 = (.int .i64 (((i) + k : Nat) : Int) : Value) ∧ ρ 13 = (.int .i64 ((0 : Nat) : Int) : Value) ∧ ρ 26 = (.bool (false) : Value) ∧ True) ⟨T0, T1, T6, T7, T8, T9, T10, rfl, rfl, rfl, T26, trivial⟩ fun ρ179 ⟨T0, T1, T6, T7, T8, T9, T10, T11, T12, T13, T26, _⟩ => ?_
                        refine thenF_normal (hK176 _ _ ?_)
                        refine wpF_seq_k fun K180 hK180 => ?_
                        refine wpF_text ?_
                        refine opsF_step rfl (YieldsK.move (show _ = (.int .i64 ((x : Nat) : Int) : Value) from T11) ?_)    -- ref.go:82 t45 := (Op.move (Operand.tmp 11))
                        refine opsF_step rfl (YieldsK.bin (xv := .int .i64 ((x : Nat) : Int)) (yv := .int .i64 ((2 : Nat) : Int)) (show _ = (.int .i64 ((x : Nat) : Int) : Value) from rfl) (show _ = (.int .i64 ((2 : Nat) : Int) : Value) from rfl) rfl (i64_quo _ (x) (2) (by omega) (by omega)) ?_)    -- ref.go:82 t46 := (Op.binOp BinOp.quo 3 (Operand.tmp 45) (Operand.const (Value.int IntKind.i64 2)) 3)
                        refine opsF_step rfl (YieldsK.assign (show _ = (.int .i64 (((x) / (2) : Nat) : Int) : Value) from rfl) ?_)    -- ref.go:82 t14 := (Op.assign (Operand.tmp 46))
                        refine opsF_end (fun ρ => ρ 0 = (vb : Value) ∧ ρ 1 = (v : Value) ∧ ρ 6 = (.int .i64 ((sa : Nat) : Int) : Value) ∧ ρ 7 = (.int .i64 ((sb : Nat) : Int) : Value) ∧ ρ 8 = (.int .i64 ((i : Nat) : Int) : Value) ∧ ρ 9 = (.int .i64 ((0 : Nat) : Int) : Value) ∧ ρ 10 = (vo : Value) ∧ ρ 11 = (.int .i64 ((x : Nat) : Int) : Value) ∧ ρ 12 = (.int .i64 (((i) + k : Nat) : Int) : Value) ∧ ρ 13 = (.int .i64 ((0 : Nat) : Int) : Value) ∧ ρ 14 = (.int .i64 (((x) / (2) : Nat) : Int) : Value) ∧ ρ 26 = (.bool (false) : Value) ∧ True) ⟨T0, T1, T6, T7, T8, T9, T10, T11, T12, T13, rfl, T26, trivial⟩ fun ρ181 ⟨T0, T1, T6, T7, T8, T9, T10, T11, T12, T13, T14, T26, _⟩ => ?_
                        refine thenF_normal (hK180 _ _ ?_)
                        refine wpF_seq_k fun K182 hK182 => ?_
                        refine wpF_seq_k fun K183 hK183 => ?_
                        refine wpF_text ?_
                        refine opsF_step rfl (YieldsK.move (show _ = (.int .i64 ((0 : Nat) : Int) : Value) from T13) ?_)    -- ref.go:83 t47 := (Op.move (Operand.tmp 13))
                        refine opsF_step rfl (YieldsK.eqI (a := ((0 : Nat) : Int)) (b := ((0 : Nat) : Int)) (show _ = (.int .i64 ((0 : Nat) : Int) : Value) from rfl) (show _ = (.int .i64 ((0 : Nat) : Int) : Value) from rfl) (k_neq _ .i64 (0) (0)) ?_)    -- ref.go:83 t48 := (Op.binOp BinOp.neq 3 (Operand.tmp 47) (Operand.const (Value.int IntKind.i64 0)) 3)
                        refine opsF_step rfl (YieldsK.move (show _ = (.bool (false) : Value) from (congrArg Value.bool (decide_eq_false (by decide)))) ?_)    -- ref.go:83 t49 := (Op.move (Operand.tmp 48))
                        refine opsF_on (d := 49) rfl rfl (show _ = (.bool (false) : Value) from rfl) (YieldsK.move (show _ = (.int .i64 (((x) / (2) : Nat) : Int) : Value) from T14) ?_)    -- ref.go:83 t50 := (Op.move (Operand.tmp 14))
                        refine opsF_on (d := 49) rfl rfl (show _ = (.bool (false) : Value) from rfl) (YieldsK.eqI (a := (((x) / (2) : Nat) : Int)) (b := ((1 : Nat) : Int)) (show _ = (.int .i64 (((x) / (2) : Nat) : Int) : Value) from rfl) (show _ = (.int .i64 ((1 : Nat) : Int) : Value) from rfl) (k_lss _ .i64 ((x) / (2)) (1)) ?_)    -- ref.go:83 t51 := (Op.binOp BinOp.lss 3 (Operand.tmp 50) (Operand.const (Value.int IntKind.i64 1)) 3)
                        refine opsF_step rfl (YieldsK.pickF (show _ = (.bool (false) : Value) from rfl) (show _ = (.bool (false) : Value) from (congrArg Value.bool (decide_eq_false (s1)))) ?_)    -- ref.go:83 t52 := (Op.pick (Operand.tmp 49) (Operand.const (Value.bool true)) (Operand.tmp 51))
                        refine opsF_step rfl (YieldsK.move (show _ = (.bool (false) : Value) from rfl) ?_)    -- ref.go:83 t53 := (Op.move (Operand.tmp 52))
                        refine opsF_on (d := 53) rfl rfl (show _ = (.bool (false) : Value) from rfl) (YieldsK.move (show _ = (.int .i64 (((x) / (2) : Nat) : Int) : Value) from T14) ?_)    -- ref.go:83 t54 := (Op.move (Operand.tmp 14))
                        refine opsF_on (d := 53) rfl rfl (show _ = (.bool (false) : Value) from rfl) (YieldsK.move (show _ = (.int .i64 ((sb : Nat) : Int) : Value) from T7) ?_)    -- ref.go:83 t55 := (Op.move (Operand.tmp 7))
                        refine opsF_on (d := 53) rfl rfl (show _ = (.bool (false) : Value) from rfl) (YieldsK.move (show _ = (vo : Value) from T10) ?_)    -- ref.go:83 t56 := (Op.move (Operand.tmp 10))
                        refine opsF_on (d := 53) rfl rfl (show _ = (.bool (false) : Value) from rfl) (YieldsK.lenRB del19_ty22 (RB.of (RB.ofOwn ho_vo) (show _ = (vo : Value) from rfl)) ?_)    -- ref.go:83 t57 := (Op.call { callee := (Callee.builtin Builtin.len), args := #[(Operand.tmp 56)], argTypes := #[22] })
                        refine opsF_on (d := 53) rfl rfl (show _ = (.bool (false) : Value) from rfl) (YieldsK.bin (xv := .int .i64 ((sb : Nat) : Int)) (yv := .int .i64 ((o.length : Nat) : Int)) (show _ = (.int .i64 ((sb : Nat) : Int) : Value) from rfl) (show _ = (.int .i64 ((o.length : Nat) : Int) : Value) from rfl) rfl (i64_sub _ (sb) (o.length) (by omega) (by omega)) ?_)    -- ref.go:83 t58 := (Op.binOp BinOp.sub 3 (Operand.tmp 55) (Operand.tmp 57) 3)
                        refine opsF_on (d := 53) rfl rfl (show _ = (.bool (false) : Value) from rfl) (YieldsK.eqI (a := (((x) / (2) : Nat) : Int)) (b := (((sb) - (o.length) : Nat) : Int)) (show _ = (.int .i64 (((x) / (2) : Nat) : Int) : Value) from rfl) (show _ = (.int .i64 (((sb) - (o.length) : Nat) : Int) : Value) from rfl) (k_gtr _ .i64 ((x) / (2)) ((sb) - (o.length))) ?_)    -- ref.go:83 t59 := (Op.binOp BinOp.gtr 3 (Operand.tmp 54) (Operand.tmp 58) 3)
                        refine opsF_step rfl (YieldsK.pickF (show _ = (.bool (false) : Value) from rfl) (show _ = (.bool (false) : Value) from (congrArg Value.bool (decide_eq_false (s2)))) ?_)    -- ref.go:83 t60 := (Op.pick (Operand.tmp 53) (Operand.const (Value.bool true)) (Operand.tmp 59))
                        refine opsF_end (fun ρ => ρ 0 = (vb : Value) ∧ ρ 1 = (v : Value) ∧ ρ 6 = (.int .i64 ((sa : Nat) : Int) : Value) ∧ ρ 7 = (.int .i64 ((sb : Nat) : Int) : Value) ∧ ρ 8 = (.int .i64 ((i : Nat) : Int) : Value) ∧ ρ 9 = (.int .i64 ((0 : Nat) : Int) : Value) ∧ ρ 10 = (vo : Value) ∧ ρ 11 = (.int .i64 ((x : Nat) : Int) : Value) ∧ ρ 12 = (.int .i64 (((i) + k : Nat) : Int) : Value) ∧ ρ 13 = (.int .i64 ((0 : Nat) : Int) : Value) ∧ ρ 14 = (.int .i64 (((x) / (2) : Nat) : Int) : Value) ∧ ρ 26 = (.bool (false) : Value) ∧ ρ 60 = (.bool (false) : Value) ∧ True) ⟨T0, T1, T6, T7, T8, T9, T10, T11, T12, T13, T14, T26, rfl, trivial⟩ fun ρ184 ⟨T0, T1, T6, T7, T8, T9, T10, T11, T12, T13, T14, T26, T60, _⟩ => ?_
                        refine thenF_normal (hK183 _ _ ?_)
                        refine wpF_false (show _ = (.bool (false) : Value) from T60) ?_
                        refine wpF_skip ?_
                        refine thenF_normal (hK182 _ _ ?_)
                        refine wpF_seq_k fun K185 hK185 => ?_
                        refine wpF_seq_k fun K186 hK186 => ?_
                        refine wpF_text ?_
                        refine opsF_step rfl (YieldsK.move (show _ = (.int .i64 ((x : Nat) : Int) : Value) from T11) ?_)    -- ref.go:86 t61 := (Op.move (Operand.tmp 11))
                        refine opsF_step rfl (YieldsK.bin (xv := .int .i64 ((x : Nat) : Int)) (yv := .int .i64 ((2 : Nat) : Int)) (show _ = (.int .i64 ((x : Nat) : Int) : Value) from rfl) (show _ = (.int .i64 ((2 : Nat) : Int) : Value) from rfl) rfl (i64_rem _ (x) (2) (by omega)) ?_)    -- ref.go:86 t62 := (Op.binOp BinOp.rem 3 (Operand.tmp 61) (Operand.const (Value.int IntKind.i64 2)) 3)
                        refine opsF_step rfl (YieldsK.eqI (a := (((x) % (2) : Nat) : Int)) (b := ((0 : Nat) : Int)) (show _ = (.int .i64 (((x) % (2) : Nat) : Int) : Value) from rfl) (show _ = (.int .i64 ((0 : Nat) : Int) : Value) from rfl) (k_eql _ .i64 ((x) % (2)) (0)) ?_)    -- ref.go:86 t63 := (Op.binOp BinOp.eql 3 (Operand.tmp 62) (Operand.const (Value.int IntKind.i64 0)) 3)
                        refine opsF_end (fun ρ => ρ 0 = (vb : Value) ∧ ρ 1 = (v : Value) ∧ ρ 6 = (.int .i64 ((sa : Nat) : Int) : Value) ∧ ρ 7 = (.int .i64 ((sb : Nat) : Int) : Value) ∧ ρ 8 = (.int .i64 ((i : Nat) : Int) : Value) ∧ ρ 9 = (.int .i64 ((0 : Nat) : Int) : Value) ∧ ρ 10 = (vo : Value) ∧ ρ 11 = (.int .i64 ((x : Nat) : Int) : Value) ∧ ρ 12 = (.int .i64 (((i) + k : Nat) : Int) : Value) ∧ ρ 13 = (.int .i64 ((0 : Nat) : Int) : Value) ∧ ρ 14 = (.int .i64 (((x) / (2) : Nat) : Int) : Value) ∧ ρ 26 = (.bool (false) : Value) ∧ ρ 60 = (.bool (false) : Value) ∧ ρ 63 = (.bool (false) : Value) ∧ True) ⟨T0, T1, T6, T7, T8, T9, T10, T11, T12, T13, T14, T26, T60, (congrArg Value.bool (decide_eq_false (he))), trivial⟩ fun ρ187 ⟨T0, T1, T6, T7, T8, T9, T10, T11, T12, T13, T14, T26, T60, T63, _⟩ => ?_
                        refine thenF_normal (hK186 _ _ ?_)
                        refine wpF_false (show _ = (.bool (false) : Value) from T63) ?_
                        refine wpF_skip ?_
                        refine thenF_normal (hK185 _ _ ?_)
                        refine wpF_seq_k fun K188 hK188 => ?_
                        refine wpF_text ?_
                        refine opsF_step rfl (YieldsK.move (show _ = (v : Value) from T1) ?_)    -- ref.go:94 t82 := (Op.move (Operand.tmp 1))
                        refine opsF_step rfl (YieldsK.move (show _ = (.int .i64 (((i) + k : Nat) : Int) : Value) from T12) ?_)    -- ref.go:94 t83 := (Op.move (Operand.tmp 12))
                        refine opsF_step rfl (YieldsK.callA2 del19_pl25 (show _ = (v : Value) from rfl) (show _ = (.int .i64 (((i) + k : Nat) : Int) : Value) from rfl) ?_)    -- ref.go:94 t84 := (Op.call { callee := (Callee.value (Operand.func 25)), args := #[(Operand.tmp 82), (Operand.tmp 83)], argTypes
                        refine (refGetYes _ v D (hr.keep hE) ((i) + k) (by omega) hlen p m hgp).mono ?_
                        rintro e w190 ⟨rfl, hx189⟩
                        refine ⟨_, rfl, ?_⟩
                        have hE : Ext w w190 := (hE.trans hx189)
                        have ho_vo : w190.ownsRow w.heap.size 5 1 vo o.length (Lib.byteCells (o)) := (Stab.own _ _ _ _ _ _ _ _ ho_vo hx189)
                        refine opsF_step rfl (YieldsK.move (show _ = (.tuple #[.int .i64 ((p : Nat) : Int), .int .i64 ((((i) + k) + m : Nat) : Int), .int .i64 ((0 : Nat) : Int)] : Value) from rfl) ?_)    -- ref.go:94 t81 := (Op.move (Operand.tmp 84))
                        refine opsF_step rfl (YieldsK.extract (vs := [.int .i64 ((p : Nat) : Int), .int .i64 ((((i) + k) + m : Nat) : Int), .int .i64 ((0 : Nat) : Int)]) (show _ = (.tuple #[.int .i64 ((p : Nat) : Int), .int .i64 ((((i) + k) + m : Nat) : Int), .int .i64 ((0 : Nat) : Int)] : Value) from rfl) (show _ = some (.int .i64 ((p : Nat) : Int) : Value) from rfl) ?_)    -- ref.go:94 t85 := (Op.extract (Operand.tmp 81) 0)
                        refine opsF_step rfl (YieldsK.extract (vs := [.int .i64 ((p : Nat) : Int), .int .i64 ((((i) + k) + m : Nat) : Int), .int .i64 ((0 : Nat) : Int)]) (show _ = (.tuple #[.int .i64 ((p : Nat) : Int), .int .i64 ((((i) + k) + m : Nat) : Int), .int .i64 ((0 : Nat) : Int)] : Value) from rfl) (show _ = some (.int .i64 ((((i) + k) + m : Nat) : Int) : Value) from rfl) ?_)    -- ref.go:94 t86 := (Op.extract (Operand.tmp 81) 1)
                        refine opsF_step rfl (YieldsK.extract (vs := [.int .i64 ((p : Nat) : Int), .int .i64 ((((i) + k) + m : Nat) : Int), .int .i64 ((0 : Nat) : Int)]) (show _ = (.tuple #[.int .i64 ((p : Nat) : Int), .int .i64 ((((i) + k) + m : Nat) : Int), .int .i64 ((0 : Nat) : Int)] : Value) from rfl) (show _ = some (.int .i64 ((0 : Nat) : Int) : Value) from rfl) ?_)    -- ref.go:94 t87 := (Op.extract (Operand.tmp 81) 2)
                        refine opsF_step rfl (YieldsK.assign (show _ = (.int .i64 ((p : Nat) : Int) : Value) from rfl) ?_)    -- ref.go:94 t15 := (Op.assign (Operand.tmp 85))
                        refine opsF_step rfl (YieldsK.assign (show _ = (.int .i64 ((((i) + k) + m : Nat) : Int) : Value) from rfl) ?_)    -- ref.go:94 t16 := (Op.assign (Operand.tmp 86))
                        refine opsF_step rfl (YieldsK.assign (show _ = (.int .i64 ((0 : Nat) : Int) : Value) from rfl) ?_)    -- ref.go:94 t17 := (Op.assign (Operand.tmp 87))
                        refine opsF_end (fun ρ => ρ 0 = (vb : Value) ∧ ρ 1 = (v : Value) ∧ ρ 6 = (.int .i64 ((sa : Nat) : Int) : Value) ∧ ρ 7 = (.int .i64 ((sb : Nat) : Int) : Value) ∧ ρ 8 = (.int .i64 ((i : Nat) : Int) : Value) ∧ ρ 9 = (.int .i64 ((0 : Nat) : Int) : Value) ∧ ρ 10 = (vo : Value) ∧ ρ 11 = (.int .i64 ((x : Nat) : Int) : Value) ∧ ρ 12 = (.int .i64 (((i) + k : Nat) : Int) : Value) ∧ ρ 13 = (.int .i64 ((0 : Nat) : Int) : Value) ∧ ρ 14 = (.int .i64 (((x) / (2) : Nat) : Int) : Value) ∧ ρ 15 = (.int .i64 ((p : Nat) : Int) : Value) ∧ ρ 16 = (.int .i64 ((((i) + k) + m : Nat) : Int) : Value) ∧ ρ 17 = (.int .i64 ((0 : Nat) : Int) : Value) ∧ ρ 26 = (.bool (false) : Value) ∧ ρ 60 = (.bool (false) : Value) ∧ ρ 63 = (.bool (false) : Value) ∧ True) ⟨T0, T1, T6, T7, T8, T9, T10, T11, T12, T13, T14, rfl, rfl, rfl, T26, T60, T63, trivial⟩ fun ρ191 ⟨T0, T1, T6, T7, T8, T9, T10, T11, T12, T13, T14, T15, T16, T17, T26, T60, T63, _⟩ => ?_
                        refine thenF_normal (hK188 _ _ ?_)
                        refine wpF_seq_k fun K192 hK192 => ?_
                        refine wpF_seq_k fun K193 hK193 => ?_
                        refine wpF_text ?_
                        refine opsF_step rfl (YieldsK.move (show _ = (.int .i64 ((0 : Nat) : Int) : Value) from T17) ?_)    -- ref.go:95 t88 := (Op.move (Operand.tmp 17))
                        refine opsF_step rfl (YieldsK.eqI (a := ((0 : Nat) : Int)) (b := ((0 : Nat) : Int)) (show _ = (.int .i64 ((0 : Nat) : Int) : Value) from rfl) (show _ = (.int .i64 ((0 : Nat) : Int) : Value) from rfl) (k_neq _ .i64 (0) (0)) ?_)    -- ref.go:95 t89 := (Op.binOp BinOp.neq 3 (Operand.tmp 88) (Operand.const (Value.int IntKind.i64 0)) 3)
                        refine opsF_step rfl (YieldsK.move (show _ = (.bool (false) : Value) from (congrArg Value.bool (decide_eq_false (by decide)))) ?_)    -- ref.go:95 t90 := (Op.move (Operand.tmp 89))
                        refine opsF_on (d := 90) rfl rfl (show _ = (.bool (false) : Value) from rfl) (YieldsK.move (show _ = (.int .i64 ((p : Nat) : Int) : Value) from T15) ?_)    -- ref.go:95 t91 := (Op.move (Operand.tmp 15))
                        refine opsF_on (d := 90) rfl rfl (show _ = (.bool (false) : Value) from rfl) (YieldsK.move (show _ = (vb : Value) from T0) ?_)    -- ref.go:95 t92 := (Op.move (Operand.tmp 0))
                        refine opsF_on (d := 90) rfl rfl (show _ = (.bool (false) : Value) from rfl) (YieldsK.lenRB del19_ty22 (RB.of (hrb.keep hE) (show _ = (vb : Value) from rfl)) ?_)    -- ref.go:95 t93 := (Op.call { callee := (Callee.builtin Builtin.len), args := #[(Operand.tmp 92)], argTypes := #[22] })
                        refine opsF_on (d := 90) rfl rfl (show _ = (.bool (false) : Value) from rfl) (YieldsK.eqI (a := ((p : Nat) : Int)) (b := ((B.length : Nat) : Int)) (show _ = (.int .i64 ((p : Nat) : Int) : Value) from rfl) (show _ = (.int .i64 ((B.length : Nat) : Int) : Value) from rfl) (k_gtr _ .i64 (p) (B.length)) ?_)    -- ref.go:95 t94 := (Op.binOp BinOp.gtr 3 (Operand.tmp 91) (Operand.tmp 93) 3)
                        refine opsF_step rfl (YieldsK.pickF (show _ = (.bool (false) : Value) from rfl) (show _ = (.bool (false) : Value) from (congrArg Value.bool (decide_eq_false (o1)))) ?_)    -- ref.go:95 t95 := (Op.pick (Operand.tmp 90) (Operand.const (Value.bool true)) (Operand.tmp 94))
                        refine opsF_step rfl (YieldsK.move (show _ = (.bool (false) : Value) from rfl) ?_)    -- ref.go:95 t96 := (Op.move (Operand.tmp 95))
                        refine opsF_on (d := 96) rfl rfl (show _ = (.bool (false) : Value) from rfl) (YieldsK.move (show _ = (.int .i64 (((x) / (2) : Nat) : Int) : Value) from T14) ?_)    -- ref.go:95 t97 := (Op.move (Operand.tmp 14))
                        refine opsF_on (d := 96) rfl rfl (show _ = (.bool (false) : Value) from rfl) (YieldsK.move (show _ = (vb : Value) from T0) ?_)    -- ref.go:95 t98 := (Op.move (Operand.tmp 0))
                        refine opsF_on (d := 96) rfl rfl (show _ = (.bool (false) : Value) from rfl) (YieldsK.lenRB del19_ty22 (RB.of (hrb.keep hE) (show _ = (vb : Value) from rfl)) ?_)    -- ref.go:95 t99 := (Op.call { callee := (Callee.builtin Builtin.len), args := #[(Operand.tmp 98)], argTypes := #[22] })
                        refine opsF_on (d := 96) rfl rfl (show _ = (.bool (false) : Value) from rfl) (YieldsK.move (show _ = (.int .i64 ((p : Nat) : Int) : Value) from T15) ?_)    -- ref.go:95 t100 := (Op.move (Operand.tmp 15))
                        refine opsF_on (d := 96) rfl rfl (show _ = (.bool (false) : Value) from rfl) (YieldsK.bin (xv := .int .i64 ((B.length : Nat) : Int)) (yv := .int .i64 ((p : Nat) : Int)) (show _ = (.int .i64 ((B.length : Nat) : Int) : Value) from rfl) (show _ = (.int .i64 ((p : Nat) : Int) : Value) from rfl) rfl (i64_sub _ (B.length) (p) (by omega) (by omega)) ?_)    -- ref.go:95 t101 := (Op.binOp BinOp.sub 3 (Operand.tmp 99) (Operand.tmp 100) 3)
                        refine opsF_on (d := 96) rfl rfl (show _ = (.bool (false) : Value) from rfl) (YieldsK.eqI (a := (((x) / (2) : Nat) : Int)) (b := (((B.length) - (p) : Nat) : Int)) (show _ = (.int .i64 (((x) / (2) : Nat) : Int) : Value) from rfl) (show _ = (.int .i64 (((B.length) - (p) : Nat) : Int) : Value) from rfl) (k_gtr _ .i64 ((x) / (2)) ((B.length) - (p))) ?_)    -- ref.go:95 t102 := (Op.binOp BinOp.gtr 3 (Operand.tmp 97) (Operand.tmp 101) 3)
                        refine opsF_step rfl (YieldsK.pickF (show _ = (.bool (false) : Value) from rfl) (show _ = (.bool (false) : Value) from (congrArg Value.bool (decide_eq_false (o2)))) ?_)    -- ref.go:95 t103 := (Op.pick (Operand.tmp 96) (Operand.const (Value.bool true)) (Operand.tmp 102))
                        refine opsF_end (fun ρ => ρ 0 = (vb : Value) ∧ ρ 1 = (v : Value) ∧ ρ 6 = (.int .i64 ((sa : Nat) : Int) : Value) ∧ ρ 7 = (.int .i64 ((sb : Nat) : Int) : Value) ∧ ρ 8 = (.int .i64 ((i : Nat) : Int) : Value) ∧ ρ 9 = (.int .i64 ((0 : Nat) : Int) : Value) ∧ ρ 10 = (vo : Value) ∧ ρ 11 = (.int .i64 ((x : Nat) : Int) : Value) ∧ ρ 12 = (.int .i64 (((i) + k : Nat) : Int) : Value) ∧ ρ 13 = (.int .i64 ((0 : Nat) : Int) : Value) ∧ ρ 14 = (.int .i64 (((x) / (2) : Nat) : Int) : Value) ∧ ρ 15 = (.int .i64 ((p : Nat) : Int) : Value) ∧ ρ 16 = (.int .i64 ((((i) + k) + m : Nat) : Int) : Value) ∧ ρ 17 = (.int .i64 ((0 : Nat) : Int) : Value) ∧ ρ 26 = (.bool (false) : Value) ∧ ρ 60 = (.bool (false) : Value) ∧ ρ 63 = (.bool (false) : Value) ∧ ρ 103 = (.bool (false) : Value) ∧ True) ⟨T0, T1, T6, T7, T8, T9, T10, T11, T12, T13, T14, T15, T16, T17, T26, T60, T63, rfl, trivial⟩ fun ρ194 ⟨T0, T1, T6, T7, T8, T9, T10, T11, T12, T13, T14, T15, T16, T17, T26, T60, T63, T103, _⟩ => ?_
                        refine thenF_normal (hK193 _ _ ?_)
                        refine wpF_false (show _ = (.bool (false) : Value) from T103) ?_
                        refine wpF_skip ?_
                        refine thenF_normal (hK192 _ _ ?_)
                        refine wpF_seq_k fun K195 hK195 => ?_
                        refine wpF_text ?_
                        refine opsF_step rfl (YieldsK.move (show _ = (vo : Value) from T10) ?_)    -- ref.go:98 t104 := (Op.move (Operand.tmp 10))
                        refine opsF_step rfl (YieldsK.move (show _ = (vb : Value) from T0) ?_)    -- ref.go:98 t105 := (Op.move (Operand.tmp 0))
                        refine opsF_step rfl (YieldsK.move (show _ = (.int .i64 ((p : Nat) : Int) : Value) from T15) ?_)    -- ref.go:98 t106 := (Op.move (Operand.tmp 15))
                        refine opsF_step rfl (YieldsK.move (show _ = (.int .i64 ((p : Nat) : Int) : Value) from T15) ?_)    -- ref.go:98 t107 := (Op.move (Operand.tmp 15))
                        refine opsF_step rfl (YieldsK.move (show _ = (.int .i64 (((x) / (2) : Nat) : Int) : Value) from T14) ?_)    -- ref.go:98 t108 := (Op.move (Operand.tmp 14))
                        refine opsF_step rfl (YieldsK.bin (xv := .int .i64 ((p : Nat) : Int)) (yv := .int .i64 (((x) / (2) : Nat) : Int)) (show _ = (.int .i64 ((p : Nat) : Int) : Value) from rfl) (show _ = (.int .i64 (((x) / (2) : Nat) : Int) : Value) from rfl) rfl (i64_add _ (p) ((x) / (2)) (by omega)) ?_)    -- ref.go:98 t109 := (Op.binOp BinOp.add 3 (Operand.tmp 107) (Operand.tmp 108) 3)
                        refine opsF_step rfl (YieldsK.sliceLH (xs := B) (l := p) (n := (p) + ((x) / (2))) del19_ty22 del19_sz5 (show _ = (vb : Value) from rfl) (hrb.keep hE) (show _ = (.int .i64 ((p : Nat) : Int) : Value) from rfl) (show _ = (.int .i64 (((p) + ((x) / (2)) : Nat) : Int) : Value) from rfl) (by omega) (by omega) fun v196 hr197 ha198 => ?_)    -- ref.go:98 t110 := (Op.slice 22 (Operand.tmp 105) (some (Operand.tmp 106)) (some (Operand.tmp 109)) none)
                        refine opsF_step rfl (YieldsK.appendRB _ _ w.heap.size (.int .u8 0) del19_ty22 del19_inf5 rfl del19_ty22 (o) ((B.drop (p)).take (((p) + ((x) / (2))) - (p))) (own_of ho_vo (show _ = (vo : Value) from rfl)) (RB.of hr197 (show _ = (v196 : Value) from rfl)) (by rw [List.length_take, List.length_drop]; omega) hE.size fun v199 w200 ho201 hg202 => ?_)    -- ref.go:98 t111 := (Op.call { callee := (Callee.builtin Builtin.append), args := #[(Operand.tmp 104), (Operand.tmp 110)], argType
                        have hg202 : Grew w190 w200 vo v199 := hg202
                        have hE : Ext w w200 := ext_grew hE hg202 ho_vo (Nat.le_refl _)
                        clear ho_vo
                        clear hr197
                        refine opsF_step rfl (YieldsK.assign (show _ = (v199 : Value) from rfl) ?_)    -- ref.go:98 t10 := (Op.assign (Operand.tmp 111))
                        refine opsF_end (fun ρ => ρ 0 = (vb : Value) ∧ ρ 1 = (v : Value) ∧ ρ 6 = (.int .i64 ((sa : Nat) : Int) : Value) ∧ ρ 7 = (.int .i64 ((sb : Nat) : Int) : Value) ∧ ρ 8 = (.int .i64 ((i : Nat) : Int) : Value) ∧ ρ 9 = (.int .i64 ((0 : Nat) : Int) : Value) ∧ ρ 10 = (v199 : Value) ∧ ρ 11 = (.int .i64 ((x : Nat) : Int) : Value) ∧ ρ 12 = (.int .i64 (((i) + k : Nat) : Int) : Value) ∧ ρ 13 = (.int .i64 ((0 : Nat) : Int) : Value) ∧ ρ 14 = (.int .i64 (((x) / (2) : Nat) : Int) : Value) ∧ ρ 15 = (.int .i64 ((p : Nat) : Int) : Value) ∧ ρ 16 = (.int .i64 ((((i) + k) + m : Nat) : Int) : Value) ∧ ρ 17 = (.int .i64 ((0 : Nat) : Int) : Value) ∧ ρ 26 = (.bool (false) : Value) ∧ ρ 60 = (.bool (false) : Value) ∧ ρ 63 = (.bool (false) : Value) ∧ ρ 103 = (.bool (false) : Value) ∧ True) ⟨T0, T1, T6, T7, T8, T9, rfl, T11, T12, T13, T14, T15, T16, T17, T26, T60, T63, T103, trivial⟩ fun ρ203 ⟨T0, T1, T6, T7, T8, T9, T10, T11, T12, T13, T14, T15, T16, T17, T26, T60, T63, T103, _⟩ => ?_
                        refine thenF_normal (hK195 _ _ ?_)
                        refine wpF_text ?_
                        refine opsF_step rfl (YieldsK.move (show _ = (.int .i64 ((((i) + k) + m : Nat) : Int) : Value) from T16) ?_)    -- ref.go:99 t112 := (Op.move (Operand.tmp 16))
                        refine opsF_step rfl (YieldsK.assign (show _ = (.int .i64 ((((i) + k) + m : Nat) : Int) : Value) from rfl) ?_)    -- ref.go:99 t8 := (Op.assign (Operand.tmp 112))
                        refine opsF_end (fun ρ => ρ 0 = (vb : Value) ∧ ρ 1 = (v : Value) ∧ ρ 6 = (.int .i64 ((sa : Nat) : Int) : Value) ∧ ρ 7 = (.int .i64 ((sb : Nat) : Int) : Value) ∧ ρ 8 = (.int .i64 ((((i) + k) + m : Nat) : Int) : Value) ∧ ρ 9 = (.int .i64 ((0 : Nat) : Int) : Value) ∧ ρ 10 = (v199 : Value) ∧ ρ 11 = (.int .i64 ((x : Nat) : Int) : Value) ∧ ρ 12 = (.int .i64 (((i) + k : Nat) : Int) : Value) ∧ ρ 13 = (.int .i64 ((0 : Nat) : Int) : Value) ∧ ρ 14 = (.int .i64 (((x) / (2) : Nat) : Int) : Value) ∧ ρ 15 = (.int .i64 ((p : Nat) : Int) : Value) ∧ ρ 16 = (.int .i64 ((((i) + k) + m : Nat) : Int) : Value) ∧ ρ 17 = (.int .i64 ((0 : Nat) : Int) : Value) ∧ ρ 26 = (.bool (false) : Value) ∧ ρ 60 = (.bool (false) : Value) ∧ ρ 63 = (.bool (false) : Value) ∧ ρ 103 = (.bool (false) : Value) ∧ True) ⟨T0, T1, T6, T7, rfl, T9, T10, T11, T12, T13, T14, T15, T16, T17, T26, T60, T63, T103, trivial⟩ fun ρ204 ⟨T0, T1, T6, T7, T8, T9, T10, T11, T12, T13, T14, T15, T16, T17, T26, T60, T63, T103, _⟩ => ?_
                        refine inBlockF_normal ?_
                        refine thenF_normal (And.intro ⟨i + k + m, f', o ++ (B.drop p).take (x / 2), v199, T0, T1, T6, T7, T9, T26, T8, T10, hE, own_eq ho201 (by simp only [Nat.add_sub_cancel_left]), by rw [applyGo, if_pos hc3, hpc] at hgo; simp only at hgo; rw [if_neg (by rw [hbl]; omega)] at hgo; exact hgo, by omega, by omega, by rw [List.length_append, hbl]; omega, trivial⟩ ?_)
                        show D.length - (intOf (ρ204 8)).toNat < D.length - (intOf (ρ32 8)).toNat
                        rw [T8, q8]
                        simp only [intOf, Int.toNat_natCast]; omega
        · refine wpF_exit (thenF_exit (thenF_exit (inBlockF_hit ?_)))
          refine thenF_normal (hK31 _ _ ?_)
          refine wpF_seq_k fun K205 hK205 => ?_
          refine wpF_seq_k fun K206 hK206 => ?_
          refine wpF_text ?_
          refine opsF_step rfl (YieldsK.move (show _ = (vo : Value) from T10) ?_)    -- ref.go:101 t113 := (Op.move (Operand.tmp 10))
          refine opsF_step rfl (YieldsK.lenRB del19_ty22 (RB.of (RB.ofOwn ho_vo) (show _ = (vo : Value) from rfl)) ?_)    -- ref.go:101 t114 := (Op.call { callee := (Callee.builtin Builtin.len), args := #[(Operand.tmp 113)], argTypes := #[22] })
          refine opsF_step rfl (YieldsK.move (show _ = (.int .i64 ((sb : Nat) : Int) : Value) from T7) ?_)    -- ref.go:101 t115 := (Op.move (Operand.tmp 7))
          refine opsF_step rfl (YieldsK.eqI (a := ((o.length : Nat) : Int)) (b := ((sb : Nat) : Int)) (show _ = (.int .i64 ((o.length : Nat) : Int) : Value) from rfl) (show _ = (.int .i64 ((sb : Nat) : Int) : Value) from rfl) (k_neq _ .i64 (o.length) (sb)) ?_)    -- ref.go:101 t116 := (Op.binOp BinOp.neq 3 (Operand.tmp 114) (Operand.tmp 115) 3)
          refine opsF_end (fun ρ => ρ 0 = (vb : Value) ∧ ρ 1 = (v : Value) ∧ ρ 6 = (.int .i64 ((sa : Nat) : Int) : Value) ∧ ρ 7 = (.int .i64 ((sb : Nat) : Int) : Value) ∧ ρ 8 = (.int .i64 ((i : Nat) : Int) : Value) ∧ ρ 9 = (.int .i64 ((0 : Nat) : Int) : Value) ∧ ρ 10 = (vo : Value) ∧ ρ 26 = (.bool (false) : Value) ∧ ρ 116 = (.bool (decide ((o.length : Nat) ≠ (sb))) : Value) ∧ True) ⟨T0, T1, T6, T7, T8, T9, T10, T26, rfl, trivial⟩ fun ρ207 ⟨T0, T1, T6, T7, T8, T9, T10, T26, T116, _⟩ => ?_
          refine thenF_normal (hK206 _ _ ?_)
          refine wpF_cond ((o.length : Nat) ≠ (sb)) (show _ = (.bool (decide ((o.length : Nat) ≠ (sb))) : Value) from T116) (fun hc5 => ?_) (fun hc5 => ?_)
          · refine wpF_seq_k fun K208 hK208 => ?_
            refine wpF_text ?_
            refine opsF_step rfl (YieldsK.assign (show _ = ((Value.slice none 0 0) : Value) from rfl) ?_)    -- ref.go:102 t4 := (Op.assign (Operand.const (Value.slice none 0 0)))
            refine opsF_step rfl (YieldsK.assign (show _ = (.int .i64 ((6 : Nat) : Int) : Value) from rfl) ?_)    -- ref.go:102 t5 := (Op.assign (Operand.const (Value.int IntKind.i64 6)))
            refine opsF_end (fun ρ => ρ 0 = (vb : Value) ∧ ρ 1 = (v : Value) ∧ ρ 4 = ((Value.slice none 0 0) : Value) ∧ ρ 5 = (.int .i64 ((6 : Nat) : Int) : Value) ∧ ρ 6 = (.int .i64 ((sa : Nat) : Int) : Value) ∧ ρ 7 = (.int .i64 ((sb : Nat) : Int) : Value) ∧ ρ 8 = (.int .i64 ((i : Nat) : Int) : Value) ∧ ρ 9 = (.int .i64 ((0 : Nat) : Int) : Value) ∧ ρ 10 = (vo : Value) ∧ ρ 26 = (.bool (false) : Value) ∧ True) ⟨T0, T1, rfl, rfl, T6, T7, T8, T9, T10, T26, trivial⟩ fun ρ209 ⟨T0, T1, T4, T5, T6, T7, T8, T9, T10, T26, _⟩ => ?_
            refine thenF_normal (hK208 _ _ ?_)
            refine wpF_ret (thenF_ret ?_)
            refine postF_ret (fn := Try.f13) _ rfl [(Value.slice none 0 0), .int .i64 ((6 : Nat) : Int)] (.tuple #[(Value.slice none 0 0), .int .i64 ((6 : Nat) : Int)]) rfl ⟨T4, T5, trivial⟩ ?_
            rw [applyGo, if_neg hc3, if_neg hc5] at hgo
            have hP : applyP B D = ([], 6) := by rw [applyP, hsz]; simp only; rw [if_neg hc1, if_neg hc2, ← hgo]
            rw [hP]
            exact ⟨_, rfl, RB.nil _, hE⟩
          · refine wpF_skip ?_
            refine thenF_normal (hK205 _ _ ?_)
            refine wpF_seq_k fun K210 hK210 => ?_
            refine wpF_text ?_
            refine opsF_step rfl (YieldsK.move (show _ = (vo : Value) from T10) ?_)    -- ref.go:104 t117 := (Op.move (Operand.tmp 10))
            refine opsF_step rfl (YieldsK.assign (show _ = (vo : Value) from rfl) ?_)    -- ref.go:104 t4 := (Op.assign (Operand.tmp 117))
            refine opsF_step rfl (YieldsK.assign (show _ = (.int .i64 ((0 : Nat) : Int) : Value) from rfl) ?_)    -- ref.go:104 t5 := (Op.assign (Operand.const (Value.int IntKind.i64 0)))
            refine opsF_end (fun ρ => ρ 0 = (vb : Value) ∧ ρ 1 = (v : Value) ∧ ρ 4 = (vo : Value) ∧ ρ 5 = (.int .i64 ((0 : Nat) : Int) : Value) ∧ ρ 6 = (.int .i64 ((sa : Nat) : Int) : Value) ∧ ρ 7 = (.int .i64 ((sb : Nat) : Int) : Value) ∧ ρ 8 = (.int .i64 ((i : Nat) : Int) : Value) ∧ ρ 9 = (.int .i64 ((0 : Nat) : Int) : Value) ∧ ρ 10 = (vo : Value) ∧ ρ 26 = (.bool (false) : Value) ∧ True) ⟨T0, T1, rfl, rfl, T6, T7, T8, T9, T10, T26, trivial⟩ fun ρ211 ⟨T0, T1, T4, T5, T6, T7, T8, T9, T10, T26, _⟩ => ?_
            refine thenF_normal (hK210 _ _ ?_)
            refine wpF_ret ?_
            refine postF_ret (fn := Try.f13) _ rfl [vo, .int .i64 ((0 : Nat) : Int)] (.tuple #[vo, .int .i64 ((0 : Nat) : Int)]) rfl ⟨T4, T5, trivial⟩ ?_
            rw [applyGo, if_neg hc3, if_pos (by omega)] at hgo
            have hP : applyP B D = (o, 0) := by rw [applyP, hsz]; simp only; rw [if_neg hc1, if_neg hc2, ← hgo]
            rw [hP]
            exact ⟨_, rfl, RB.ofOwn ho_vo, hE⟩
end Go.Proofs.Ytfjmbcjcgdfkfaa
