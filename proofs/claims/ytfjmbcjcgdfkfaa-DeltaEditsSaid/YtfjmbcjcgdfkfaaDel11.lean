/- delta.Apply. -/
import Derived.Test.YtfjmbcjcgdfkfaaDel10
namespace Go.Proofs.Ytfjmbcjcgdfkfaa
open Go.RowKit
theorem del11_pl23 : Plain Try.prog 23 := fun _ _ => by kernel_rfl
theorem del11_ty22 : Try.prog.underlying 22 = some (.slice 5) := by kernel_rfl
theorem del11_pl24 : Plain Try.prog 24 := fun _ _ => by kernel_rfl
theorem del11_inf5 : (Try.prog.info? 5).map (fun i => (i.zero, i.size, i.bytes)) = some (some (.int .u8 0), 1, 1) := by kernel_rfl
theorem piece_no (w : World) (vb v : Value) (B D : List UInt8) (hrb : RB w vb B) (hr : RB w v D) (i : Nat) (hi : i ≤ D.length) (hB : B.length ≤ 1048576) (hD : D.length ≤ 4611686018427387904) (h : pieceP B D i = none) :
    Calls Try.prog 24 #[vb, v, NI i] w fun e w' => e = .returned (.tuple #[.slice none 0 0, NI 0, .bool false]) ∧ Ext w w' := by
  have := piece_any w vb v B D hrb hr i hi hB hD
  rw [h] at this
  exact this
theorem piece_yes (w : World) (vb v : Value) (B D : List UInt8) (hrb : RB w vb B) (hr : RB w v D) (i : Nat) (hi : i ≤ D.length) (hB : B.length ≤ 1048576) (hD : D.length ≤ 4611686018427387904) (b : List UInt8) (nx : Nat) (h : pieceP B D i = some (b, nx)) :
    Calls Try.prog 24 #[vb, v, NI i] w fun e w' => ∃ v', e = .returned (.tuple #[v', NI nx, .bool true]) ∧ RB w' v' b ∧ Ext w w' := by
  have := piece_any w vb v B D hrb hr i hi hB hD
  rw [h] at this
  exact this.mono fun e w' ⟨⟨v', h1, h2⟩, h3⟩ => ⟨v', h1, h2, h3⟩

theorem apply_any (w : World) (vb v : Value) (B D : List UInt8) (hrb : RB w vb B) (hr : RB w v D) (hB : B.length ≤ 1048576) (hD : D.length ≤ 4611686018427387904) :
    Calls Try.prog 12 #[vb, v] w fun e w' => ∃ v', e = .returned (.tuple #[v', NI (applyP B D).2]) ∧ RB w' v' (applyP B D).1 ∧ Ext w w' := by
  refine calls_of_wpF (args := [vb, v]) Try.func12 rfl 65 rfl (Nat.le_of_ble_eq_true rfl) ?_
  intro ρ0 hb
  have T0 : ρ0 0 = (vb : Value) := hb.get 0
  have T1 : ρ0 1 = (v : Value) := hb.get 1
  clear hb
  have hE := Ext.refl w
  refine wpF_seq_k fun K1 hK1 => ?_
  refine wpF_text ?_
  refine opsF_step rfl (YieldsK.assign (show _ = ((Value.slice none 0 0) : Value) from rfl) ?_)    -- delta.go:116 t4 := (Op.assign (Operand.const (Value.slice none 0 0)))
  refine opsF_step rfl (YieldsK.assign (show _ = (.int .i64 ((0 : Nat) : Int) : Value) from rfl) ?_)    -- delta.go:116 t5 := (Op.assign (Operand.const (Value.int IntKind.i64 0)))
  refine opsF_end (fun ρ => ρ 0 = (vb : Value) ∧ ρ 1 = (v : Value) ∧ ρ 4 = ((Value.slice none 0 0) : Value) ∧ ρ 5 = (.int .i64 ((0 : Nat) : Int) : Value) ∧ True) ⟨T0, T1, rfl, rfl, trivial⟩ fun ρ2 ⟨T0, T1, T4, T5, _⟩ => ?_
  rcases hsz : sizesP D with _ | ⟨sa, sb, sn⟩
  · refine thenF_normal (hK1 _ _ ?_)
    refine wpF_seq_k fun K3 hK3 => ?_
    refine wpF_text ?_
    refine opsF_step rfl (YieldsK.move (show _ = (v : Value) from T1) ?_)    -- delta.go:117 t15 := (Op.move (Operand.tmp 1))
    refine opsF_step rfl (YieldsK.callA1 del11_pl23 (show _ = (v : Value) from rfl) ?_)    -- delta.go:117 t16 := (Op.call { callee := (Callee.value (Operand.func 23)), args := #[(Operand.tmp 15)], argTypes := #[22] })
    refine (sizes_no _ v D (hr.keep hE) hsz).mono ?_
    rintro e w5 ⟨rfl, hx4⟩
    refine ⟨_, rfl, ?_⟩
    have hE : Ext w w5 := (hE.trans hx4)
    refine opsF_step rfl (YieldsK.move (show _ = (.tuple #[.int .i64 ((0 : Nat) : Int), .int .i64 ((0 : Nat) : Int), .int .i64 ((0 : Nat) : Int), .int .i64 ((6 : Nat) : Int)] : Value) from rfl) ?_)    -- delta.go:117 t14 := (Op.move (Operand.tmp 16))
    refine opsF_step rfl (YieldsK.extract (vs := [.int .i64 ((0 : Nat) : Int), .int .i64 ((0 : Nat) : Int), .int .i64 ((0 : Nat) : Int), .int .i64 ((6 : Nat) : Int)]) (show _ = (.tuple #[.int .i64 ((0 : Nat) : Int), .int .i64 ((0 : Nat) : Int), .int .i64 ((0 : Nat) : Int), .int .i64 ((6 : Nat) : Int)] : Value) from rfl) (show _ = some (.int .i64 ((0 : Nat) : Int) : Value) from rfl) ?_)    -- delta.go:117 t17 := (Op.extract (Operand.tmp 14) 0)
    refine opsF_step rfl (YieldsK.extract (vs := [.int .i64 ((0 : Nat) : Int), .int .i64 ((0 : Nat) : Int), .int .i64 ((0 : Nat) : Int), .int .i64 ((6 : Nat) : Int)]) (show _ = (.tuple #[.int .i64 ((0 : Nat) : Int), .int .i64 ((0 : Nat) : Int), .int .i64 ((0 : Nat) : Int), .int .i64 ((6 : Nat) : Int)] : Value) from rfl) (show _ = some (.int .i64 ((0 : Nat) : Int) : Value) from rfl) ?_)    -- delta.go:117 t18 := (Op.extract (Operand.tmp 14) 1)
    refine opsF_step rfl (YieldsK.extract (vs := [.int .i64 ((0 : Nat) : Int), .int .i64 ((0 : Nat) : Int), .int .i64 ((0 : Nat) : Int), .int .i64 ((6 : Nat) : Int)]) (show _ = (.tuple #[.int .i64 ((0 : Nat) : Int), .int .i64 ((0 : Nat) : Int), .int .i64 ((0 : Nat) : Int), .int .i64 ((6 : Nat) : Int)] : Value) from rfl) (show _ = some (.int .i64 ((0 : Nat) : Int) : Value) from rfl) ?_)    -- delta.go:117 t19 := (Op.extract (Operand.tmp 14) 2)
    refine opsF_step rfl (YieldsK.extract (vs := [.int .i64 ((0 : Nat) : Int), .int .i64 ((0 : Nat) : Int), .int .i64 ((0 : Nat) : Int), .int .i64 ((6 : Nat) : Int)]) (show _ = (.tuple #[.int .i64 ((0 : Nat) : Int), .int .i64 ((0 : Nat) : Int), .int .i64 ((0 : Nat) : Int), .int .i64 ((6 : Nat) : Int)] : Value) from rfl) (show _ = some (.int .i64 ((6 : Nat) : Int) : Value) from rfl) ?_)    -- delta.go:117 t20 := (Op.extract (Operand.tmp 14) 3)
    refine opsF_step rfl (YieldsK.assign (show _ = (.int .i64 ((0 : Nat) : Int) : Value) from rfl) ?_)    -- delta.go:117 t6 := (Op.assign (Operand.tmp 17))
    refine opsF_step rfl (YieldsK.assign (show _ = (.int .i64 ((0 : Nat) : Int) : Value) from rfl) ?_)    -- delta.go:117 t7 := (Op.assign (Operand.tmp 18))
    refine opsF_step rfl (YieldsK.assign (show _ = (.int .i64 ((0 : Nat) : Int) : Value) from rfl) ?_)    -- delta.go:117 t8 := (Op.assign (Operand.tmp 19))
    refine opsF_step rfl (YieldsK.assign (show _ = (.int .i64 ((6 : Nat) : Int) : Value) from rfl) ?_)    -- delta.go:117 t9 := (Op.assign (Operand.tmp 20))
    refine opsF_end (fun ρ => ρ 0 = (vb : Value) ∧ ρ 1 = (v : Value) ∧ ρ 4 = ((Value.slice none 0 0) : Value) ∧ ρ 5 = (.int .i64 ((0 : Nat) : Int) : Value) ∧ ρ 6 = (.int .i64 ((0 : Nat) : Int) : Value) ∧ ρ 7 = (.int .i64 ((0 : Nat) : Int) : Value) ∧ ρ 8 = (.int .i64 ((0 : Nat) : Int) : Value) ∧ ρ 9 = (.int .i64 ((6 : Nat) : Int) : Value) ∧ True) ⟨T0, T1, T4, T5, rfl, rfl, rfl, rfl, trivial⟩ fun ρ6 ⟨T0, T1, T4, T5, T6, T7, T8, T9, _⟩ => ?_
    refine thenF_normal (hK3 _ _ ?_)
    refine wpF_seq_k fun K7 hK7 => ?_
    refine wpF_block ?_
    refine wpF_seq_k fun K8 hK8 => ?_
    refine wpF_text ?_
    refine opsF_step rfl (YieldsK.move (show _ = (.int .i64 ((6 : Nat) : Int) : Value) from T9) ?_)    -- delta.go:119 t22 := (Op.move (Operand.tmp 9))
    refine opsF_step rfl (YieldsK.eqI (a := ((6 : Nat) : Int)) (b := ((0 : Nat) : Int)) (show _ = (.int .i64 ((6 : Nat) : Int) : Value) from rfl) (show _ = (.int .i64 ((0 : Nat) : Int) : Value) from rfl) (k_neq _ .i64 (6) (0)) ?_)    -- delta.go:119 t23 := (Op.binOp BinOp.neq 28 (Operand.tmp 22) (Operand.const (Value.int IntKind.i64 0)) 28)
    refine opsF_step rfl (YieldsK.assign (show _ = (.bool (true) : Value) from (congrArg Value.bool (decide_eq_true (by decide)))) ?_)    -- delta.go:119 t21 := (Op.assign (Operand.tmp 23))
    refine opsF_end (fun ρ => ρ 0 = (vb : Value) ∧ ρ 1 = (v : Value) ∧ ρ 4 = ((Value.slice none 0 0) : Value) ∧ ρ 5 = (.int .i64 ((0 : Nat) : Int) : Value) ∧ ρ 6 = (.int .i64 ((0 : Nat) : Int) : Value) ∧ ρ 7 = (.int .i64 ((0 : Nat) : Int) : Value) ∧ ρ 8 = (.int .i64 ((0 : Nat) : Int) : Value) ∧ ρ 9 = (.int .i64 ((6 : Nat) : Int) : Value) ∧ ρ 21 = (.bool (true) : Value) ∧ True) ⟨T0, T1, T4, T5, T6, T7, T8, T9, rfl, trivial⟩ fun ρ9 ⟨T0, T1, T4, T5, T6, T7, T8, T9, T21, _⟩ => ?_
    refine thenF_normal (hK8 _ _ ?_)
    refine wpF_true (show _ = (.bool (true) : Value) from T21) ?_
    refine wpF_seq_k fun K10 hK10 => ?_
    refine wpF_text ?_
    refine opsF_step rfl (YieldsK.move (show _ = (.int .i64 ((6 : Nat) : Int) : Value) from T9) ?_)    -- delta.go:120 t24 := (Op.move (Operand.tmp 9))
    refine opsF_step rfl (YieldsK.assign (show _ = ((Value.slice none 0 0) : Value) from rfl) ?_)    -- delta.go:120 t4 := (Op.assign (Operand.const (Value.slice none 0 0)))
    refine opsF_step rfl (YieldsK.assign (show _ = (.int .i64 ((6 : Nat) : Int) : Value) from rfl) ?_)    -- delta.go:120 t5 := (Op.assign (Operand.tmp 24))
    refine opsF_end (fun ρ => ρ 0 = (vb : Value) ∧ ρ 1 = (v : Value) ∧ ρ 4 = ((Value.slice none 0 0) : Value) ∧ ρ 5 = (.int .i64 ((6 : Nat) : Int) : Value) ∧ ρ 6 = (.int .i64 ((0 : Nat) : Int) : Value) ∧ ρ 7 = (.int .i64 ((0 : Nat) : Int) : Value) ∧ ρ 8 = (.int .i64 ((0 : Nat) : Int) : Value) ∧ ρ 9 = (.int .i64 ((6 : Nat) : Int) : Value) ∧ ρ 21 = (.bool (true) : Value) ∧ True) ⟨T0, T1, rfl, rfl, T6, T7, T8, T9, T21, trivial⟩ fun ρ11 ⟨T0, T1, T4, T5, T6, T7, T8, T9, T21, _⟩ => ?_
    refine thenF_normal (hK10 _ _ ?_)
    refine wpF_ret (inBlockF_ret (thenF_ret ?_))
    refine postF_ret (fn := Try.f12) _ rfl [(Value.slice none 0 0), .int .i64 ((6 : Nat) : Int)] (.tuple #[(Value.slice none 0 0), .int .i64 ((6 : Nat) : Int)]) rfl ⟨T4, T5, trivial⟩ ?_
    have hP : applyP B D = ([], 6) := by rw [applyP, hsz]
    rw [hP]
    exact ⟨_, rfl, RB.nil _, hE⟩
  · have hsb := sizesP_bound hsz
    refine thenF_normal (hK1 _ _ ?_)
    refine wpF_seq_k fun K12 hK12 => ?_
    refine wpF_text ?_
    refine opsF_step rfl (YieldsK.move (show _ = (v : Value) from T1) ?_)    -- delta.go:117 t15 := (Op.move (Operand.tmp 1))
    refine opsF_step rfl (YieldsK.callA1 del11_pl23 (show _ = (v : Value) from rfl) ?_)    -- delta.go:117 t16 := (Op.call { callee := (Callee.value (Operand.func 23)), args := #[(Operand.tmp 15)], argTypes := #[22] })
    refine (sizes_yes _ v D (hr.keep hE) sa sb sn hsz).mono ?_
    rintro e w14 ⟨rfl, hx13⟩
    refine ⟨_, rfl, ?_⟩
    have hE : Ext w w14 := (hE.trans hx13)
    refine opsF_step rfl (YieldsK.move (show _ = (.tuple #[.int .i64 ((sa : Nat) : Int), .int .i64 ((sb : Nat) : Int), .int .i64 ((sn : Nat) : Int), .int .i64 ((0 : Nat) : Int)] : Value) from rfl) ?_)    -- delta.go:117 t14 := (Op.move (Operand.tmp 16))
    refine opsF_step rfl (YieldsK.extract (vs := [.int .i64 ((sa : Nat) : Int), .int .i64 ((sb : Nat) : Int), .int .i64 ((sn : Nat) : Int), .int .i64 ((0 : Nat) : Int)]) (show _ = (.tuple #[.int .i64 ((sa : Nat) : Int), .int .i64 ((sb : Nat) : Int), .int .i64 ((sn : Nat) : Int), .int .i64 ((0 : Nat) : Int)] : Value) from rfl) (show _ = some (.int .i64 ((sa : Nat) : Int) : Value) from rfl) ?_)    -- delta.go:117 t17 := (Op.extract (Operand.tmp 14) 0)
    refine opsF_step rfl (YieldsK.extract (vs := [.int .i64 ((sa : Nat) : Int), .int .i64 ((sb : Nat) : Int), .int .i64 ((sn : Nat) : Int), .int .i64 ((0 : Nat) : Int)]) (show _ = (.tuple #[.int .i64 ((sa : Nat) : Int), .int .i64 ((sb : Nat) : Int), .int .i64 ((sn : Nat) : Int), .int .i64 ((0 : Nat) : Int)] : Value) from rfl) (show _ = some (.int .i64 ((sb : Nat) : Int) : Value) from rfl) ?_)    -- delta.go:117 t18 := (Op.extract (Operand.tmp 14) 1)
    refine opsF_step rfl (YieldsK.extract (vs := [.int .i64 ((sa : Nat) : Int), .int .i64 ((sb : Nat) : Int), .int .i64 ((sn : Nat) : Int), .int .i64 ((0 : Nat) : Int)]) (show _ = (.tuple #[.int .i64 ((sa : Nat) : Int), .int .i64 ((sb : Nat) : Int), .int .i64 ((sn : Nat) : Int), .int .i64 ((0 : Nat) : Int)] : Value) from rfl) (show _ = some (.int .i64 ((sn : Nat) : Int) : Value) from rfl) ?_)    -- delta.go:117 t19 := (Op.extract (Operand.tmp 14) 2)
    refine opsF_step rfl (YieldsK.extract (vs := [.int .i64 ((sa : Nat) : Int), .int .i64 ((sb : Nat) : Int), .int .i64 ((sn : Nat) : Int), .int .i64 ((0 : Nat) : Int)]) (show _ = (.tuple #[.int .i64 ((sa : Nat) : Int), .int .i64 ((sb : Nat) : Int), .int .i64 ((sn : Nat) : Int), .int .i64 ((0 : Nat) : Int)] : Value) from rfl) (show _ = some (.int .i64 ((0 : Nat) : Int) : Value) from rfl) ?_)    -- delta.go:117 t20 := (Op.extract (Operand.tmp 14) 3)
    refine opsF_step rfl (YieldsK.assign (show _ = (.int .i64 ((sa : Nat) : Int) : Value) from rfl) ?_)    -- delta.go:117 t6 := (Op.assign (Operand.tmp 17))
    refine opsF_step rfl (YieldsK.assign (show _ = (.int .i64 ((sb : Nat) : Int) : Value) from rfl) ?_)    -- delta.go:117 t7 := (Op.assign (Operand.tmp 18))
    refine opsF_step rfl (YieldsK.assign (show _ = (.int .i64 ((sn : Nat) : Int) : Value) from rfl) ?_)    -- delta.go:117 t8 := (Op.assign (Operand.tmp 19))
    refine opsF_step rfl (YieldsK.assign (show _ = (.int .i64 ((0 : Nat) : Int) : Value) from rfl) ?_)    -- delta.go:117 t9 := (Op.assign (Operand.tmp 20))
    refine opsF_end (fun ρ => ρ 0 = (vb : Value) ∧ ρ 1 = (v : Value) ∧ ρ 4 = ((Value.slice none 0 0) : Value) ∧ ρ 5 = (.int .i64 ((0 : Nat) : Int) : Value) ∧ ρ 6 = (.int .i64 ((sa : Nat) : Int) : Value) ∧ ρ 7 = (.int .i64 ((sb : Nat) : Int) : Value) ∧ ρ 8 = (.int .i64 ((sn : Nat) : Int) : Value) ∧ ρ 9 = (.int .i64 ((0 : Nat) : Int) : Value) ∧ True) ⟨T0, T1, T4, T5, rfl, rfl, rfl, rfl, trivial⟩ fun ρ15 ⟨T0, T1, T4, T5, T6, T7, T8, T9, _⟩ => ?_
    refine thenF_normal (hK12 _ _ ?_)
    refine wpF_seq_k fun K16 hK16 => ?_
    refine wpF_block ?_
    refine wpF_seq_k fun K17 hK17 => ?_
    refine wpF_text ?_
    refine opsF_step rfl (YieldsK.move (show _ = (.int .i64 ((0 : Nat) : Int) : Value) from T9) ?_)    -- delta.go:119 t22 := (Op.move (Operand.tmp 9))
    refine opsF_step rfl (YieldsK.eqI (a := ((0 : Nat) : Int)) (b := ((0 : Nat) : Int)) (show _ = (.int .i64 ((0 : Nat) : Int) : Value) from rfl) (show _ = (.int .i64 ((0 : Nat) : Int) : Value) from rfl) (k_neq _ .i64 (0) (0)) ?_)    -- delta.go:119 t23 := (Op.binOp BinOp.neq 28 (Operand.tmp 22) (Operand.const (Value.int IntKind.i64 0)) 28)
    refine opsF_step rfl (YieldsK.assign (show _ = (.bool (false) : Value) from (congrArg Value.bool (decide_eq_false (by decide)))) ?_)    -- delta.go:119 t21 := (Op.assign (Operand.tmp 23))
    refine opsF_end (fun ρ => ρ 0 = (vb : Value) ∧ ρ 1 = (v : Value) ∧ ρ 4 = ((Value.slice none 0 0) : Value) ∧ ρ 5 = (.int .i64 ((0 : Nat) : Int) : Value) ∧ ρ 6 = (.int .i64 ((sa : Nat) : Int) : Value) ∧ ρ 7 = (.int .i64 ((sb : Nat) : Int) : Value) ∧ ρ 8 = (.int .i64 ((sn : Nat) : Int) : Value) ∧ ρ 9 = (.int .i64 ((0 : Nat) : Int) : Value) ∧ ρ 21 = (.bool (false) : Value) ∧ True) ⟨T0, T1, T4, T5, T6, T7, T8, T9, rfl, trivial⟩ fun ρ18 ⟨T0, T1, T4, T5, T6, T7, T8, T9, T21, _⟩ => ?_
    refine thenF_normal (hK17 _ _ ?_)
    refine wpF_false (show _ = (.bool (false) : Value) from T21) ?_
    refine wpF_seq_k fun K19 hK19 => ?_
    refine wpF_text ?_
    refine opsF_step rfl (YieldsK.move (show _ = (.int .i64 ((sb : Nat) : Int) : Value) from T7) ?_)    -- delta.go:121 t26 := (Op.move (Operand.tmp 7))
    refine opsF_step rfl (YieldsK.eqI (a := ((sb : Nat) : Int)) (b := ((262144 : Nat) : Int)) (show _ = (.int .i64 ((sb : Nat) : Int) : Value) from rfl) (show _ = (.int .i64 ((262144 : Nat) : Int) : Value) from rfl) (k_gtr _ .i64 (sb) (262144)) ?_)    -- delta.go:121 t27 := (Op.binOp BinOp.gtr 3 (Operand.tmp 26) (Operand.const (Value.int IntKind.i64 262144)) 3)
    refine opsF_step rfl (YieldsK.assign (show _ = (.bool (decide ((262144) < (sb))) : Value) from rfl) ?_)    -- delta.go:121 t25 := (Op.assign (Operand.tmp 27))
    refine opsF_end (fun ρ => ρ 0 = (vb : Value) ∧ ρ 1 = (v : Value) ∧ ρ 4 = ((Value.slice none 0 0) : Value) ∧ ρ 5 = (.int .i64 ((0 : Nat) : Int) : Value) ∧ ρ 6 = (.int .i64 ((sa : Nat) : Int) : Value) ∧ ρ 7 = (.int .i64 ((sb : Nat) : Int) : Value) ∧ ρ 8 = (.int .i64 ((sn : Nat) : Int) : Value) ∧ ρ 9 = (.int .i64 ((0 : Nat) : Int) : Value) ∧ ρ 21 = (.bool (false) : Value) ∧ ρ 25 = (.bool (decide ((262144) < (sb))) : Value) ∧ True) ⟨T0, T1, T4, T5, T6, T7, T8, T9, T21, rfl, trivial⟩ fun ρ20 ⟨T0, T1, T4, T5, T6, T7, T8, T9, T21, T25, _⟩ => ?_
    refine thenF_normal (hK19 _ _ ?_)
    refine wpF_cond ((262144) < (sb)) (show _ = (.bool (decide ((262144) < (sb))) : Value) from T25) (fun hc1 => ?_) (fun hc1 => ?_)
    · refine wpF_seq_k fun K21 hK21 => ?_
      refine wpF_text ?_
      refine opsF_step rfl (YieldsK.assign (show _ = ((Value.slice none 0 0) : Value) from rfl) ?_)    -- delta.go:122 t4 := (Op.assign (Operand.const (Value.slice none 0 0)))
      refine opsF_step rfl (YieldsK.assign (show _ = (.int .i64 ((2 : Nat) : Int) : Value) from rfl) ?_)    -- delta.go:122 t5 := (Op.assign (Operand.const (Value.int IntKind.i64 2)))
      refine opsF_end (fun ρ => ρ 0 = (vb : Value) ∧ ρ 1 = (v : Value) ∧ ρ 4 = ((Value.slice none 0 0) : Value) ∧ ρ 5 = (.int .i64 ((2 : Nat) : Int) : Value) ∧ ρ 6 = (.int .i64 ((sa : Nat) : Int) : Value) ∧ ρ 7 = (.int .i64 ((sb : Nat) : Int) : Value) ∧ ρ 8 = (.int .i64 ((sn : Nat) : Int) : Value) ∧ ρ 9 = (.int .i64 ((0 : Nat) : Int) : Value) ∧ ρ 21 = (.bool (false) : Value) ∧ True) ⟨T0, T1, rfl, rfl, T6, T7, T8, T9, T21, trivial⟩ fun ρ22 ⟨T0, T1, T4, T5, T6, T7, T8, T9, T21, _⟩ => ?_
      refine thenF_normal (hK21 _ _ ?_)
      refine wpF_ret (inBlockF_ret (thenF_ret ?_))
      refine postF_ret (fn := Try.f12) _ rfl [(Value.slice none 0 0), .int .i64 ((2 : Nat) : Int)] (.tuple #[(Value.slice none 0 0), .int .i64 ((2 : Nat) : Int)]) rfl ⟨T4, T5, trivial⟩ ?_
      have hP : applyP B D = ([], 2) := by rw [applyP, hsz]; simp only; rw [if_pos hc1]
      rw [hP]
      exact ⟨_, rfl, RB.nil _, hE⟩
    · refine wpF_seq_k fun K23 hK23 => ?_
      refine wpF_text ?_
      refine opsF_step rfl (YieldsK.move (show _ = (.int .i64 ((sa : Nat) : Int) : Value) from T6) ?_)    -- delta.go:123 t29 := (Op.move (Operand.tmp 6))
      refine opsF_step rfl (YieldsK.move (show _ = (vb : Value) from T0) ?_)    -- delta.go:123 t30 := (Op.move (Operand.tmp 0))
      refine opsF_step rfl (YieldsK.lenRB del11_ty22 (RB.of (hrb.keep hE) (show _ = (vb : Value) from rfl)) ?_)    -- delta.go:123 t31 := (Op.call { callee := (Callee.builtin Builtin.len), args := #[(Operand.tmp 30)], argTypes := #[22] })
      refine opsF_step rfl (YieldsK.eqI (a := ((sa : Nat) : Int)) (b := ((B.length : Nat) : Int)) (show _ = (.int .i64 ((sa : Nat) : Int) : Value) from rfl) (show _ = (.int .i64 ((B.length : Nat) : Int) : Value) from rfl) (k_neq _ .i64 (sa) (B.length)) ?_)    -- delta.go:123 t32 := (Op.binOp BinOp.neq 3 (Operand.tmp 29) (Operand.tmp 31) 3)
      refine opsF_step rfl (YieldsK.assign (show _ = (.bool (decide ((sa : Nat) ≠ (B.length))) : Value) from rfl) ?_)    -- delta.go:123 t28 := (Op.assign (Operand.tmp 32))
      refine opsF_end (fun ρ => ρ 0 = (vb : Value) ∧ ρ 1 = (v : Value) ∧ ρ 4 = ((Value.slice none 0 0) : Value) ∧ ρ 5 = (.int .i64 ((0 : Nat) : Int) : Value) ∧ ρ 6 = (.int .i64 ((sa : Nat) : Int) : Value) ∧ ρ 7 = (.int .i64 ((sb : Nat) : Int) : Value) ∧ ρ 8 = (.int .i64 ((sn : Nat) : Int) : Value) ∧ ρ 9 = (.int .i64 ((0 : Nat) : Int) : Value) ∧ ρ 21 = (.bool (false) : Value) ∧ ρ 28 = (.bool (decide ((sa : Nat) ≠ (B.length))) : Value) ∧ True) ⟨T0, T1, T4, T5, T6, T7, T8, T9, T21, rfl, trivial⟩ fun ρ24 ⟨T0, T1, T4, T5, T6, T7, T8, T9, T21, T28, _⟩ => ?_
      refine thenF_normal (hK23 _ _ ?_)
      refine wpF_cond ((sa : Nat) ≠ (B.length)) (show _ = (.bool (decide ((sa : Nat) ≠ (B.length))) : Value) from T28) (fun hc2 => ?_) (fun hc2 => ?_)
      · refine wpF_seq_k fun K25 hK25 => ?_
        refine wpF_text ?_
        refine opsF_step rfl (YieldsK.assign (show _ = ((Value.slice none 0 0) : Value) from rfl) ?_)    -- delta.go:124 t4 := (Op.assign (Operand.const (Value.slice none 0 0)))
        refine opsF_step rfl (YieldsK.assign (show _ = (.int .i64 ((6 : Nat) : Int) : Value) from rfl) ?_)    -- delta.go:124 t5 := (Op.assign (Operand.const (Value.int IntKind.i64 6)))
        refine opsF_end (fun ρ => ρ 0 = (vb : Value) ∧ ρ 1 = (v : Value) ∧ ρ 4 = ((Value.slice none 0 0) : Value) ∧ ρ 5 = (.int .i64 ((6 : Nat) : Int) : Value) ∧ ρ 6 = (.int .i64 ((sa : Nat) : Int) : Value) ∧ ρ 7 = (.int .i64 ((sb : Nat) : Int) : Value) ∧ ρ 8 = (.int .i64 ((sn : Nat) : Int) : Value) ∧ ρ 9 = (.int .i64 ((0 : Nat) : Int) : Value) ∧ ρ 21 = (.bool (false) : Value) ∧ True) ⟨T0, T1, rfl, rfl, T6, T7, T8, T9, T21, trivial⟩ fun ρ26 ⟨T0, T1, T4, T5, T6, T7, T8, T9, T21, _⟩ => ?_
        refine thenF_normal (hK25 _ _ ?_)
        refine wpF_ret (inBlockF_ret (thenF_ret ?_))
        refine postF_ret (fn := Try.f12) _ rfl [(Value.slice none 0 0), .int .i64 ((6 : Nat) : Int)] (.tuple #[(Value.slice none 0 0), .int .i64 ((6 : Nat) : Int)]) rfl ⟨T4, T5, trivial⟩ ?_
        have hP : applyP B D = ([], 6) := by rw [applyP, hsz]; simp only; rw [if_neg hc1, if_pos hc2]
        rw [hP]
        exact ⟨_, rfl, RB.nil _, hE⟩
      · refine wpF_skip ?_
        refine inBlockF_normal ?_
        refine thenF_normal (hK16 _ _ ?_)
        refine wpF_seq_k fun K27 hK27 => ?_
        refine wpF_text ?_
        refine opsF_step rfl (YieldsK.assign (show _ = ((Value.slice none 0 0) : Value) from rfl) ?_)    -- delta.go:126 t10 := (Op.assign (Operand.const (Value.slice none 0 0)))
        refine opsF_end (fun ρ => ρ 0 = (vb : Value) ∧ ρ 1 = (v : Value) ∧ ρ 4 = ((Value.slice none 0 0) : Value) ∧ ρ 5 = (.int .i64 ((0 : Nat) : Int) : Value) ∧ ρ 6 = (.int .i64 ((sa : Nat) : Int) : Value) ∧ ρ 7 = (.int .i64 ((sb : Nat) : Int) : Value) ∧ ρ 8 = (.int .i64 ((sn : Nat) : Int) : Value) ∧ ρ 9 = (.int .i64 ((0 : Nat) : Int) : Value) ∧ ρ 10 = ((Value.slice none 0 0) : Value) ∧ ρ 21 = (.bool (false) : Value) ∧ True) ⟨T0, T1, T4, T5, T6, T7, T8, T9, rfl, T21, trivial⟩ fun ρ28 ⟨T0, T1, T4, T5, T6, T7, T8, T9, T10, T21, _⟩ => ?_
        have hoN : w.ownsRow w.heap.size 5 1 (Value.slice none 0 0) ([] : List UInt8).length (Lib.byteCells ([] : List UInt8)) := World.ownsRow_nil _ _ _ 1
        have hoN : w14.ownsRow w.heap.size 5 1 (Value.slice none 0 0) ([] : List UInt8).length (Lib.byteCells ([] : List UInt8)) := World.ownsRow_nil _ _ _ 1
        refine thenF_normal (hK27 _ _ ?_)
        refine wpF_seq_k fun K29 hK29 => ?_
        refine wpF_block ?_
        refine wpF_loop (fun (ρ : Slots) (wz : World) => ∃ i : Nat, ∃ f : Nat, ∃ o : List UInt8, ∃ vo : Value, ρ 0 = (vb : Value) ∧ ρ 1 = (v : Value) ∧ ρ 6 = (.int .i64 ((sa : Nat) : Int) : Value) ∧ ρ 7 = (.int .i64 ((sb : Nat) : Int) : Value) ∧ ρ 9 = (.int .i64 ((0 : Nat) : Int) : Value) ∧ ρ 21 = (.bool (false) : Value) ∧ ρ 8 = (.int .i64 ((i : Nat) : Int) : Value) ∧ ρ 10 = (vo : Value) ∧ Ext w wz ∧ wz.ownsRow w.heap.size 5 1 vo o.length (Lib.byteCells (o)) ∧ (applyGo B D sb f i o = applyGo B D sb (D.length + 1) sn []) ∧ (D.length < i + f) ∧ (i ≤ D.length) ∧ (o.length ≤ sb) ∧ True) (fun ρ _ => D.length - (intOf (ρ 8)).toNat) ⟨sn, D.length + 1, [], (Value.slice none 0 0), T0, T1, T6, T7, T9, T21, T8, T10, hE, own_eq hoN (rfl), rfl, by omega, by omega, by simp, trivial⟩ ?_
        clear hoN
        clear hE
        rintro ρ30 w31 ⟨i, f, o, vo, T0, T1, T6, T7, T9, T21, T8, T10, hE, ho_vo, hgo, hf, hi, hos, -⟩
        have q8 := T8
        have ql10 := own_sliceLen ho_vo
        obtain ⟨f', rfl⟩ : ∃ f', f = f' + 1 := ⟨f - 1, by omega⟩
        refine wpF_seq_k fun K32 hK32 => ?_
        refine wpF_seq_k fun K33 hK33 => ?_
        refine wpF_text ?_
        refine opsF_step rfl (YieldsK.move (show _ = (.int .i64 ((i : Nat) : Int) : Value) from T8) ?_)    -- delta.go:127 t33 := (Op.move (Operand.tmp 8))
        refine opsF_step rfl (YieldsK.move (show _ = (v : Value) from T1) ?_)    -- delta.go:127 t34 := (Op.move (Operand.tmp 1))
        refine opsF_step rfl (YieldsK.lenRB del11_ty22 (RB.of (hr.keep hE) (show _ = (v : Value) from rfl)) ?_)    -- delta.go:127 t35 := (Op.call { callee := (Callee.builtin Builtin.len), args := #[(Operand.tmp 34)], argTypes := #[22] })
        refine opsF_step rfl (YieldsK.eqI (a := ((i : Nat) : Int)) (b := ((D.length : Nat) : Int)) (show _ = (.int .i64 ((i : Nat) : Int) : Value) from rfl) (show _ = (.int .i64 ((D.length : Nat) : Int) : Value) from rfl) (k_lss _ .i64 (i) (D.length)) ?_)    -- delta.go:127 t36 := (Op.binOp BinOp.lss 3 (Operand.tmp 33) (Operand.tmp 35) 3)
        refine opsF_end (fun ρ => ρ 0 = (vb : Value) ∧ ρ 1 = (v : Value) ∧ ρ 6 = (.int .i64 ((sa : Nat) : Int) : Value) ∧ ρ 7 = (.int .i64 ((sb : Nat) : Int) : Value) ∧ ρ 8 = (.int .i64 ((i : Nat) : Int) : Value) ∧ ρ 9 = (.int .i64 ((0 : Nat) : Int) : Value) ∧ ρ 10 = (vo : Value) ∧ ρ 21 = (.bool (false) : Value) ∧ ρ 36 = (.bool (decide ((i) < (D.length))) : Value) ∧ True) ⟨T0, T1, T6, T7, T8, T9, T10, T21, rfl, trivial⟩ fun ρ34 ⟨T0, T1, T6, T7, T8, T9, T10, T21, T36, _⟩ => ?_
        refine thenF_normal (hK33 _ _ ?_)
        refine wpF_cond ((i) < (D.length)) (show _ = (.bool (decide ((i) < (D.length))) : Value) from T36) (fun hc3 => ?_) (fun hc3 => ?_)
        · rcases hpc : pieceP B D i with _ | ⟨pb, nx⟩
          · refine wpF_skip ?_
            refine thenF_normal (hK32 _ _ ?_)
            refine wpF_block ?_
            refine wpF_seq_k fun K35 hK35 => ?_
            refine wpF_text ?_
            refine opsF_step rfl (YieldsK.move (show _ = (vb : Value) from T0) ?_)    -- delta.go:128 t38 := (Op.move (Operand.tmp 0))
            refine opsF_step rfl (YieldsK.move (show _ = (v : Value) from T1) ?_)    -- delta.go:128 t39 := (Op.move (Operand.tmp 1))
            refine opsF_step rfl (YieldsK.move (show _ = (.int .i64 ((i : Nat) : Int) : Value) from T8) ?_)    -- delta.go:128 t40 := (Op.move (Operand.tmp 8))
            refine opsF_step rfl (YieldsK.callA3 del11_pl24 (show _ = (vb : Value) from rfl) (show _ = (v : Value) from rfl) (show _ = (.int .i64 ((i : Nat) : Int) : Value) from rfl) ?_)    -- delta.go:128 t41 := (Op.call { callee := (Callee.value (Operand.func 24)), args := #[(Operand.tmp 38), (Operand.tmp 39), (Operand.
            refine (piece_no _ vb v B D (hrb.keep hE) (hr.keep hE) i (by omega) hB hD hpc).mono ?_
            rintro e w37 ⟨rfl, hx36⟩
            refine ⟨_, rfl, ?_⟩
            have hE : Ext w w37 := (hE.trans hx36)
            have ho_vo : w37.ownsRow w.heap.size 5 1 vo o.length (Lib.byteCells (o)) := (Stab.own _ _ _ _ _ _ _ _ ho_vo hx36)
            refine opsF_step rfl (YieldsK.move (show _ = (.tuple #[(Value.slice none 0 0), .int .i64 ((0 : Nat) : Int), .bool (false)] : Value) from rfl) ?_)    -- delta.go:128 t37 := (Op.move (Operand.tmp 41))
            refine opsF_step rfl (YieldsK.extract (vs := [(Value.slice none 0 0), .int .i64 ((0 : Nat) : Int), .bool (false)]) (show _ = (.tuple #[(Value.slice none 0 0), .int .i64 ((0 : Nat) : Int), .bool (false)] : Value) from rfl) (show _ = some ((Value.slice none 0 0) : Value) from rfl) ?_)    -- delta.go:128 t42 := (Op.extract (Operand.tmp 37) 0)
            refine opsF_step rfl (YieldsK.extract (vs := [(Value.slice none 0 0), .int .i64 ((0 : Nat) : Int), .bool (false)]) (show _ = (.tuple #[(Value.slice none 0 0), .int .i64 ((0 : Nat) : Int), .bool (false)] : Value) from rfl) (show _ = some (.int .i64 ((0 : Nat) : Int) : Value) from rfl) ?_)    -- delta.go:128 t43 := (Op.extract (Operand.tmp 37) 1)
            refine opsF_step rfl (YieldsK.extract (vs := [(Value.slice none 0 0), .int .i64 ((0 : Nat) : Int), .bool (false)]) (show _ = (.tuple #[(Value.slice none 0 0), .int .i64 ((0 : Nat) : Int), .bool (false)] : Value) from rfl) (show _ = some (.bool (false) : Value) from rfl) ?_)    -- delta.go:128 t44 := (Op.extract (Operand.tmp 37) 2)
            refine opsF_step rfl (YieldsK.assign (show _ = ((Value.slice none 0 0) : Value) from rfl) ?_)    -- delta.go:128 t11 := (Op.assign (Operand.tmp 42))
            refine opsF_step rfl (YieldsK.assign (show _ = (.int .i64 ((0 : Nat) : Int) : Value) from rfl) ?_)    -- delta.go:128 t12 := (Op.assign (Operand.tmp 43))
            refine opsF_step rfl (YieldsK.assign (show _ = (.bool (false) : Value) from rfl) ?_)    -- delta.go:128 t13 := (Op.assign (Operand.tmp 44))
            refine opsF_end (fun ρ => ρ 0 = (vb : Value) ∧ ρ 1 = (v : Value) ∧ ρ 6 = (.int .i64 ((sa : Nat) : Int) : Value) ∧ ρ 7 = (.int .i64 ((sb : Nat) : Int) : Value) ∧ ρ 8 = (.int .i64 ((i : Nat) : Int) : Value) ∧ ρ 9 = (.int .i64 ((0 : Nat) : Int) : Value) ∧ ρ 10 = (vo : Value) ∧ ρ 11 = ((Value.slice none 0 0) : Value) ∧ ρ 12 = (.int .i64 ((0 : Nat) : Int) : Value) ∧ ρ 13 = (.bool (false) : Value) ∧ ρ 21 = (.bool (false) : Value) ∧ True) ⟨T0, T1, T6, T7, T8, T9, T10, rfl, rfl, rfl, T21, trivial⟩ fun ρ38 ⟨T0, T1, T6, T7, T8, T9, T10, T11, T12, T13, T21, _⟩ => ?_
            refine thenF_normal (hK35 _ _ ?_)
            refine wpF_seq_k fun K39 hK39 => ?_
            refine wpF_seq_k fun K40 hK40 => ?_
            refine wpF_text ?_
            refine opsF_step rfl (YieldsK.move (show _ = (.bool (false) : Value) from T13) ?_)    -- delta.go:129 t45 := (Op.move (Operand.tmp 13))
            refine opsF_step rfl (YieldsK.notB (show _ = (.bool (false) : Value) from rfl) ?_)    -- delta.go:129 t46 := (Op.unOp UnOp.not 4 (Operand.tmp 45))
            refine opsF_step rfl (YieldsK.move (show _ = (.bool (true) : Value) from rfl) ?_)    -- delta.go:129 t47 := (Op.move (Operand.tmp 46))
            refine opsF_off (d := 47) rfl rfl rfl (show _ = (.bool (true) : Value) from rfl) rfl ?_    -- delta.go:129 t48 := (Op.move (Operand.tmp 11))
            refine opsF_off (d := 47) rfl rfl rfl (show _ = (.bool (true) : Value) from rfl) rfl ?_    -- delta.go:129 t49 := (Op.call { callee := (Callee.builtin Builtin.len), args := #[(Operand.tmp 48)], argTypes := #[22] })
            refine opsF_off (d := 47) rfl rfl rfl (show _ = (.bool (true) : Value) from rfl) rfl ?_    -- delta.go:129 t50 := (Op.move (Operand.tmp 7))
            refine opsF_off (d := 47) rfl rfl rfl (show _ = (.bool (true) : Value) from rfl) rfl ?_    -- delta.go:129 t51 := (Op.move (Operand.tmp 10))
            refine opsF_off (d := 47) rfl rfl rfl (show _ = (.bool (true) : Value) from rfl) rfl ?_    -- delta.go:129 t52 := (Op.call { callee := (Callee.builtin Builtin.len), args := #[(Operand.tmp 51)], argTypes := #[22] })
            refine opsF_off (d := 47) rfl rfl rfl (show _ = (.bool (true) : Value) from rfl) rfl ?_    -- delta.go:129 t53 := (Op.binOp BinOp.sub 3 (Operand.tmp 50) (Operand.tmp 52) 3)
            refine opsF_off (d := 47) rfl rfl rfl (show _ = (.bool (true) : Value) from rfl) rfl ?_    -- delta.go:129 t54 := (Op.binOp BinOp.gtr 3 (Operand.tmp 49) (Operand.tmp 53) 3)
            refine opsF_step rfl (YieldsK.pickT (show _ = (.bool (true) : Value) from rfl) (show _ = (.bool (true) : Value) from rfl) ?_)    -- delta.go:129 t55 := (Op.pick (Operand.tmp 47) (Operand.const (Value.bool true)) (Operand.tmp 54))
            refine opsF_end (fun ρ => ρ 0 = (vb : Value) ∧ ρ 1 = (v : Value) ∧ ρ 6 = (.int .i64 ((sa : Nat) : Int) : Value) ∧ ρ 7 = (.int .i64 ((sb : Nat) : Int) : Value) ∧ ρ 8 = (.int .i64 ((i : Nat) : Int) : Value) ∧ ρ 9 = (.int .i64 ((0 : Nat) : Int) : Value) ∧ ρ 10 = (vo : Value) ∧ ρ 11 = ((Value.slice none 0 0) : Value) ∧ ρ 12 = (.int .i64 ((0 : Nat) : Int) : Value) ∧ ρ 13 = (.bool (false) : Value) ∧ ρ 21 = (.bool (false) : Value) ∧ ρ 55 = (.bool (true) : Value) ∧ True) ⟨T0, T1, T6, T7, T8, T9, T10, T11, T12, T13, T21, rfl, trivial⟩ fun ρ41 ⟨T0, T1, T6, T7, T8, T9, T10, T11, T12, T13, T21, T55, _⟩ => ?_
            refine thenF_normal (hK40 _ _ ?_)
            refine wpF_true (show _ = (.bool (true) : Value) from T55) ?_
            refine wpF_seq_k fun K42 hK42 => ?_
            refine wpF_text ?_
            refine opsF_step rfl (YieldsK.assign (show _ = ((Value.slice none 0 0) : Value) from rfl) ?_)    -- delta.go:130 t4 := (Op.assign (Operand.const (Value.slice none 0 0)))
            refine opsF_step rfl (YieldsK.assign (show _ = (.int .i64 ((6 : Nat) : Int) : Value) from rfl) ?_)    -- delta.go:130 t5 := (Op.assign (Operand.const (Value.int IntKind.i64 6)))
            refine opsF_end (fun ρ => ρ 0 = (vb : Value) ∧ ρ 1 = (v : Value) ∧ ρ 4 = ((Value.slice none 0 0) : Value) ∧ ρ 5 = (.int .i64 ((6 : Nat) : Int) : Value) ∧ ρ 6 = (.int .i64 ((sa : Nat) : Int) : Value) ∧ ρ 7 = (.int .i64 ((sb : Nat) : Int) : Value) ∧ ρ 8 = (.int .i64 ((i : Nat) : Int) : Value) ∧ ρ 9 = (.int .i64 ((0 : Nat) : Int) : Value) ∧ ρ 10 = (vo : Value) ∧ ρ 11 = ((Value.slice none 0 0) : Value) ∧ ρ 12 = (.int .i64 ((0 : Nat) : Int) : Value) ∧ ρ 13 = (.bool (false) : Value) ∧ ρ 21 = (.bool (false) : Value) ∧ ρ 55 = (.bool (true) : Value) ∧ True) ⟨T0, T1, rfl, rfl, T6, T7, T8, T9, T10, T11, T12, T13, T21, T55, trivial⟩ fun ρ43 ⟨T0, T1, T4, T5, T6, T7, T8, T9, T10, T11, T12, T13, T21, T55, _⟩ => ?_
            refine thenF_normal (hK42 _ _ ?_)
            refine wpF_ret (thenF_ret (inBlockF_ret (thenF_ret (inBlockF_ret (thenF_ret ?_)))))
            refine postF_ret (fn := Try.f12) _ rfl [(Value.slice none 0 0), .int .i64 ((6 : Nat) : Int)] (.tuple #[(Value.slice none 0 0), .int .i64 ((6 : Nat) : Int)]) rfl ⟨T4, T5, trivial⟩ ?_
            rw [applyGo, if_pos hc3, hpc] at hgo
            have hP : applyP B D = ([], 6) := by rw [applyP, hsz]; simp only; rw [if_neg hc1, if_neg hc2, ← hgo]
            rw [hP]
            exact ⟨_, rfl, RB.nil _, hE⟩
          · have hpb := pieceP_bound (by omega) hpc
            refine wpF_skip ?_
            refine thenF_normal (hK32 _ _ ?_)
            refine wpF_block ?_
            refine wpF_seq_k fun K44 hK44 => ?_
            refine wpF_text ?_
            refine opsF_step rfl (YieldsK.move (show _ = (vb : Value) from T0) ?_)    -- delta.go:128 t38 := (Op.move (Operand.tmp 0))
            refine opsF_step rfl (YieldsK.move (show _ = (v : Value) from T1) ?_)    -- delta.go:128 t39 := (Op.move (Operand.tmp 1))
            refine opsF_step rfl (YieldsK.move (show _ = (.int .i64 ((i : Nat) : Int) : Value) from T8) ?_)    -- delta.go:128 t40 := (Op.move (Operand.tmp 8))
            refine opsF_step rfl (YieldsK.callA3 del11_pl24 (show _ = (vb : Value) from rfl) (show _ = (v : Value) from rfl) (show _ = (.int .i64 ((i : Nat) : Int) : Value) from rfl) ?_)    -- delta.go:128 t41 := (Op.call { callee := (Callee.value (Operand.func 24)), args := #[(Operand.tmp 38), (Operand.tmp 39), (Operand.
            refine (piece_yes _ vb v B D (hrb.keep hE) (hr.keep hE) i (by omega) hB hD pb nx hpc).mono ?_
            rintro e w48 ⟨v45, rfl, hr46, hx47⟩
            refine ⟨_, rfl, ?_⟩
            have hE : Ext w w48 := (hE.trans hx47)
            have ho_vo : w48.ownsRow w.heap.size 5 1 vo o.length (Lib.byteCells (o)) := (Stab.own _ _ _ _ _ _ _ _ ho_vo hx47)
            refine opsF_step rfl (YieldsK.move (show _ = (.tuple #[v45, .int .i64 ((nx : Nat) : Int), .bool (true)] : Value) from rfl) ?_)    -- delta.go:128 t37 := (Op.move (Operand.tmp 41))
            refine opsF_step rfl (YieldsK.extract (vs := [v45, .int .i64 ((nx : Nat) : Int), .bool (true)]) (show _ = (.tuple #[v45, .int .i64 ((nx : Nat) : Int), .bool (true)] : Value) from rfl) (show _ = some (v45 : Value) from rfl) ?_)    -- delta.go:128 t42 := (Op.extract (Operand.tmp 37) 0)
            refine opsF_step rfl (YieldsK.extract (vs := [v45, .int .i64 ((nx : Nat) : Int), .bool (true)]) (show _ = (.tuple #[v45, .int .i64 ((nx : Nat) : Int), .bool (true)] : Value) from rfl) (show _ = some (.int .i64 ((nx : Nat) : Int) : Value) from rfl) ?_)    -- delta.go:128 t43 := (Op.extract (Operand.tmp 37) 1)
            refine opsF_step rfl (YieldsK.extract (vs := [v45, .int .i64 ((nx : Nat) : Int), .bool (true)]) (show _ = (.tuple #[v45, .int .i64 ((nx : Nat) : Int), .bool (true)] : Value) from rfl) (show _ = some (.bool (true) : Value) from rfl) ?_)    -- delta.go:128 t44 := (Op.extract (Operand.tmp 37) 2)
            refine opsF_step rfl (YieldsK.assign (show _ = (v45 : Value) from rfl) ?_)    -- delta.go:128 t11 := (Op.assign (Operand.tmp 42))
            refine opsF_step rfl (YieldsK.assign (show _ = (.int .i64 ((nx : Nat) : Int) : Value) from rfl) ?_)    -- delta.go:128 t12 := (Op.assign (Operand.tmp 43))
            refine opsF_step rfl (YieldsK.assign (show _ = (.bool (true) : Value) from rfl) ?_)    -- delta.go:128 t13 := (Op.assign (Operand.tmp 44))
            refine opsF_end (fun ρ => ρ 0 = (vb : Value) ∧ ρ 1 = (v : Value) ∧ ρ 6 = (.int .i64 ((sa : Nat) : Int) : Value) ∧ ρ 7 = (.int .i64 ((sb : Nat) : Int) : Value) ∧ ρ 8 = (.int .i64 ((i : Nat) : Int) : Value) ∧ ρ 9 = (.int .i64 ((0 : Nat) : Int) : Value) ∧ ρ 10 = (vo : Value) ∧ ρ 11 = (v45 : Value) ∧ ρ 12 = (.int .i64 ((nx : Nat) : Int) : Value) ∧ ρ 13 = (.bool (true) : Value) ∧ ρ 21 = (.bool (false) : Value) ∧ True) ⟨T0, T1, T6, T7, T8, T9, T10, rfl, rfl, rfl, T21, trivial⟩ fun ρ49 ⟨T0, T1, T6, T7, T8, T9, T10, T11, T12, T13, T21, _⟩ => ?_
            refine thenF_normal (hK44 _ _ ?_)
            refine wpF_seq_k fun K50 hK50 => ?_
            refine wpF_seq_k fun K51 hK51 => ?_
            refine wpF_text ?_
            refine opsF_step rfl (YieldsK.move (show _ = (.bool (true) : Value) from T13) ?_)    -- delta.go:129 t45 := (Op.move (Operand.tmp 13))
            refine opsF_step rfl (YieldsK.notB (show _ = (.bool (true) : Value) from rfl) ?_)    -- delta.go:129 t46 := (Op.unOp UnOp.not 4 (Operand.tmp 45))
            refine opsF_step rfl (YieldsK.move (show _ = (.bool (false) : Value) from rfl) ?_)    -- delta.go:129 t47 := (Op.move (Operand.tmp 46))
            refine opsF_on (d := 47) rfl rfl (show _ = (.bool (false) : Value) from rfl) (YieldsK.move (show _ = (v45 : Value) from T11) ?_)    -- delta.go:129 t48 := (Op.move (Operand.tmp 11))
            refine opsF_on (d := 47) rfl rfl (show _ = (.bool (false) : Value) from rfl) (YieldsK.lenRB del11_ty22 (RB.of hr46 (show _ = (v45 : Value) from rfl)) ?_)    -- delta.go:129 t49 := (Op.call { callee := (Callee.builtin Builtin.len), args := #[(Operand.tmp 48)], argTypes := #[22] })
            refine opsF_on (d := 47) rfl rfl (show _ = (.bool (false) : Value) from rfl) (YieldsK.move (show _ = (.int .i64 ((sb : Nat) : Int) : Value) from T7) ?_)    -- delta.go:129 t50 := (Op.move (Operand.tmp 7))
            refine opsF_on (d := 47) rfl rfl (show _ = (.bool (false) : Value) from rfl) (YieldsK.move (show _ = (vo : Value) from T10) ?_)    -- delta.go:129 t51 := (Op.move (Operand.tmp 10))
            refine opsF_on (d := 47) rfl rfl (show _ = (.bool (false) : Value) from rfl) (YieldsK.lenRB del11_ty22 (RB.of (RB.ofOwn ho_vo) (show _ = (vo : Value) from rfl)) ?_)    -- delta.go:129 t52 := (Op.call { callee := (Callee.builtin Builtin.len), args := #[(Operand.tmp 51)], argTypes := #[22] })
            refine opsF_on (d := 47) rfl rfl (show _ = (.bool (false) : Value) from rfl) (YieldsK.bin (xv := .int .i64 ((sb : Nat) : Int)) (yv := .int .i64 ((o.length : Nat) : Int)) (show _ = (.int .i64 ((sb : Nat) : Int) : Value) from rfl) (show _ = (.int .i64 ((o.length : Nat) : Int) : Value) from rfl) rfl (i64_sub _ (sb) (o.length) (by omega) (by omega)) ?_)    -- delta.go:129 t53 := (Op.binOp BinOp.sub 3 (Operand.tmp 50) (Operand.tmp 52) 3)
            refine opsF_on (d := 47) rfl rfl (show _ = (.bool (false) : Value) from rfl) (YieldsK.eqI (a := ((pb.length : Nat) : Int)) (b := (((sb) - (o.length) : Nat) : Int)) (show _ = (.int .i64 ((pb.length : Nat) : Int) : Value) from rfl) (show _ = (.int .i64 (((sb) - (o.length) : Nat) : Int) : Value) from rfl) (k_gtr _ .i64 (pb.length) ((sb) - (o.length))) ?_)    -- delta.go:129 t54 := (Op.binOp BinOp.gtr 3 (Operand.tmp 49) (Operand.tmp 53) 3)
            refine opsF_step rfl (YieldsK.pickF (show _ = (.bool (false) : Value) from rfl) (show _ = (.bool (decide (((sb) - (o.length)) < (pb.length))) : Value) from rfl) ?_)    -- delta.go:129 t55 := (Op.pick (Operand.tmp 47) (Operand.const (Value.bool true)) (Operand.tmp 54))
            refine opsF_end (fun ρ => ρ 0 = (vb : Value) ∧ ρ 1 = (v : Value) ∧ ρ 6 = (.int .i64 ((sa : Nat) : Int) : Value) ∧ ρ 7 = (.int .i64 ((sb : Nat) : Int) : Value) ∧ ρ 8 = (.int .i64 ((i : Nat) : Int) : Value) ∧ ρ 9 = (.int .i64 ((0 : Nat) : Int) : Value) ∧ ρ 10 = (vo : Value) ∧ ρ 11 = (v45 : Value) ∧ ρ 12 = (.int .i64 ((nx : Nat) : Int) : Value) ∧ ρ 13 = (.bool (true) : Value) ∧ ρ 21 = (.bool (false) : Value) ∧ ρ 55 = (.bool (decide (((sb) - (o.length)) < (pb.length))) : Value) ∧ True) ⟨T0, T1, T6, T7, T8, T9, T10, T11, T12, T13, T21, rfl, trivial⟩ fun ρ52 ⟨T0, T1, T6, T7, T8, T9, T10, T11, T12, T13, T21, T55, _⟩ => ?_
            refine thenF_normal (hK51 _ _ ?_)
            refine wpF_cond (((sb) - (o.length)) < (pb.length)) (show _ = (.bool (decide (((sb) - (o.length)) < (pb.length))) : Value) from T55) (fun hc4 => ?_) (fun hc4 => ?_)
            · refine wpF_seq_k fun K53 hK53 => ?_
              refine wpF_text ?_
              refine opsF_step rfl (YieldsK.assign (show _ = ((Value.slice none 0 0) : Value) from rfl) ?_)    -- delta.go:130 t4 := (Op.assign (Operand.const (Value.slice none 0 0)))
              refine opsF_step rfl (YieldsK.assign (show _ = (.int .i64 ((6 : Nat) : Int) : Value) from rfl) ?_)    -- delta.go:130 t5 := (Op.assign (Operand.const (Value.int IntKind.i64 6)))
              refine opsF_end (fun ρ => ρ 0 = (vb : Value) ∧ ρ 1 = (v : Value) ∧ ρ 4 = ((Value.slice none 0 0) : Value) ∧ ρ 5 = (.int .i64 ((6 : Nat) : Int) : Value) ∧ ρ 6 = (.int .i64 ((sa : Nat) : Int) : Value) ∧ ρ 7 = (.int .i64 ((sb : Nat) : Int) : Value) ∧ ρ 8 = (.int .i64 ((i : Nat) : Int) : Value) ∧ ρ 9 = (.int .i64 ((0 : Nat) : Int) : Value) ∧ ρ 10 = (vo : Value) ∧ ρ 11 = (v45 : Value) ∧ ρ 12 = (.int .i64 ((nx : Nat) : Int) : Value) ∧ ρ 13 = (.bool (true) : Value) ∧ ρ 21 = (.bool (false) : Value) ∧ True) ⟨T0, T1, rfl, rfl, T6, T7, T8, T9, T10, T11, T12, T13, T21, trivial⟩ fun ρ54 ⟨T0, T1, T4, T5, T6, T7, T8, T9, T10, T11, T12, T13, T21, _⟩ => ?_
              refine thenF_normal (hK53 _ _ ?_)
              refine wpF_ret (thenF_ret (inBlockF_ret (thenF_ret (inBlockF_ret (thenF_ret ?_)))))
              refine postF_ret (fn := Try.f12) _ rfl [(Value.slice none 0 0), .int .i64 ((6 : Nat) : Int)] (.tuple #[(Value.slice none 0 0), .int .i64 ((6 : Nat) : Int)]) rfl ⟨T4, T5, trivial⟩ ?_
              rw [applyGo, if_pos hc3, hpc] at hgo
              simp only at hgo; rw [if_pos hc4] at hgo
              have hP : applyP B D = ([], 6) := by rw [applyP, hsz]; simp only; rw [if_neg hc1, if_neg hc2, ← hgo]
              rw [hP]
              exact ⟨_, rfl, RB.nil _, hE⟩
            · refine wpF_skip ?_
              refine thenF_normal (hK50 _ _ ?_)
              refine wpF_text ?_
              refine opsF_step rfl (YieldsK.move (show _ = (vo : Value) from T10) ?_)    -- delta.go:132 t56 := (Op.move (Operand.tmp 10))
              refine opsF_step rfl (YieldsK.move (show _ = (v45 : Value) from T11) ?_)    -- delta.go:132 t57 := (Op.move (Operand.tmp 11))
              refine opsF_step rfl (YieldsK.appendRB _ _ w.heap.size (.int .u8 0) del11_ty22 del11_inf5 rfl del11_ty22 (o) (pb) (own_of ho_vo (show _ = (vo : Value) from rfl)) (RB.of hr46 (show _ = (v45 : Value) from rfl)) (by omega) hE.size fun v55 w56 ho57 hg58 => ?_)    -- delta.go:132 t58 := (Op.call { callee := (Callee.builtin Builtin.append), args := #[(Operand.tmp 56), (Operand.tmp 57)], argTypes 
              have hg58 : Grew w48 w56 vo v55 := hg58
              have hE : Ext w w56 := ext_grew hE hg58 ho_vo (Nat.le_refl _)
              clear ho_vo
              clear hr46
              refine opsF_step rfl (YieldsK.move (show _ = (.int .i64 ((nx : Nat) : Int) : Value) from T12) ?_)    -- delta.go:132 t59 := (Op.move (Operand.tmp 12))
              refine opsF_step rfl (YieldsK.assign (show _ = (v55 : Value) from rfl) ?_)    -- delta.go:132 t10 := (Op.assign (Operand.tmp 58))
              refine opsF_step rfl (YieldsK.assign (show _ = (.int .i64 ((nx : Nat) : Int) : Value) from rfl) ?_)    -- delta.go:132 t8 := (Op.assign (Operand.tmp 59))
              refine opsF_end (fun ρ => ρ 0 = (vb : Value) ∧ ρ 1 = (v : Value) ∧ ρ 6 = (.int .i64 ((sa : Nat) : Int) : Value) ∧ ρ 7 = (.int .i64 ((sb : Nat) : Int) : Value) ∧ ρ 8 = (.int .i64 ((nx : Nat) : Int) : Value) ∧ ρ 9 = (.int .i64 ((0 : Nat) : Int) : Value) ∧ ρ 10 = (v55 : Value) ∧ ρ 11 = (v45 : Value) ∧ ρ 12 = (.int .i64 ((nx : Nat) : Int) : Value) ∧ ρ 13 = (.bool (true) : Value) ∧ ρ 21 = (.bool (false) : Value) ∧ True) ⟨T0, T1, T6, T7, rfl, T9, rfl, T11, T12, T13, T21, trivial⟩ fun ρ59 ⟨T0, T1, T6, T7, T8, T9, T10, T11, T12, T13, T21, _⟩ => ?_
              refine inBlockF_normal ?_
              refine thenF_normal (And.intro ⟨nx, f', o ++ pb, v55, T0, T1, T6, T7, T9, T21, T8, T10, hE, own_eq ho57 (rfl), by rw [applyGo, if_pos hc3, hpc] at hgo; simp only at hgo; rw [if_neg hc4] at hgo; exact hgo, by omega, by omega, by rw [List.length_append]; omega, trivial⟩ ?_)
              show D.length - (intOf (ρ59 8)).toNat < D.length - (intOf (ρ30 8)).toNat
              rw [T8, q8]
              simp only [intOf, Int.toNat_natCast]; omega
        · refine wpF_exit (thenF_exit (thenF_exit (inBlockF_hit ?_)))
          refine thenF_normal (hK29 _ _ ?_)
          refine wpF_seq_k fun K60 hK60 => ?_
          refine wpF_seq_k fun K61 hK61 => ?_
          refine wpF_text ?_
          refine opsF_step rfl (YieldsK.move (show _ = (vo : Value) from T10) ?_)    -- delta.go:134 t60 := (Op.move (Operand.tmp 10))
          refine opsF_step rfl (YieldsK.lenRB del11_ty22 (RB.of (RB.ofOwn ho_vo) (show _ = (vo : Value) from rfl)) ?_)    -- delta.go:134 t61 := (Op.call { callee := (Callee.builtin Builtin.len), args := #[(Operand.tmp 60)], argTypes := #[22] })
          refine opsF_step rfl (YieldsK.move (show _ = (.int .i64 ((sb : Nat) : Int) : Value) from T7) ?_)    -- delta.go:134 t62 := (Op.move (Operand.tmp 7))
          refine opsF_step rfl (YieldsK.eqI (a := ((o.length : Nat) : Int)) (b := ((sb : Nat) : Int)) (show _ = (.int .i64 ((o.length : Nat) : Int) : Value) from rfl) (show _ = (.int .i64 ((sb : Nat) : Int) : Value) from rfl) (k_neq _ .i64 (o.length) (sb)) ?_)    -- delta.go:134 t63 := (Op.binOp BinOp.neq 3 (Operand.tmp 61) (Operand.tmp 62) 3)
          refine opsF_end (fun ρ => ρ 0 = (vb : Value) ∧ ρ 1 = (v : Value) ∧ ρ 6 = (.int .i64 ((sa : Nat) : Int) : Value) ∧ ρ 7 = (.int .i64 ((sb : Nat) : Int) : Value) ∧ ρ 8 = (.int .i64 ((i : Nat) : Int) : Value) ∧ ρ 9 = (.int .i64 ((0 : Nat) : Int) : Value) ∧ ρ 10 = (vo : Value) ∧ ρ 21 = (.bool (false) : Value) ∧ ρ 63 = (.bool (decide ((o.length : Nat) ≠ (sb))) : Value) ∧ True) ⟨T0, T1, T6, T7, T8, T9, T10, T21, rfl, trivial⟩ fun ρ62 ⟨T0, T1, T6, T7, T8, T9, T10, T21, T63, _⟩ => ?_
          refine thenF_normal (hK61 _ _ ?_)
          refine wpF_cond ((o.length : Nat) ≠ (sb)) (show _ = (.bool (decide ((o.length : Nat) ≠ (sb))) : Value) from T63) (fun hc5 => ?_) (fun hc5 => ?_)
          · refine wpF_seq_k fun K63 hK63 => ?_
            refine wpF_text ?_
            refine opsF_step rfl (YieldsK.assign (show _ = ((Value.slice none 0 0) : Value) from rfl) ?_)    -- delta.go:135 t4 := (Op.assign (Operand.const (Value.slice none 0 0)))
            refine opsF_step rfl (YieldsK.assign (show _ = (.int .i64 ((6 : Nat) : Int) : Value) from rfl) ?_)    -- delta.go:135 t5 := (Op.assign (Operand.const (Value.int IntKind.i64 6)))
            refine opsF_end (fun ρ => ρ 0 = (vb : Value) ∧ ρ 1 = (v : Value) ∧ ρ 4 = ((Value.slice none 0 0) : Value) ∧ ρ 5 = (.int .i64 ((6 : Nat) : Int) : Value) ∧ ρ 6 = (.int .i64 ((sa : Nat) : Int) : Value) ∧ ρ 7 = (.int .i64 ((sb : Nat) : Int) : Value) ∧ ρ 8 = (.int .i64 ((i : Nat) : Int) : Value) ∧ ρ 9 = (.int .i64 ((0 : Nat) : Int) : Value) ∧ ρ 10 = (vo : Value) ∧ ρ 21 = (.bool (false) : Value) ∧ True) ⟨T0, T1, rfl, rfl, T6, T7, T8, T9, T10, T21, trivial⟩ fun ρ64 ⟨T0, T1, T4, T5, T6, T7, T8, T9, T10, T21, _⟩ => ?_
            refine thenF_normal (hK63 _ _ ?_)
            refine wpF_ret (thenF_ret ?_)
            refine postF_ret (fn := Try.f12) _ rfl [(Value.slice none 0 0), .int .i64 ((6 : Nat) : Int)] (.tuple #[(Value.slice none 0 0), .int .i64 ((6 : Nat) : Int)]) rfl ⟨T4, T5, trivial⟩ ?_
            rw [applyGo, if_neg hc3, if_neg hc5] at hgo
            have hP : applyP B D = ([], 6) := by rw [applyP, hsz]; simp only; rw [if_neg hc1, if_neg hc2, ← hgo]
            rw [hP]
            exact ⟨_, rfl, RB.nil _, hE⟩
          · refine wpF_skip ?_
            refine thenF_normal (hK60 _ _ ?_)
            refine wpF_seq_k fun K65 hK65 => ?_
            refine wpF_text ?_
            refine opsF_step rfl (YieldsK.move (show _ = (vo : Value) from T10) ?_)    -- delta.go:137 t64 := (Op.move (Operand.tmp 10))
            refine opsF_step rfl (YieldsK.assign (show _ = (vo : Value) from rfl) ?_)    -- delta.go:137 t4 := (Op.assign (Operand.tmp 64))
            refine opsF_step rfl (YieldsK.assign (show _ = (.int .i64 ((0 : Nat) : Int) : Value) from rfl) ?_)    -- delta.go:137 t5 := (Op.assign (Operand.const (Value.int IntKind.i64 0)))
            refine opsF_end (fun ρ => ρ 0 = (vb : Value) ∧ ρ 1 = (v : Value) ∧ ρ 4 = (vo : Value) ∧ ρ 5 = (.int .i64 ((0 : Nat) : Int) : Value) ∧ ρ 6 = (.int .i64 ((sa : Nat) : Int) : Value) ∧ ρ 7 = (.int .i64 ((sb : Nat) : Int) : Value) ∧ ρ 8 = (.int .i64 ((i : Nat) : Int) : Value) ∧ ρ 9 = (.int .i64 ((0 : Nat) : Int) : Value) ∧ ρ 10 = (vo : Value) ∧ ρ 21 = (.bool (false) : Value) ∧ True) ⟨T0, T1, rfl, rfl, T6, T7, T8, T9, T10, T21, trivial⟩ fun ρ66 ⟨T0, T1, T4, T5, T6, T7, T8, T9, T10, T21, _⟩ => ?_
            refine thenF_normal (hK65 _ _ ?_)
            refine wpF_ret ?_
            refine postF_ret (fn := Try.f12) _ rfl [vo, .int .i64 ((0 : Nat) : Int)] (.tuple #[vo, .int .i64 ((0 : Nat) : Int)]) rfl ⟨T4, T5, trivial⟩ ?_
            rw [applyGo, if_neg hc3, if_pos (by omega)] at hgo
            have hP : applyP B D = (o, 0) := by rw [applyP, hsz]; simp only; rw [if_neg hc1, if_neg hc2, ← hgo]
            rw [hP]
            exact ⟨_, rfl, RB.ofOwn ho_vo, hE⟩
end Go.Proofs.Ytfjmbcjcgdfkfaa
