/- delta.sizes, Sizes, piece. -/
import Derived.Test.YtfjmbcjcgdfkfaaDel9
namespace Go.Proofs.Ytfjmbcjcgdfkfaa
open Go.RowKit
theorem del10_pl27 : Plain Try.prog 27 := fun _ _ => by kernel_rfl
theorem del10_pl23 : Plain Try.prog 23 := fun _ _ => by kernel_rfl
theorem del10_ty22 : Try.prog.underlying 22 = some (.slice 5) := by kernel_rfl
theorem del10_sz5 : ∀ w' : World, (sizeOf 5).run Try.prog w' = .ok 1 w' := fun _ => by kernel_rfl
theorem sizes_any (w : World) (v : Value) (D : List UInt8) (hr : RB w v D) :
    Calls Try.prog 23 #[v] w fun e w' => e = .returned (sizesRes (sizesP D)) ∧ Ext w w' := by
  refine calls_of_wpF (args := [v]) Try.func23 rfl 26 rfl (Nat.le_of_ble_eq_true rfl) ?_
  intro ρ0 hb
  have T0 : ρ0 0 = (v : Value) := hb.get 0
  clear hb
  have hE := Ext.refl w
  refine wpF_seq_k fun K1 hK1 => ?_
  refine wpF_text ?_
  refine opsF_step rfl (YieldsK.assign (show _ = (.int .i64 ((0 : Nat) : Int) : Value) from rfl) ?_)    -- delta.go:74 t2 := (Op.assign (Operand.const (Value.int IntKind.i64 0)))
  refine opsF_step rfl (YieldsK.assign (show _ = (.int .i64 ((0 : Nat) : Int) : Value) from rfl) ?_)    -- delta.go:74 t3 := (Op.assign (Operand.const (Value.int IntKind.i64 0)))
  refine opsF_step rfl (YieldsK.assign (show _ = (.int .i64 ((0 : Nat) : Int) : Value) from rfl) ?_)    -- delta.go:74 t4 := (Op.assign (Operand.const (Value.int IntKind.i64 0)))
  refine opsF_step rfl (YieldsK.assign (show _ = (.int .i64 ((0 : Nat) : Int) : Value) from rfl) ?_)    -- delta.go:74 t5 := (Op.assign (Operand.const (Value.int IntKind.i64 0)))
  refine opsF_end (fun ρ => ρ 0 = (v : Value) ∧ ρ 2 = (.int .i64 ((0 : Nat) : Int) : Value) ∧ ρ 3 = (.int .i64 ((0 : Nat) : Int) : Value) ∧ ρ 4 = (.int .i64 ((0 : Nat) : Int) : Value) ∧ ρ 5 = (.int .i64 ((0 : Nat) : Int) : Value) ∧ True) ⟨T0, rfl, rfl, rfl, rfl, trivial⟩ fun ρ2 ⟨T0, T2, T3, T4, T5, _⟩ => ?_
  rcases hgxa : lebDec 0 (D.drop (0)) with _ | ⟨xa, ka⟩
  · refine thenF_normal (hK1 _ _ ?_)
    refine wpF_seq_k fun K3 hK3 => ?_
    refine wpF_text ?_
    refine opsF_step rfl (YieldsK.move (show _ = (v : Value) from T0) ?_)    -- delta.go:75 t7 := (Op.move (Operand.tmp 0))
    refine opsF_step rfl (YieldsK.callA2 del10_pl27 (show _ = (v : Value) from rfl) (show _ = (.int .i64 ((0 : Nat) : Int) : Value) from rfl) ?_)    -- delta.go:75 t8 := (Op.call { callee := (Callee.value (Operand.func 27)), args := #[(Operand.tmp 7), (Operand.const (Value.int In
    refine (getNo _ v D (hr.keep hE) (0) (by omega) hgxa).mono ?_
    rintro e w5 ⟨rfl, hx4⟩
    refine ⟨_, rfl, ?_⟩
    have hE : Ext w w5 := (hE.trans hx4)
    refine opsF_step rfl (YieldsK.move (show _ = (.tuple #[.int .i64 ((0 : Nat) : Int), .int .i64 ((0 : Nat) : Int), .int .i64 ((6 : Nat) : Int)] : Value) from rfl) ?_)    -- delta.go:75 t6 := (Op.move (Operand.tmp 8))
    refine opsF_step rfl (YieldsK.extract (vs := [.int .i64 ((0 : Nat) : Int), .int .i64 ((0 : Nat) : Int), .int .i64 ((6 : Nat) : Int)]) (show _ = (.tuple #[.int .i64 ((0 : Nat) : Int), .int .i64 ((0 : Nat) : Int), .int .i64 ((6 : Nat) : Int)] : Value) from rfl) (show _ = some (.int .i64 ((0 : Nat) : Int) : Value) from rfl) ?_)    -- delta.go:75 t9 := (Op.extract (Operand.tmp 6) 0)
    refine opsF_step rfl (YieldsK.extract (vs := [.int .i64 ((0 : Nat) : Int), .int .i64 ((0 : Nat) : Int), .int .i64 ((6 : Nat) : Int)]) (show _ = (.tuple #[.int .i64 ((0 : Nat) : Int), .int .i64 ((0 : Nat) : Int), .int .i64 ((6 : Nat) : Int)] : Value) from rfl) (show _ = some (.int .i64 ((0 : Nat) : Int) : Value) from rfl) ?_)    -- delta.go:75 t10 := (Op.extract (Operand.tmp 6) 1)
    refine opsF_step rfl (YieldsK.extract (vs := [.int .i64 ((0 : Nat) : Int), .int .i64 ((0 : Nat) : Int), .int .i64 ((6 : Nat) : Int)]) (show _ = (.tuple #[.int .i64 ((0 : Nat) : Int), .int .i64 ((0 : Nat) : Int), .int .i64 ((6 : Nat) : Int)] : Value) from rfl) (show _ = some (.int .i64 ((6 : Nat) : Int) : Value) from rfl) ?_)    -- delta.go:75 t11 := (Op.extract (Operand.tmp 6) 2)
    refine opsF_step rfl (YieldsK.assign (show _ = (.int .i64 ((0 : Nat) : Int) : Value) from rfl) ?_)    -- delta.go:75 t2 := (Op.assign (Operand.tmp 9))
    refine opsF_step rfl (YieldsK.assign (show _ = (.int .i64 ((0 : Nat) : Int) : Value) from rfl) ?_)    -- delta.go:75 t4 := (Op.assign (Operand.tmp 10))
    refine opsF_step rfl (YieldsK.assign (show _ = (.int .i64 ((6 : Nat) : Int) : Value) from rfl) ?_)    -- delta.go:75 t5 := (Op.assign (Operand.tmp 11))
    refine opsF_end (fun ρ => ρ 0 = (v : Value) ∧ ρ 2 = (.int .i64 ((0 : Nat) : Int) : Value) ∧ ρ 3 = (.int .i64 ((0 : Nat) : Int) : Value) ∧ ρ 4 = (.int .i64 ((0 : Nat) : Int) : Value) ∧ ρ 5 = (.int .i64 ((6 : Nat) : Int) : Value) ∧ True) ⟨T0, rfl, T3, rfl, rfl, trivial⟩ fun ρ6 ⟨T0, T2, T3, T4, T5, _⟩ => ?_
    refine thenF_normal (hK3 _ _ ?_)
    refine wpF_seq_k fun K7 hK7 => ?_
    refine wpF_seq_k fun K8 hK8 => ?_
    refine wpF_text ?_
    refine opsF_step rfl (YieldsK.move (show _ = (.int .i64 ((6 : Nat) : Int) : Value) from T5) ?_)    -- delta.go:76 t12 := (Op.move (Operand.tmp 5))
    refine opsF_step rfl (YieldsK.eqI (a := ((6 : Nat) : Int)) (b := ((0 : Nat) : Int)) (show _ = (.int .i64 ((6 : Nat) : Int) : Value) from rfl) (show _ = (.int .i64 ((0 : Nat) : Int) : Value) from rfl) (k_neq _ .i64 (6) (0)) ?_)    -- delta.go:76 t13 := (Op.binOp BinOp.neq 28 (Operand.tmp 12) (Operand.const (Value.int IntKind.i64 0)) 28)
    refine opsF_end (fun ρ => ρ 0 = (v : Value) ∧ ρ 2 = (.int .i64 ((0 : Nat) : Int) : Value) ∧ ρ 3 = (.int .i64 ((0 : Nat) : Int) : Value) ∧ ρ 4 = (.int .i64 ((0 : Nat) : Int) : Value) ∧ ρ 5 = (.int .i64 ((6 : Nat) : Int) : Value) ∧ ρ 13 = (.bool (true) : Value) ∧ True) ⟨T0, T2, T3, T4, T5, (congrArg Value.bool (decide_eq_true (by decide))), trivial⟩ fun ρ9 ⟨T0, T2, T3, T4, T5, T13, _⟩ => ?_
    refine thenF_normal (hK8 _ _ ?_)
    refine wpF_true (show _ = (.bool (true) : Value) from T13) ?_
    refine wpF_seq_k fun K10 hK10 => ?_
    refine wpF_text ?_
    refine opsF_step rfl (YieldsK.assign (show _ = (.int .i64 ((0 : Nat) : Int) : Value) from rfl) ?_)    -- delta.go:77 t2 := (Op.assign (Operand.const (Value.int IntKind.i64 0)))
    refine opsF_step rfl (YieldsK.assign (show _ = (.int .i64 ((0 : Nat) : Int) : Value) from rfl) ?_)    -- delta.go:77 t3 := (Op.assign (Operand.const (Value.int IntKind.i64 0)))
    refine opsF_step rfl (YieldsK.assign (show _ = (.int .i64 ((0 : Nat) : Int) : Value) from rfl) ?_)    -- delta.go:77 t4 := (Op.assign (Operand.const (Value.int IntKind.i64 0)))
    refine opsF_step rfl (YieldsK.assign (show _ = (.int .i64 ((6 : Nat) : Int) : Value) from rfl) ?_)    -- delta.go:77 t5 := (Op.assign (Operand.const (Value.int IntKind.i64 6)))
    refine opsF_end (fun ρ => ρ 0 = (v : Value) ∧ ρ 2 = (.int .i64 ((0 : Nat) : Int) : Value) ∧ ρ 3 = (.int .i64 ((0 : Nat) : Int) : Value) ∧ ρ 4 = (.int .i64 ((0 : Nat) : Int) : Value) ∧ ρ 5 = (.int .i64 ((6 : Nat) : Int) : Value) ∧ ρ 13 = (.bool (true) : Value) ∧ True) ⟨T0, rfl, rfl, rfl, rfl, T13, trivial⟩ fun ρ11 ⟨T0, T2, T3, T4, T5, T13, _⟩ => ?_
    refine thenF_normal (hK10 _ _ ?_)
    refine wpF_ret (thenF_ret ?_)
    refine postF_ret (fn := Try.f23) _ rfl [.int .i64 ((0 : Nat) : Int), .int .i64 ((0 : Nat) : Int), .int .i64 ((0 : Nat) : Int), .int .i64 ((6 : Nat) : Int)] (.tuple #[.int .i64 ((0 : Nat) : Int), .int .i64 ((0 : Nat) : Int), .int .i64 ((0 : Nat) : Int), .int .i64 ((6 : Nat) : Int)]) rfl ⟨T2, T3, T4, T5, trivial⟩ ?_
    refine ⟨?_, hE⟩
    rw [sizesP, hgxa]
    rfl
  · have hqxa := lebDec_bound (a := 0) (by omega) hgxa
    rcases hgxb : lebDec 0 (D.drop (0 + ka)) with _ | ⟨xb, kb⟩
    · refine thenF_normal (hK1 _ _ ?_)
      refine wpF_seq_k fun K12 hK12 => ?_
      refine wpF_text ?_
      refine opsF_step rfl (YieldsK.move (show _ = (v : Value) from T0) ?_)    -- delta.go:75 t7 := (Op.move (Operand.tmp 0))
      refine opsF_step rfl (YieldsK.callA2 del10_pl27 (show _ = (v : Value) from rfl) (show _ = (.int .i64 ((0 : Nat) : Int) : Value) from rfl) ?_)    -- delta.go:75 t8 := (Op.call { callee := (Callee.value (Operand.func 27)), args := #[(Operand.tmp 7), (Operand.const (Value.int In
      refine (getYes _ v D (hr.keep hE) (0) (by omega) xa ka hgxa).mono ?_
      rintro e w14 ⟨rfl, hx13⟩
      refine ⟨_, rfl, ?_⟩
      have hE : Ext w w14 := (hE.trans hx13)
      refine opsF_step rfl (YieldsK.move (show _ = (.tuple #[.int .i64 ((xa : Nat) : Int), .int .i64 (((0) + ka : Nat) : Int), .int .i64 ((0 : Nat) : Int)] : Value) from rfl) ?_)    -- delta.go:75 t6 := (Op.move (Operand.tmp 8))
      refine opsF_step rfl (YieldsK.extract (vs := [.int .i64 ((xa : Nat) : Int), .int .i64 (((0) + ka : Nat) : Int), .int .i64 ((0 : Nat) : Int)]) (show _ = (.tuple #[.int .i64 ((xa : Nat) : Int), .int .i64 (((0) + ka : Nat) : Int), .int .i64 ((0 : Nat) : Int)] : Value) from rfl) (show _ = some (.int .i64 ((xa : Nat) : Int) : Value) from rfl) ?_)    -- delta.go:75 t9 := (Op.extract (Operand.tmp 6) 0)
      refine opsF_step rfl (YieldsK.extract (vs := [.int .i64 ((xa : Nat) : Int), .int .i64 (((0) + ka : Nat) : Int), .int .i64 ((0 : Nat) : Int)]) (show _ = (.tuple #[.int .i64 ((xa : Nat) : Int), .int .i64 (((0) + ka : Nat) : Int), .int .i64 ((0 : Nat) : Int)] : Value) from rfl) (show _ = some (.int .i64 (((0) + ka : Nat) : Int) : Value) from rfl) ?_)    -- delta.go:75 t10 := (Op.extract (Operand.tmp 6) 1)
      refine opsF_step rfl (YieldsK.extract (vs := [.int .i64 ((xa : Nat) : Int), .int .i64 (((0) + ka : Nat) : Int), .int .i64 ((0 : Nat) : Int)]) (show _ = (.tuple #[.int .i64 ((xa : Nat) : Int), .int .i64 (((0) + ka : Nat) : Int), .int .i64 ((0 : Nat) : Int)] : Value) from rfl) (show _ = some (.int .i64 ((0 : Nat) : Int) : Value) from rfl) ?_)    -- delta.go:75 t11 := (Op.extract (Operand.tmp 6) 2)
      refine opsF_step rfl (YieldsK.assign (show _ = (.int .i64 ((xa : Nat) : Int) : Value) from rfl) ?_)    -- delta.go:75 t2 := (Op.assign (Operand.tmp 9))
      refine opsF_step rfl (YieldsK.assign (show _ = (.int .i64 (((0) + ka : Nat) : Int) : Value) from rfl) ?_)    -- delta.go:75 t4 := (Op.assign (Operand.tmp 10))
      refine opsF_step rfl (YieldsK.assign (show _ = (.int .i64 ((0 : Nat) : Int) : Value) from rfl) ?_)    -- delta.go:75 t5 := (Op.assign (Operand.tmp 11))
      refine opsF_end (fun ρ => ρ 0 = (v : Value) ∧ ρ 2 = (.int .i64 ((xa : Nat) : Int) : Value) ∧ ρ 3 = (.int .i64 ((0 : Nat) : Int) : Value) ∧ ρ 4 = (.int .i64 (((0) + ka : Nat) : Int) : Value) ∧ ρ 5 = (.int .i64 ((0 : Nat) : Int) : Value) ∧ True) ⟨T0, rfl, T3, rfl, rfl, trivial⟩ fun ρ15 ⟨T0, T2, T3, T4, T5, _⟩ => ?_
      refine thenF_normal (hK12 _ _ ?_)
      refine wpF_seq_k fun K16 hK16 => ?_
      refine wpF_seq_k fun K17 hK17 => ?_
      refine wpF_text ?_
      refine opsF_step rfl (YieldsK.move (show _ = (.int .i64 ((0 : Nat) : Int) : Value) from T5) ?_)    -- delta.go:76 t12 := (Op.move (Operand.tmp 5))
      refine opsF_step rfl (YieldsK.eqI (a := ((0 : Nat) : Int)) (b := ((0 : Nat) : Int)) (show _ = (.int .i64 ((0 : Nat) : Int) : Value) from rfl) (show _ = (.int .i64 ((0 : Nat) : Int) : Value) from rfl) (k_neq _ .i64 (0) (0)) ?_)    -- delta.go:76 t13 := (Op.binOp BinOp.neq 28 (Operand.tmp 12) (Operand.const (Value.int IntKind.i64 0)) 28)
      refine opsF_end (fun ρ => ρ 0 = (v : Value) ∧ ρ 2 = (.int .i64 ((xa : Nat) : Int) : Value) ∧ ρ 3 = (.int .i64 ((0 : Nat) : Int) : Value) ∧ ρ 4 = (.int .i64 (((0) + ka : Nat) : Int) : Value) ∧ ρ 5 = (.int .i64 ((0 : Nat) : Int) : Value) ∧ ρ 13 = (.bool (false) : Value) ∧ True) ⟨T0, T2, T3, T4, T5, (congrArg Value.bool (decide_eq_false (by decide))), trivial⟩ fun ρ18 ⟨T0, T2, T3, T4, T5, T13, _⟩ => ?_
      refine thenF_normal (hK17 _ _ ?_)
      refine wpF_false (show _ = (.bool (false) : Value) from T13) ?_
      refine wpF_skip ?_
      refine thenF_normal (hK16 _ _ ?_)
      refine wpF_seq_k fun K19 hK19 => ?_
      refine wpF_text ?_
      refine opsF_step rfl (YieldsK.move (show _ = (v : Value) from T0) ?_)    -- delta.go:79 t15 := (Op.move (Operand.tmp 0))
      refine opsF_step rfl (YieldsK.move (show _ = (.int .i64 (((0) + ka : Nat) : Int) : Value) from T4) ?_)    -- delta.go:79 t16 := (Op.move (Operand.tmp 4))
      refine opsF_step rfl (YieldsK.callA2 del10_pl27 (show _ = (v : Value) from rfl) (show _ = (.int .i64 (((0) + ka : Nat) : Int) : Value) from rfl) ?_)    -- delta.go:79 t17 := (Op.call { callee := (Callee.value (Operand.func 27)), args := #[(Operand.tmp 15), (Operand.tmp 16)], argTypes
      refine (getNo _ v D (hr.keep hE) ((0) + ka) (by omega) hgxb).mono ?_
      rintro e w21 ⟨rfl, hx20⟩
      refine ⟨_, rfl, ?_⟩
      have hE : Ext w w21 := (hE.trans hx20)
      refine opsF_step rfl (YieldsK.move (show _ = (.tuple #[.int .i64 ((0 : Nat) : Int), .int .i64 ((0 : Nat) : Int), .int .i64 ((6 : Nat) : Int)] : Value) from rfl) ?_)    -- delta.go:79 t14 := (Op.move (Operand.tmp 17))
      refine opsF_step rfl (YieldsK.extract (vs := [.int .i64 ((0 : Nat) : Int), .int .i64 ((0 : Nat) : Int), .int .i64 ((6 : Nat) : Int)]) (show _ = (.tuple #[.int .i64 ((0 : Nat) : Int), .int .i64 ((0 : Nat) : Int), .int .i64 ((6 : Nat) : Int)] : Value) from rfl) (show _ = some (.int .i64 ((0 : Nat) : Int) : Value) from rfl) ?_)    -- delta.go:79 t18 := (Op.extract (Operand.tmp 14) 0)
      refine opsF_step rfl (YieldsK.extract (vs := [.int .i64 ((0 : Nat) : Int), .int .i64 ((0 : Nat) : Int), .int .i64 ((6 : Nat) : Int)]) (show _ = (.tuple #[.int .i64 ((0 : Nat) : Int), .int .i64 ((0 : Nat) : Int), .int .i64 ((6 : Nat) : Int)] : Value) from rfl) (show _ = some (.int .i64 ((0 : Nat) : Int) : Value) from rfl) ?_)    -- delta.go:79 t19 := (Op.extract (Operand.tmp 14) 1)
      refine opsF_step rfl (YieldsK.extract (vs := [.int .i64 ((0 : Nat) : Int), .int .i64 ((0 : Nat) : Int), .int .i64 ((6 : Nat) : Int)]) (show _ = (.tuple #[.int .i64 ((0 : Nat) : Int), .int .i64 ((0 : Nat) : Int), .int .i64 ((6 : Nat) : Int)] : Value) from rfl) (show _ = some (.int .i64 ((6 : Nat) : Int) : Value) from rfl) ?_)    -- delta.go:79 t20 := (Op.extract (Operand.tmp 14) 2)
      refine opsF_step rfl (YieldsK.assign (show _ = (.int .i64 ((0 : Nat) : Int) : Value) from rfl) ?_)    -- delta.go:79 t3 := (Op.assign (Operand.tmp 18))
      refine opsF_step rfl (YieldsK.assign (show _ = (.int .i64 ((0 : Nat) : Int) : Value) from rfl) ?_)    -- delta.go:79 t4 := (Op.assign (Operand.tmp 19))
      refine opsF_step rfl (YieldsK.assign (show _ = (.int .i64 ((6 : Nat) : Int) : Value) from rfl) ?_)    -- delta.go:79 t5 := (Op.assign (Operand.tmp 20))
      refine opsF_end (fun ρ => ρ 0 = (v : Value) ∧ ρ 2 = (.int .i64 ((xa : Nat) : Int) : Value) ∧ ρ 3 = (.int .i64 ((0 : Nat) : Int) : Value) ∧ ρ 4 = (.int .i64 ((0 : Nat) : Int) : Value) ∧ ρ 5 = (.int .i64 ((6 : Nat) : Int) : Value) ∧ ρ 13 = (.bool (false) : Value) ∧ True) ⟨T0, T2, rfl, rfl, rfl, T13, trivial⟩ fun ρ22 ⟨T0, T2, T3, T4, T5, T13, _⟩ => ?_
      refine thenF_normal (hK19 _ _ ?_)
      refine wpF_seq_k fun K23 hK23 => ?_
      refine wpF_seq_k fun K24 hK24 => ?_
      refine wpF_text ?_
      refine opsF_step rfl (YieldsK.move (show _ = (.int .i64 ((6 : Nat) : Int) : Value) from T5) ?_)    -- delta.go:80 t21 := (Op.move (Operand.tmp 5))
      refine opsF_step rfl (YieldsK.eqI (a := ((6 : Nat) : Int)) (b := ((0 : Nat) : Int)) (show _ = (.int .i64 ((6 : Nat) : Int) : Value) from rfl) (show _ = (.int .i64 ((0 : Nat) : Int) : Value) from rfl) (k_neq _ .i64 (6) (0)) ?_)    -- delta.go:80 t22 := (Op.binOp BinOp.neq 28 (Operand.tmp 21) (Operand.const (Value.int IntKind.i64 0)) 28)
      refine opsF_end (fun ρ => ρ 0 = (v : Value) ∧ ρ 2 = (.int .i64 ((xa : Nat) : Int) : Value) ∧ ρ 3 = (.int .i64 ((0 : Nat) : Int) : Value) ∧ ρ 4 = (.int .i64 ((0 : Nat) : Int) : Value) ∧ ρ 5 = (.int .i64 ((6 : Nat) : Int) : Value) ∧ ρ 13 = (.bool (false) : Value) ∧ ρ 22 = (.bool (true) : Value) ∧ True) ⟨T0, T2, T3, T4, T5, T13, (congrArg Value.bool (decide_eq_true (by decide))), trivial⟩ fun ρ25 ⟨T0, T2, T3, T4, T5, T13, T22, _⟩ => ?_
      refine thenF_normal (hK24 _ _ ?_)
      refine wpF_true (show _ = (.bool (true) : Value) from T22) ?_
      refine wpF_seq_k fun K26 hK26 => ?_
      refine wpF_text ?_
      refine opsF_step rfl (YieldsK.assign (show _ = (.int .i64 ((0 : Nat) : Int) : Value) from rfl) ?_)    -- delta.go:81 t2 := (Op.assign (Operand.const (Value.int IntKind.i64 0)))
      refine opsF_step rfl (YieldsK.assign (show _ = (.int .i64 ((0 : Nat) : Int) : Value) from rfl) ?_)    -- delta.go:81 t3 := (Op.assign (Operand.const (Value.int IntKind.i64 0)))
      refine opsF_step rfl (YieldsK.assign (show _ = (.int .i64 ((0 : Nat) : Int) : Value) from rfl) ?_)    -- delta.go:81 t4 := (Op.assign (Operand.const (Value.int IntKind.i64 0)))
      refine opsF_step rfl (YieldsK.assign (show _ = (.int .i64 ((6 : Nat) : Int) : Value) from rfl) ?_)    -- delta.go:81 t5 := (Op.assign (Operand.const (Value.int IntKind.i64 6)))
      refine opsF_end (fun ρ => ρ 0 = (v : Value) ∧ ρ 2 = (.int .i64 ((0 : Nat) : Int) : Value) ∧ ρ 3 = (.int .i64 ((0 : Nat) : Int) : Value) ∧ ρ 4 = (.int .i64 ((0 : Nat) : Int) : Value) ∧ ρ 5 = (.int .i64 ((6 : Nat) : Int) : Value) ∧ ρ 13 = (.bool (false) : Value) ∧ ρ 22 = (.bool (true) : Value) ∧ True) ⟨T0, rfl, rfl, rfl, rfl, T13, T22, trivial⟩ fun ρ27 ⟨T0, T2, T3, T4, T5, T13, T22, _⟩ => ?_
      refine thenF_normal (hK26 _ _ ?_)
      refine wpF_ret (thenF_ret ?_)
      refine postF_ret (fn := Try.f23) _ rfl [.int .i64 ((0 : Nat) : Int), .int .i64 ((0 : Nat) : Int), .int .i64 ((0 : Nat) : Int), .int .i64 ((6 : Nat) : Int)] (.tuple #[.int .i64 ((0 : Nat) : Int), .int .i64 ((0 : Nat) : Int), .int .i64 ((0 : Nat) : Int), .int .i64 ((6 : Nat) : Int)]) rfl ⟨T2, T3, T4, T5, trivial⟩ ?_
      refine ⟨?_, hE⟩
      rw [sizesP, hgxa]; simp only; rw [hgxb]
      rfl
    · have hqxb := lebDec_bound (a := 0 + ka) (by omega) hgxb
      refine thenF_normal (hK1 _ _ ?_)
      refine wpF_seq_k fun K28 hK28 => ?_
      refine wpF_text ?_
      refine opsF_step rfl (YieldsK.move (show _ = (v : Value) from T0) ?_)    -- delta.go:75 t7 := (Op.move (Operand.tmp 0))
      refine opsF_step rfl (YieldsK.callA2 del10_pl27 (show _ = (v : Value) from rfl) (show _ = (.int .i64 ((0 : Nat) : Int) : Value) from rfl) ?_)    -- delta.go:75 t8 := (Op.call { callee := (Callee.value (Operand.func 27)), args := #[(Operand.tmp 7), (Operand.const (Value.int In
      refine (getYes _ v D (hr.keep hE) (0) (by omega) xa ka hgxa).mono ?_
      rintro e w30 ⟨rfl, hx29⟩
      refine ⟨_, rfl, ?_⟩
      have hE : Ext w w30 := (hE.trans hx29)
      refine opsF_step rfl (YieldsK.move (show _ = (.tuple #[.int .i64 ((xa : Nat) : Int), .int .i64 (((0) + ka : Nat) : Int), .int .i64 ((0 : Nat) : Int)] : Value) from rfl) ?_)    -- delta.go:75 t6 := (Op.move (Operand.tmp 8))
      refine opsF_step rfl (YieldsK.extract (vs := [.int .i64 ((xa : Nat) : Int), .int .i64 (((0) + ka : Nat) : Int), .int .i64 ((0 : Nat) : Int)]) (show _ = (.tuple #[.int .i64 ((xa : Nat) : Int), .int .i64 (((0) + ka : Nat) : Int), .int .i64 ((0 : Nat) : Int)] : Value) from rfl) (show _ = some (.int .i64 ((xa : Nat) : Int) : Value) from rfl) ?_)    -- delta.go:75 t9 := (Op.extract (Operand.tmp 6) 0)
      refine opsF_step rfl (YieldsK.extract (vs := [.int .i64 ((xa : Nat) : Int), .int .i64 (((0) + ka : Nat) : Int), .int .i64 ((0 : Nat) : Int)]) (show _ = (.tuple #[.int .i64 ((xa : Nat) : Int), .int .i64 (((0) + ka : Nat) : Int), .int .i64 ((0 : Nat) : Int)] : Value) from rfl) (show _ = some (.int .i64 (((0) + ka : Nat) : Int) : Value) from rfl) ?_)    -- delta.go:75 t10 := (Op.extract (Operand.tmp 6) 1)
      refine opsF_step rfl (YieldsK.extract (vs := [.int .i64 ((xa : Nat) : Int), .int .i64 (((0) + ka : Nat) : Int), .int .i64 ((0 : Nat) : Int)]) (show _ = (.tuple #[.int .i64 ((xa : Nat) : Int), .int .i64 (((0) + ka : Nat) : Int), .int .i64 ((0 : Nat) : Int)] : Value) from rfl) (show _ = some (.int .i64 ((0 : Nat) : Int) : Value) from rfl) ?_)    -- delta.go:75 t11 := (Op.extract (Operand.tmp 6) 2)
      refine opsF_step rfl (YieldsK.assign (show _ = (.int .i64 ((xa : Nat) : Int) : Value) from rfl) ?_)    -- delta.go:75 t2 := (Op.assign (Operand.tmp 9))
      refine opsF_step rfl (YieldsK.assign (show _ = (.int .i64 (((0) + ka : Nat) : Int) : Value) from rfl) ?_)    -- delta.go:75 t4 := (Op.assign (Operand.tmp 10))
      refine opsF_step rfl (YieldsK.assign (show _ = (.int .i64 ((0 : Nat) : Int) : Value) from rfl) ?_)    -- delta.go:75 t5 := (Op.assign (Operand.tmp 11))
      refine opsF_end (fun ρ => ρ 0 = (v : Value) ∧ ρ 2 = (.int .i64 ((xa : Nat) : Int) : Value) ∧ ρ 3 = (.int .i64 ((0 : Nat) : Int) : Value) ∧ ρ 4 = (.int .i64 (((0) + ka : Nat) : Int) : Value) ∧ ρ 5 = (.int .i64 ((0 : Nat) : Int) : Value) ∧ True) ⟨T0, rfl, T3, rfl, rfl, trivial⟩ fun ρ31 ⟨T0, T2, T3, T4, T5, _⟩ => ?_
      refine thenF_normal (hK28 _ _ ?_)
      refine wpF_seq_k fun K32 hK32 => ?_
      refine wpF_seq_k fun K33 hK33 => ?_
      refine wpF_text ?_
      refine opsF_step rfl (YieldsK.move (show _ = (.int .i64 ((0 : Nat) : Int) : Value) from T5) ?_)    -- delta.go:76 t12 := (Op.move (Operand.tmp 5))
      refine opsF_step rfl (YieldsK.eqI (a := ((0 : Nat) : Int)) (b := ((0 : Nat) : Int)) (show _ = (.int .i64 ((0 : Nat) : Int) : Value) from rfl) (show _ = (.int .i64 ((0 : Nat) : Int) : Value) from rfl) (k_neq _ .i64 (0) (0)) ?_)    -- delta.go:76 t13 := (Op.binOp BinOp.neq 28 (Operand.tmp 12) (Operand.const (Value.int IntKind.i64 0)) 28)
      refine opsF_end (fun ρ => ρ 0 = (v : Value) ∧ ρ 2 = (.int .i64 ((xa : Nat) : Int) : Value) ∧ ρ 3 = (.int .i64 ((0 : Nat) : Int) : Value) ∧ ρ 4 = (.int .i64 (((0) + ka : Nat) : Int) : Value) ∧ ρ 5 = (.int .i64 ((0 : Nat) : Int) : Value) ∧ ρ 13 = (.bool (false) : Value) ∧ True) ⟨T0, T2, T3, T4, T5, (congrArg Value.bool (decide_eq_false (by decide))), trivial⟩ fun ρ34 ⟨T0, T2, T3, T4, T5, T13, _⟩ => ?_
      refine thenF_normal (hK33 _ _ ?_)
      refine wpF_false (show _ = (.bool (false) : Value) from T13) ?_
      refine wpF_skip ?_
      refine thenF_normal (hK32 _ _ ?_)
      refine wpF_seq_k fun K35 hK35 => ?_
      refine wpF_text ?_
      refine opsF_step rfl (YieldsK.move (show _ = (v : Value) from T0) ?_)    -- delta.go:79 t15 := (Op.move (Operand.tmp 0))
      refine opsF_step rfl (YieldsK.move (show _ = (.int .i64 (((0) + ka : Nat) : Int) : Value) from T4) ?_)    -- delta.go:79 t16 := (Op.move (Operand.tmp 4))
      refine opsF_step rfl (YieldsK.callA2 del10_pl27 (show _ = (v : Value) from rfl) (show _ = (.int .i64 (((0) + ka : Nat) : Int) : Value) from rfl) ?_)    -- delta.go:79 t17 := (Op.call { callee := (Callee.value (Operand.func 27)), args := #[(Operand.tmp 15), (Operand.tmp 16)], argTypes
      refine (getYes _ v D (hr.keep hE) ((0) + ka) (by omega) xb kb hgxb).mono ?_
      rintro e w37 ⟨rfl, hx36⟩
      refine ⟨_, rfl, ?_⟩
      have hE : Ext w w37 := (hE.trans hx36)
      refine opsF_step rfl (YieldsK.move (show _ = (.tuple #[.int .i64 ((xb : Nat) : Int), .int .i64 ((((0) + ka) + kb : Nat) : Int), .int .i64 ((0 : Nat) : Int)] : Value) from rfl) ?_)    -- delta.go:79 t14 := (Op.move (Operand.tmp 17))
      refine opsF_step rfl (YieldsK.extract (vs := [.int .i64 ((xb : Nat) : Int), .int .i64 ((((0) + ka) + kb : Nat) : Int), .int .i64 ((0 : Nat) : Int)]) (show _ = (.tuple #[.int .i64 ((xb : Nat) : Int), .int .i64 ((((0) + ka) + kb : Nat) : Int), .int .i64 ((0 : Nat) : Int)] : Value) from rfl) (show _ = some (.int .i64 ((xb : Nat) : Int) : Value) from rfl) ?_)    -- delta.go:79 t18 := (Op.extract (Operand.tmp 14) 0)
      refine opsF_step rfl (YieldsK.extract (vs := [.int .i64 ((xb : Nat) : Int), .int .i64 ((((0) + ka) + kb : Nat) : Int), .int .i64 ((0 : Nat) : Int)]) (show _ = (.tuple #[.int .i64 ((xb : Nat) : Int), .int .i64 ((((0) + ka) + kb : Nat) : Int), .int .i64 ((0 : Nat) : Int)] : Value) from rfl) (show _ = some (.int .i64 ((((0) + ka) + kb : Nat) : Int) : Value) from rfl) ?_)    -- delta.go:79 t19 := (Op.extract (Operand.tmp 14) 1)
      refine opsF_step rfl (YieldsK.extract (vs := [.int .i64 ((xb : Nat) : Int), .int .i64 ((((0) + ka) + kb : Nat) : Int), .int .i64 ((0 : Nat) : Int)]) (show _ = (.tuple #[.int .i64 ((xb : Nat) : Int), .int .i64 ((((0) + ka) + kb : Nat) : Int), .int .i64 ((0 : Nat) : Int)] : Value) from rfl) (show _ = some (.int .i64 ((0 : Nat) : Int) : Value) from rfl) ?_)    -- delta.go:79 t20 := (Op.extract (Operand.tmp 14) 2)
      refine opsF_step rfl (YieldsK.assign (show _ = (.int .i64 ((xb : Nat) : Int) : Value) from rfl) ?_)    -- delta.go:79 t3 := (Op.assign (Operand.tmp 18))
      refine opsF_step rfl (YieldsK.assign (show _ = (.int .i64 ((((0) + ka) + kb : Nat) : Int) : Value) from rfl) ?_)    -- delta.go:79 t4 := (Op.assign (Operand.tmp 19))
      refine opsF_step rfl (YieldsK.assign (show _ = (.int .i64 ((0 : Nat) : Int) : Value) from rfl) ?_)    -- delta.go:79 t5 := (Op.assign (Operand.tmp 20))
      refine opsF_end (fun ρ => ρ 0 = (v : Value) ∧ ρ 2 = (.int .i64 ((xa : Nat) : Int) : Value) ∧ ρ 3 = (.int .i64 ((xb : Nat) : Int) : Value) ∧ ρ 4 = (.int .i64 ((((0) + ka) + kb : Nat) : Int) : Value) ∧ ρ 5 = (.int .i64 ((0 : Nat) : Int) : Value) ∧ ρ 13 = (.bool (false) : Value) ∧ True) ⟨T0, T2, rfl, rfl, rfl, T13, trivial⟩ fun ρ38 ⟨T0, T2, T3, T4, T5, T13, _⟩ => ?_
      refine thenF_normal (hK35 _ _ ?_)
      refine wpF_seq_k fun K39 hK39 => ?_
      refine wpF_seq_k fun K40 hK40 => ?_
      refine wpF_text ?_
      refine opsF_step rfl (YieldsK.move (show _ = (.int .i64 ((0 : Nat) : Int) : Value) from T5) ?_)    -- delta.go:80 t21 := (Op.move (Operand.tmp 5))
      refine opsF_step rfl (YieldsK.eqI (a := ((0 : Nat) : Int)) (b := ((0 : Nat) : Int)) (show _ = (.int .i64 ((0 : Nat) : Int) : Value) from rfl) (show _ = (.int .i64 ((0 : Nat) : Int) : Value) from rfl) (k_neq _ .i64 (0) (0)) ?_)    -- delta.go:80 t22 := (Op.binOp BinOp.neq 28 (Operand.tmp 21) (Operand.const (Value.int IntKind.i64 0)) 28)
      refine opsF_end (fun ρ => ρ 0 = (v : Value) ∧ ρ 2 = (.int .i64 ((xa : Nat) : Int) : Value) ∧ ρ 3 = (.int .i64 ((xb : Nat) : Int) : Value) ∧ ρ 4 = (.int .i64 ((((0) + ka) + kb : Nat) : Int) : Value) ∧ ρ 5 = (.int .i64 ((0 : Nat) : Int) : Value) ∧ ρ 13 = (.bool (false) : Value) ∧ ρ 22 = (.bool (false) : Value) ∧ True) ⟨T0, T2, T3, T4, T5, T13, (congrArg Value.bool (decide_eq_false (by decide))), trivial⟩ fun ρ41 ⟨T0, T2, T3, T4, T5, T13, T22, _⟩ => ?_
      refine thenF_normal (hK40 _ _ ?_)
      refine wpF_false (show _ = (.bool (false) : Value) from T22) ?_
      refine wpF_skip ?_
      refine thenF_normal (hK39 _ _ ?_)
      refine wpF_seq_k fun K42 hK42 => ?_
      refine wpF_text ?_
      refine opsF_step rfl (YieldsK.move (show _ = (.int .i64 ((xa : Nat) : Int) : Value) from T2) ?_)    -- delta.go:83 t23 := (Op.move (Operand.tmp 2))
      refine opsF_step rfl (YieldsK.move (show _ = (.int .i64 ((xb : Nat) : Int) : Value) from T3) ?_)    -- delta.go:83 t24 := (Op.move (Operand.tmp 3))
      refine opsF_step rfl (YieldsK.move (show _ = (.int .i64 ((((0) + ka) + kb : Nat) : Int) : Value) from T4) ?_)    -- delta.go:83 t25 := (Op.move (Operand.tmp 4))
      refine opsF_step rfl (YieldsK.assign (show _ = (.int .i64 ((xa : Nat) : Int) : Value) from rfl) ?_)    -- delta.go:83 t2 := (Op.assign (Operand.tmp 23))
      refine opsF_step rfl (YieldsK.assign (show _ = (.int .i64 ((xb : Nat) : Int) : Value) from rfl) ?_)    -- delta.go:83 t3 := (Op.assign (Operand.tmp 24))
      refine opsF_step rfl (YieldsK.assign (show _ = (.int .i64 ((((0) + ka) + kb : Nat) : Int) : Value) from rfl) ?_)    -- delta.go:83 t4 := (Op.assign (Operand.tmp 25))
      refine opsF_step rfl (YieldsK.assign (show _ = (.int .i64 ((0 : Nat) : Int) : Value) from rfl) ?_)    -- delta.go:83 t5 := (Op.assign (Operand.const (Value.int IntKind.i64 0)))
      refine opsF_end (fun ρ => ρ 0 = (v : Value) ∧ ρ 2 = (.int .i64 ((xa : Nat) : Int) : Value) ∧ ρ 3 = (.int .i64 ((xb : Nat) : Int) : Value) ∧ ρ 4 = (.int .i64 ((((0) + ka) + kb : Nat) : Int) : Value) ∧ ρ 5 = (.int .i64 ((0 : Nat) : Int) : Value) ∧ ρ 13 = (.bool (false) : Value) ∧ ρ 22 = (.bool (false) : Value) ∧ True) ⟨T0, rfl, rfl, rfl, rfl, T13, T22, trivial⟩ fun ρ43 ⟨T0, T2, T3, T4, T5, T13, T22, _⟩ => ?_
      refine thenF_normal (hK42 _ _ ?_)
      refine wpF_ret ?_
      refine postF_ret (fn := Try.f23) _ rfl [.int .i64 ((xa : Nat) : Int), .int .i64 ((xb : Nat) : Int), .int .i64 ((((0) + ka) + kb : Nat) : Int), .int .i64 ((0 : Nat) : Int)] (.tuple #[.int .i64 ((xa : Nat) : Int), .int .i64 ((xb : Nat) : Int), .int .i64 ((((0) + ka) + kb : Nat) : Int), .int .i64 ((0 : Nat) : Int)]) rfl ⟨T2, T3, T4, T5, trivial⟩ ?_
      refine ⟨?_, hE⟩
      rw [sizesP, hgxa]; simp only; rw [hgxb]
      rfl

theorem sizes_no (w : World) (v : Value) (D : List UInt8) (hr : RB w v D) (h : sizesP D = none) :
    Calls Try.prog 23 #[v] w fun e w' => e = .returned (.tuple #[NI 0, NI 0, NI 0, NI 6]) ∧ Ext w w' := by
  have := sizes_any w v D hr
  rw [h] at this
  exact this
theorem sizes_yes (w : World) (v : Value) (D : List UInt8) (hr : RB w v D) (a b n : Nat) (h : sizesP D = some (a, b, n)) :
    Calls Try.prog 23 #[v] w fun e w' => e = .returned (.tuple #[NI a, NI b, NI n, NI 0]) ∧ Ext w w' := by
  have := sizes_any w v D hr
  rw [h] at this
  exact this

theorem Sizes_any (w : World) (v : Value) (D : List UInt8) (hr : RB w v D) :
    Calls Try.prog 14 #[v] w fun e w' => e = .returned (match sizesP D with | none => .tuple #[NI 0, NI 0, NI 6] | some (a, b, _) => .tuple #[NI a, NI b, NI 0]) ∧ Ext w w' := by
  refine calls_of_wpF (args := [v]) Try.func14 rfl 15 rfl (Nat.le_of_ble_eq_true rfl) ?_
  intro ρ0 hb
  have T0 : ρ0 0 = (v : Value) := hb.get 0
  clear hb
  have hE := Ext.refl w
  refine wpF_seq_k fun K1 hK1 => ?_
  refine wpF_text ?_
  refine opsF_step rfl (YieldsK.assign (show _ = (.int .i64 ((0 : Nat) : Int) : Value) from rfl) ?_)    -- delta.go:87 t2 := (Op.assign (Operand.const (Value.int IntKind.i64 0)))
  refine opsF_step rfl (YieldsK.assign (show _ = (.int .i64 ((0 : Nat) : Int) : Value) from rfl) ?_)    -- delta.go:87 t3 := (Op.assign (Operand.const (Value.int IntKind.i64 0)))
  refine opsF_step rfl (YieldsK.assign (show _ = (.int .i64 ((0 : Nat) : Int) : Value) from rfl) ?_)    -- delta.go:87 t4 := (Op.assign (Operand.const (Value.int IntKind.i64 0)))
  refine opsF_end (fun ρ => ρ 0 = (v : Value) ∧ ρ 2 = (.int .i64 ((0 : Nat) : Int) : Value) ∧ ρ 3 = (.int .i64 ((0 : Nat) : Int) : Value) ∧ ρ 4 = (.int .i64 ((0 : Nat) : Int) : Value) ∧ True) ⟨T0, rfl, rfl, rfl, trivial⟩ fun ρ2 ⟨T0, T2, T3, T4, _⟩ => ?_
  rcases hsz : sizesP D with _ | ⟨sa, sb, sn⟩
  · refine thenF_normal (hK1 _ _ ?_)
    refine wpF_seq_k fun K3 hK3 => ?_
    refine wpF_text ?_
    refine opsF_step rfl (YieldsK.move (show _ = (v : Value) from T0) ?_)    -- delta.go:88 t6 := (Op.move (Operand.tmp 0))
    refine opsF_step rfl (YieldsK.callA1 del10_pl23 (show _ = (v : Value) from rfl) ?_)    -- delta.go:88 t7 := (Op.call { callee := (Callee.value (Operand.func 23)), args := #[(Operand.tmp 6)], argTypes := #[22] })
    refine (sizes_no _ v D (hr.keep hE) hsz).mono ?_
    rintro e w5 ⟨rfl, hx4⟩
    refine ⟨_, rfl, ?_⟩
    have hE : Ext w w5 := (hE.trans hx4)
    refine opsF_step rfl (YieldsK.move (show _ = (.tuple #[.int .i64 ((0 : Nat) : Int), .int .i64 ((0 : Nat) : Int), .int .i64 ((0 : Nat) : Int), .int .i64 ((6 : Nat) : Int)] : Value) from rfl) ?_)    -- delta.go:88 t5 := (Op.move (Operand.tmp 7))
    refine opsF_step rfl (YieldsK.extract (vs := [.int .i64 ((0 : Nat) : Int), .int .i64 ((0 : Nat) : Int), .int .i64 ((0 : Nat) : Int), .int .i64 ((6 : Nat) : Int)]) (show _ = (.tuple #[.int .i64 ((0 : Nat) : Int), .int .i64 ((0 : Nat) : Int), .int .i64 ((0 : Nat) : Int), .int .i64 ((6 : Nat) : Int)] : Value) from rfl) (show _ = some (.int .i64 ((0 : Nat) : Int) : Value) from rfl) ?_)    -- delta.go:88 t8 := (Op.extract (Operand.tmp 5) 0)
    refine opsF_step rfl (YieldsK.extract (vs := [.int .i64 ((0 : Nat) : Int), .int .i64 ((0 : Nat) : Int), .int .i64 ((0 : Nat) : Int), .int .i64 ((6 : Nat) : Int)]) (show _ = (.tuple #[.int .i64 ((0 : Nat) : Int), .int .i64 ((0 : Nat) : Int), .int .i64 ((0 : Nat) : Int), .int .i64 ((6 : Nat) : Int)] : Value) from rfl) (show _ = some (.int .i64 ((0 : Nat) : Int) : Value) from rfl) ?_)    -- delta.go:88 t9 := (Op.extract (Operand.tmp 5) 1)
    refine opsF_step rfl (YieldsK.extract (vs := [.int .i64 ((0 : Nat) : Int), .int .i64 ((0 : Nat) : Int), .int .i64 ((0 : Nat) : Int), .int .i64 ((6 : Nat) : Int)]) (show _ = (.tuple #[.int .i64 ((0 : Nat) : Int), .int .i64 ((0 : Nat) : Int), .int .i64 ((0 : Nat) : Int), .int .i64 ((6 : Nat) : Int)] : Value) from rfl) (show _ = some (.int .i64 ((0 : Nat) : Int) : Value) from rfl) ?_)    -- delta.go:88 t10 := (Op.extract (Operand.tmp 5) 2)
    refine opsF_step rfl (YieldsK.extract (vs := [.int .i64 ((0 : Nat) : Int), .int .i64 ((0 : Nat) : Int), .int .i64 ((0 : Nat) : Int), .int .i64 ((6 : Nat) : Int)]) (show _ = (.tuple #[.int .i64 ((0 : Nat) : Int), .int .i64 ((0 : Nat) : Int), .int .i64 ((0 : Nat) : Int), .int .i64 ((6 : Nat) : Int)] : Value) from rfl) (show _ = some (.int .i64 ((6 : Nat) : Int) : Value) from rfl) ?_)    -- delta.go:88 t11 := (Op.extract (Operand.tmp 5) 3)
    refine opsF_step rfl (YieldsK.assign (show _ = (.int .i64 ((0 : Nat) : Int) : Value) from rfl) ?_)    -- delta.go:88 t2 := (Op.assign (Operand.tmp 8))
    refine opsF_step rfl (YieldsK.assign (show _ = (.int .i64 ((0 : Nat) : Int) : Value) from rfl) ?_)    -- delta.go:88 t3 := (Op.assign (Operand.tmp 9))
    refine opsF_step rfl (YieldsK.assign (show _ = (.int .i64 ((6 : Nat) : Int) : Value) from rfl) ?_)    -- delta.go:88 t4 := (Op.assign (Operand.tmp 11))
    refine opsF_end (fun ρ => ρ 0 = (v : Value) ∧ ρ 2 = (.int .i64 ((0 : Nat) : Int) : Value) ∧ ρ 3 = (.int .i64 ((0 : Nat) : Int) : Value) ∧ ρ 4 = (.int .i64 ((6 : Nat) : Int) : Value) ∧ True) ⟨T0, rfl, rfl, rfl, trivial⟩ fun ρ6 ⟨T0, T2, T3, T4, _⟩ => ?_
    refine thenF_normal (hK3 _ _ ?_)
    refine wpF_seq_k fun K7 hK7 => ?_
    refine wpF_text ?_
    refine opsF_step rfl (YieldsK.move (show _ = (.int .i64 ((0 : Nat) : Int) : Value) from T2) ?_)    -- delta.go:89 t12 := (Op.move (Operand.tmp 2))
    refine opsF_step rfl (YieldsK.move (show _ = (.int .i64 ((0 : Nat) : Int) : Value) from T3) ?_)    -- delta.go:89 t13 := (Op.move (Operand.tmp 3))
    refine opsF_step rfl (YieldsK.move (show _ = (.int .i64 ((6 : Nat) : Int) : Value) from T4) ?_)    -- delta.go:89 t14 := (Op.move (Operand.tmp 4))
    refine opsF_step rfl (YieldsK.assign (show _ = (.int .i64 ((0 : Nat) : Int) : Value) from rfl) ?_)    -- delta.go:89 t2 := (Op.assign (Operand.tmp 12))
    refine opsF_step rfl (YieldsK.assign (show _ = (.int .i64 ((0 : Nat) : Int) : Value) from rfl) ?_)    -- delta.go:89 t3 := (Op.assign (Operand.tmp 13))
    refine opsF_step rfl (YieldsK.assign (show _ = (.int .i64 ((6 : Nat) : Int) : Value) from rfl) ?_)    -- delta.go:89 t4 := (Op.assign (Operand.tmp 14))
    refine opsF_end (fun ρ => ρ 0 = (v : Value) ∧ ρ 2 = (.int .i64 ((0 : Nat) : Int) : Value) ∧ ρ 3 = (.int .i64 ((0 : Nat) : Int) : Value) ∧ ρ 4 = (.int .i64 ((6 : Nat) : Int) : Value) ∧ True) ⟨T0, rfl, rfl, rfl, trivial⟩ fun ρ8 ⟨T0, T2, T3, T4, _⟩ => ?_
    refine thenF_normal (hK7 _ _ ?_)
    refine wpF_ret ?_
    refine postF_ret (fn := Try.f14) _ rfl [.int .i64 ((0 : Nat) : Int), .int .i64 ((0 : Nat) : Int), .int .i64 ((6 : Nat) : Int)] (.tuple #[.int .i64 ((0 : Nat) : Int), .int .i64 ((0 : Nat) : Int), .int .i64 ((6 : Nat) : Int)]) rfl ⟨T2, T3, T4, trivial⟩ ?_
    refine ⟨?_, hE⟩
    rw [hsz]
  · have hsb := sizesP_bound hsz
    refine thenF_normal (hK1 _ _ ?_)
    refine wpF_seq_k fun K9 hK9 => ?_
    refine wpF_text ?_
    refine opsF_step rfl (YieldsK.move (show _ = (v : Value) from T0) ?_)    -- delta.go:88 t6 := (Op.move (Operand.tmp 0))
    refine opsF_step rfl (YieldsK.callA1 del10_pl23 (show _ = (v : Value) from rfl) ?_)    -- delta.go:88 t7 := (Op.call { callee := (Callee.value (Operand.func 23)), args := #[(Operand.tmp 6)], argTypes := #[22] })
    refine (sizes_yes _ v D (hr.keep hE) sa sb sn hsz).mono ?_
    rintro e w11 ⟨rfl, hx10⟩
    refine ⟨_, rfl, ?_⟩
    have hE : Ext w w11 := (hE.trans hx10)
    refine opsF_step rfl (YieldsK.move (show _ = (.tuple #[.int .i64 ((sa : Nat) : Int), .int .i64 ((sb : Nat) : Int), .int .i64 ((sn : Nat) : Int), .int .i64 ((0 : Nat) : Int)] : Value) from rfl) ?_)    -- delta.go:88 t5 := (Op.move (Operand.tmp 7))
    refine opsF_step rfl (YieldsK.extract (vs := [.int .i64 ((sa : Nat) : Int), .int .i64 ((sb : Nat) : Int), .int .i64 ((sn : Nat) : Int), .int .i64 ((0 : Nat) : Int)]) (show _ = (.tuple #[.int .i64 ((sa : Nat) : Int), .int .i64 ((sb : Nat) : Int), .int .i64 ((sn : Nat) : Int), .int .i64 ((0 : Nat) : Int)] : Value) from rfl) (show _ = some (.int .i64 ((sa : Nat) : Int) : Value) from rfl) ?_)    -- delta.go:88 t8 := (Op.extract (Operand.tmp 5) 0)
    refine opsF_step rfl (YieldsK.extract (vs := [.int .i64 ((sa : Nat) : Int), .int .i64 ((sb : Nat) : Int), .int .i64 ((sn : Nat) : Int), .int .i64 ((0 : Nat) : Int)]) (show _ = (.tuple #[.int .i64 ((sa : Nat) : Int), .int .i64 ((sb : Nat) : Int), .int .i64 ((sn : Nat) : Int), .int .i64 ((0 : Nat) : Int)] : Value) from rfl) (show _ = some (.int .i64 ((sb : Nat) : Int) : Value) from rfl) ?_)    -- delta.go:88 t9 := (Op.extract (Operand.tmp 5) 1)
    refine opsF_step rfl (YieldsK.extract (vs := [.int .i64 ((sa : Nat) : Int), .int .i64 ((sb : Nat) : Int), .int .i64 ((sn : Nat) : Int), .int .i64 ((0 : Nat) : Int)]) (show _ = (.tuple #[.int .i64 ((sa : Nat) : Int), .int .i64 ((sb : Nat) : Int), .int .i64 ((sn : Nat) : Int), .int .i64 ((0 : Nat) : Int)] : Value) from rfl) (show _ = some (.int .i64 ((sn : Nat) : Int) : Value) from rfl) ?_)    -- delta.go:88 t10 := (Op.extract (Operand.tmp 5) 2)
    refine opsF_step rfl (YieldsK.extract (vs := [.int .i64 ((sa : Nat) : Int), .int .i64 ((sb : Nat) : Int), .int .i64 ((sn : Nat) : Int), .int .i64 ((0 : Nat) : Int)]) (show _ = (.tuple #[.int .i64 ((sa : Nat) : Int), .int .i64 ((sb : Nat) : Int), .int .i64 ((sn : Nat) : Int), .int .i64 ((0 : Nat) : Int)] : Value) from rfl) (show _ = some (.int .i64 ((0 : Nat) : Int) : Value) from rfl) ?_)    -- delta.go:88 t11 := (Op.extract (Operand.tmp 5) 3)
    refine opsF_step rfl (YieldsK.assign (show _ = (.int .i64 ((sa : Nat) : Int) : Value) from rfl) ?_)    -- delta.go:88 t2 := (Op.assign (Operand.tmp 8))
    refine opsF_step rfl (YieldsK.assign (show _ = (.int .i64 ((sb : Nat) : Int) : Value) from rfl) ?_)    -- delta.go:88 t3 := (Op.assign (Operand.tmp 9))
    refine opsF_step rfl (YieldsK.assign (show _ = (.int .i64 ((0 : Nat) : Int) : Value) from rfl) ?_)    -- delta.go:88 t4 := (Op.assign (Operand.tmp 11))
    refine opsF_end (fun ρ => ρ 0 = (v : Value) ∧ ρ 2 = (.int .i64 ((sa : Nat) : Int) : Value) ∧ ρ 3 = (.int .i64 ((sb : Nat) : Int) : Value) ∧ ρ 4 = (.int .i64 ((0 : Nat) : Int) : Value) ∧ True) ⟨T0, rfl, rfl, rfl, trivial⟩ fun ρ12 ⟨T0, T2, T3, T4, _⟩ => ?_
    refine thenF_normal (hK9 _ _ ?_)
    refine wpF_seq_k fun K13 hK13 => ?_
    refine wpF_text ?_
    refine opsF_step rfl (YieldsK.move (show _ = (.int .i64 ((sa : Nat) : Int) : Value) from T2) ?_)    -- delta.go:89 t12 := (Op.move (Operand.tmp 2))
    refine opsF_step rfl (YieldsK.move (show _ = (.int .i64 ((sb : Nat) : Int) : Value) from T3) ?_)    -- delta.go:89 t13 := (Op.move (Operand.tmp 3))
    refine opsF_step rfl (YieldsK.move (show _ = (.int .i64 ((0 : Nat) : Int) : Value) from T4) ?_)    -- delta.go:89 t14 := (Op.move (Operand.tmp 4))
    refine opsF_step rfl (YieldsK.assign (show _ = (.int .i64 ((sa : Nat) : Int) : Value) from rfl) ?_)    -- delta.go:89 t2 := (Op.assign (Operand.tmp 12))
    refine opsF_step rfl (YieldsK.assign (show _ = (.int .i64 ((sb : Nat) : Int) : Value) from rfl) ?_)    -- delta.go:89 t3 := (Op.assign (Operand.tmp 13))
    refine opsF_step rfl (YieldsK.assign (show _ = (.int .i64 ((0 : Nat) : Int) : Value) from rfl) ?_)    -- delta.go:89 t4 := (Op.assign (Operand.tmp 14))
    refine opsF_end (fun ρ => ρ 0 = (v : Value) ∧ ρ 2 = (.int .i64 ((sa : Nat) : Int) : Value) ∧ ρ 3 = (.int .i64 ((sb : Nat) : Int) : Value) ∧ ρ 4 = (.int .i64 ((0 : Nat) : Int) : Value) ∧ True) ⟨T0, rfl, rfl, rfl, trivial⟩ fun ρ14 ⟨T0, T2, T3, T4, _⟩ => ?_
    refine thenF_normal (hK13 _ _ ?_)
    refine wpF_ret ?_
    refine postF_ret (fn := Try.f14) _ rfl [.int .i64 ((sa : Nat) : Int), .int .i64 ((sb : Nat) : Int), .int .i64 ((0 : Nat) : Int)] (.tuple #[.int .i64 ((sa : Nat) : Int), .int .i64 ((sb : Nat) : Int), .int .i64 ((0 : Nat) : Int)]) rfl ⟨T2, T3, T4, trivial⟩ ?_
    refine ⟨?_, hE⟩
    rw [hsz]

theorem piece_any (w : World) (vb v : Value) (B D : List UInt8) (hrb : RB w vb B) (hr : RB w v D) (i : Nat) (hi : i ≤ D.length) (hB : B.length ≤ 1048576) (hD : D.length ≤ 4611686018427387904) :
    Calls Try.prog 24 #[vb, v, NI i] w fun e w' => (match pieceP B D i with | none => e = .returned (.tuple #[.slice none 0 0, NI 0, .bool false]) | some (b, nx) => ∃ v', e = .returned (.tuple #[v', NI nx, .bool true]) ∧ RB w' v' b) ∧ Ext w w' := by
  refine calls_of_wpF (args := [vb, v, .int .i64 ((i : Nat) : Int)]) Try.func24 rfl 70 rfl (Nat.le_of_ble_eq_true rfl) ?_
  intro ρ0 hb
  have T0 : ρ0 0 = (vb : Value) := hb.get 0
  have T1 : ρ0 1 = (v : Value) := hb.get 1
  have T2 : ρ0 2 = (.int .i64 ((i : Nat) : Int) : Value) := hb.get 2
  clear hb
  have hE := Ext.refl w
  refine wpF_seq_k fun K1 hK1 => ?_
  refine wpF_text ?_
  refine opsF_step rfl (YieldsK.assign (show _ = ((Value.slice none 0 0) : Value) from rfl) ?_)    -- delta.go:93 t6 := (Op.assign (Operand.const (Value.slice none 0 0)))
  refine opsF_step rfl (YieldsK.assign (show _ = (.int .i64 ((0 : Nat) : Int) : Value) from rfl) ?_)    -- delta.go:93 t7 := (Op.assign (Operand.const (Value.int IntKind.i64 0)))
  refine opsF_step rfl (YieldsK.assign (show _ = (.bool (false) : Value) from rfl) ?_)    -- delta.go:93 t8 := (Op.assign (Operand.const (Value.bool false)))
  refine opsF_end (fun ρ => ρ 0 = (vb : Value) ∧ ρ 1 = (v : Value) ∧ ρ 2 = (.int .i64 ((i : Nat) : Int) : Value) ∧ ρ 6 = ((Value.slice none 0 0) : Value) ∧ ρ 7 = (.int .i64 ((0 : Nat) : Int) : Value) ∧ ρ 8 = (.bool (false) : Value) ∧ True) ⟨T0, T1, T2, rfl, rfl, rfl, trivial⟩ fun ρ2 ⟨T0, T1, T2, T6, T7, T8, _⟩ => ?_
  rcases hgx : lebDec 0 (D.drop (i)) with _ | ⟨x, k⟩
  · refine thenF_normal (hK1 _ _ ?_)
    refine wpF_seq_k fun K3 hK3 => ?_
    refine wpF_text ?_
    refine opsF_step rfl (YieldsK.move (show _ = (v : Value) from T1) ?_)    -- delta.go:94 t16 := (Op.move (Operand.tmp 1))
    refine opsF_step rfl (YieldsK.move (show _ = (.int .i64 ((i : Nat) : Int) : Value) from T2) ?_)    -- delta.go:94 t17 := (Op.move (Operand.tmp 2))
    refine opsF_step rfl (YieldsK.callA2 del10_pl27 (show _ = (v : Value) from rfl) (show _ = (.int .i64 ((i : Nat) : Int) : Value) from rfl) ?_)    -- delta.go:94 t18 := (Op.call { callee := (Callee.value (Operand.func 27)), args := #[(Operand.tmp 16), (Operand.tmp 17)], argTypes
    refine (getNo _ v D (hr.keep hE) (i) (by omega) hgx).mono ?_
    rintro e w5 ⟨rfl, hx4⟩
    refine ⟨_, rfl, ?_⟩
    have hE : Ext w w5 := (hE.trans hx4)
    refine opsF_step rfl (YieldsK.move (show _ = (.tuple #[.int .i64 ((0 : Nat) : Int), .int .i64 ((0 : Nat) : Int), .int .i64 ((6 : Nat) : Int)] : Value) from rfl) ?_)    -- delta.go:94 t15 := (Op.move (Operand.tmp 18))
    refine opsF_step rfl (YieldsK.extract (vs := [.int .i64 ((0 : Nat) : Int), .int .i64 ((0 : Nat) : Int), .int .i64 ((6 : Nat) : Int)]) (show _ = (.tuple #[.int .i64 ((0 : Nat) : Int), .int .i64 ((0 : Nat) : Int), .int .i64 ((6 : Nat) : Int)] : Value) from rfl) (show _ = some (.int .i64 ((0 : Nat) : Int) : Value) from rfl) ?_)    -- delta.go:94 t19 := (Op.extract (Operand.tmp 15) 0)
    refine opsF_step rfl (YieldsK.extract (vs := [.int .i64 ((0 : Nat) : Int), .int .i64 ((0 : Nat) : Int), .int .i64 ((6 : Nat) : Int)]) (show _ = (.tuple #[.int .i64 ((0 : Nat) : Int), .int .i64 ((0 : Nat) : Int), .int .i64 ((6 : Nat) : Int)] : Value) from rfl) (show _ = some (.int .i64 ((0 : Nat) : Int) : Value) from rfl) ?_)    -- delta.go:94 t20 := (Op.extract (Operand.tmp 15) 1)
    refine opsF_step rfl (YieldsK.extract (vs := [.int .i64 ((0 : Nat) : Int), .int .i64 ((0 : Nat) : Int), .int .i64 ((6 : Nat) : Int)]) (show _ = (.tuple #[.int .i64 ((0 : Nat) : Int), .int .i64 ((0 : Nat) : Int), .int .i64 ((6 : Nat) : Int)] : Value) from rfl) (show _ = some (.int .i64 ((6 : Nat) : Int) : Value) from rfl) ?_)    -- delta.go:94 t21 := (Op.extract (Operand.tmp 15) 2)
    refine opsF_step rfl (YieldsK.assign (show _ = (.int .i64 ((0 : Nat) : Int) : Value) from rfl) ?_)    -- delta.go:94 t9 := (Op.assign (Operand.tmp 19))
    refine opsF_step rfl (YieldsK.assign (show _ = (.int .i64 ((0 : Nat) : Int) : Value) from rfl) ?_)    -- delta.go:94 t10 := (Op.assign (Operand.tmp 20))
    refine opsF_step rfl (YieldsK.assign (show _ = (.int .i64 ((6 : Nat) : Int) : Value) from rfl) ?_)    -- delta.go:94 t11 := (Op.assign (Operand.tmp 21))
    refine opsF_end (fun ρ => ρ 0 = (vb : Value) ∧ ρ 1 = (v : Value) ∧ ρ 2 = (.int .i64 ((i : Nat) : Int) : Value) ∧ ρ 6 = ((Value.slice none 0 0) : Value) ∧ ρ 7 = (.int .i64 ((0 : Nat) : Int) : Value) ∧ ρ 8 = (.bool (false) : Value) ∧ ρ 9 = (.int .i64 ((0 : Nat) : Int) : Value) ∧ ρ 10 = (.int .i64 ((0 : Nat) : Int) : Value) ∧ ρ 11 = (.int .i64 ((6 : Nat) : Int) : Value) ∧ True) ⟨T0, T1, T2, T6, T7, T8, rfl, rfl, rfl, trivial⟩ fun ρ6 ⟨T0, T1, T2, T6, T7, T8, T9, T10, T11, _⟩ => ?_
    refine thenF_normal (hK3 _ _ ?_)
    refine wpF_seq_k fun K7 hK7 => ?_
    refine wpF_seq_k fun K8 hK8 => ?_
    refine wpF_text ?_
    refine opsF_step rfl (YieldsK.move (show _ = (.int .i64 ((6 : Nat) : Int) : Value) from T11) ?_)    -- delta.go:95 t22 := (Op.move (Operand.tmp 11))
    refine opsF_step rfl (YieldsK.eqI (a := ((6 : Nat) : Int)) (b := ((0 : Nat) : Int)) (show _ = (.int .i64 ((6 : Nat) : Int) : Value) from rfl) (show _ = (.int .i64 ((0 : Nat) : Int) : Value) from rfl) (k_neq _ .i64 (6) (0)) ?_)    -- delta.go:95 t23 := (Op.binOp BinOp.neq 28 (Operand.tmp 22) (Operand.const (Value.int IntKind.i64 0)) 28)
    refine opsF_end (fun ρ => ρ 0 = (vb : Value) ∧ ρ 1 = (v : Value) ∧ ρ 2 = (.int .i64 ((i : Nat) : Int) : Value) ∧ ρ 6 = ((Value.slice none 0 0) : Value) ∧ ρ 7 = (.int .i64 ((0 : Nat) : Int) : Value) ∧ ρ 8 = (.bool (false) : Value) ∧ ρ 9 = (.int .i64 ((0 : Nat) : Int) : Value) ∧ ρ 10 = (.int .i64 ((0 : Nat) : Int) : Value) ∧ ρ 11 = (.int .i64 ((6 : Nat) : Int) : Value) ∧ ρ 23 = (.bool (true) : Value) ∧ True) ⟨T0, T1, T2, T6, T7, T8, T9, T10, T11, (congrArg Value.bool (decide_eq_true (by decide))), trivial⟩ fun ρ9 ⟨T0, T1, T2, T6, T7, T8, T9, T10, T11, T23, _⟩ => ?_
    refine thenF_normal (hK8 _ _ ?_)
    refine wpF_true (show _ = (.bool (true) : Value) from T23) ?_
    refine wpF_seq_k fun K10 hK10 => ?_
    refine wpF_text ?_
    refine opsF_step rfl (YieldsK.assign (show _ = ((Value.slice none 0 0) : Value) from rfl) ?_)    -- delta.go:96 t6 := (Op.assign (Operand.const (Value.slice none 0 0)))
    refine opsF_step rfl (YieldsK.assign (show _ = (.int .i64 ((0 : Nat) : Int) : Value) from rfl) ?_)    -- delta.go:96 t7 := (Op.assign (Operand.const (Value.int IntKind.i64 0)))
    refine opsF_step rfl (YieldsK.assign (show _ = (.bool (false) : Value) from rfl) ?_)    -- delta.go:96 t8 := (Op.assign (Operand.const (Value.bool false)))
    refine opsF_end (fun ρ => ρ 0 = (vb : Value) ∧ ρ 1 = (v : Value) ∧ ρ 2 = (.int .i64 ((i : Nat) : Int) : Value) ∧ ρ 6 = ((Value.slice none 0 0) : Value) ∧ ρ 7 = (.int .i64 ((0 : Nat) : Int) : Value) ∧ ρ 8 = (.bool (false) : Value) ∧ ρ 9 = (.int .i64 ((0 : Nat) : Int) : Value) ∧ ρ 10 = (.int .i64 ((0 : Nat) : Int) : Value) ∧ ρ 11 = (.int .i64 ((6 : Nat) : Int) : Value) ∧ ρ 23 = (.bool (true) : Value) ∧ True) ⟨T0, T1, T2, rfl, rfl, rfl, T9, T10, T11, T23, trivial⟩ fun ρ11 ⟨T0, T1, T2, T6, T7, T8, T9, T10, T11, T23, _⟩ => ?_
    refine thenF_normal (hK10 _ _ ?_)
    refine wpF_ret (thenF_ret ?_)
    refine postF_ret (fn := Try.f24) _ rfl [(Value.slice none 0 0), .int .i64 ((0 : Nat) : Int), .bool (false)] (.tuple #[(Value.slice none 0 0), .int .i64 ((0 : Nat) : Int), .bool (false)]) rfl ⟨T6, T7, T8, trivial⟩ ?_
    rw [pieceP, hgx]
    exact ⟨rfl, hE⟩
  · have hqx := lebDec_bound (a := i) (by omega) hgx
    refine thenF_normal (hK1 _ _ ?_)
    refine wpF_seq_k fun K12 hK12 => ?_
    refine wpF_text ?_
    refine opsF_step rfl (YieldsK.move (show _ = (v : Value) from T1) ?_)    -- delta.go:94 t16 := (Op.move (Operand.tmp 1))
    refine opsF_step rfl (YieldsK.move (show _ = (.int .i64 ((i : Nat) : Int) : Value) from T2) ?_)    -- delta.go:94 t17 := (Op.move (Operand.tmp 2))
    refine opsF_step rfl (YieldsK.callA2 del10_pl27 (show _ = (v : Value) from rfl) (show _ = (.int .i64 ((i : Nat) : Int) : Value) from rfl) ?_)    -- delta.go:94 t18 := (Op.call { callee := (Callee.value (Operand.func 27)), args := #[(Operand.tmp 16), (Operand.tmp 17)], argTypes
    refine (getYes _ v D (hr.keep hE) (i) (by omega) x k hgx).mono ?_
    rintro e w14 ⟨rfl, hx13⟩
    refine ⟨_, rfl, ?_⟩
    have hE : Ext w w14 := (hE.trans hx13)
    refine opsF_step rfl (YieldsK.move (show _ = (.tuple #[.int .i64 ((x : Nat) : Int), .int .i64 (((i) + k : Nat) : Int), .int .i64 ((0 : Nat) : Int)] : Value) from rfl) ?_)    -- delta.go:94 t15 := (Op.move (Operand.tmp 18))
    refine opsF_step rfl (YieldsK.extract (vs := [.int .i64 ((x : Nat) : Int), .int .i64 (((i) + k : Nat) : Int), .int .i64 ((0 : Nat) : Int)]) (show _ = (.tuple #[.int .i64 ((x : Nat) : Int), .int .i64 (((i) + k : Nat) : Int), .int .i64 ((0 : Nat) : Int)] : Value) from rfl) (show _ = some (.int .i64 ((x : Nat) : Int) : Value) from rfl) ?_)    -- delta.go:94 t19 := (Op.extract (Operand.tmp 15) 0)
    refine opsF_step rfl (YieldsK.extract (vs := [.int .i64 ((x : Nat) : Int), .int .i64 (((i) + k : Nat) : Int), .int .i64 ((0 : Nat) : Int)]) (show _ = (.tuple #[.int .i64 ((x : Nat) : Int), .int .i64 (((i) + k : Nat) : Int), .int .i64 ((0 : Nat) : Int)] : Value) from rfl) (show _ = some (.int .i64 (((i) + k : Nat) : Int) : Value) from rfl) ?_)    -- delta.go:94 t20 := (Op.extract (Operand.tmp 15) 1)
    refine opsF_step rfl (YieldsK.extract (vs := [.int .i64 ((x : Nat) : Int), .int .i64 (((i) + k : Nat) : Int), .int .i64 ((0 : Nat) : Int)]) (show _ = (.tuple #[.int .i64 ((x : Nat) : Int), .int .i64 (((i) + k : Nat) : Int), .int .i64 ((0 : Nat) : Int)] : Value) from rfl) (show _ = some (.int .i64 ((0 : Nat) : Int) : Value) from rfl) ?_)    -- delta.go:94 t21 := (Op.extract (Operand.tmp 15) 2)
    refine opsF_step rfl (YieldsK.assign (show _ = (.int .i64 ((x : Nat) : Int) : Value) from rfl) ?_)    -- delta.go:94 t9 := (Op.assign (Operand.tmp 19))
    refine opsF_step rfl (YieldsK.assign (show _ = (.int .i64 (((i) + k : Nat) : Int) : Value) from rfl) ?_)    -- delta.go:94 t10 := (Op.assign (Operand.tmp 20))
    refine opsF_step rfl (YieldsK.assign (show _ = (.int .i64 ((0 : Nat) : Int) : Value) from rfl) ?_)    -- delta.go:94 t11 := (Op.assign (Operand.tmp 21))
    refine opsF_end (fun ρ => ρ 0 = (vb : Value) ∧ ρ 1 = (v : Value) ∧ ρ 2 = (.int .i64 ((i : Nat) : Int) : Value) ∧ ρ 6 = ((Value.slice none 0 0) : Value) ∧ ρ 7 = (.int .i64 ((0 : Nat) : Int) : Value) ∧ ρ 8 = (.bool (false) : Value) ∧ ρ 9 = (.int .i64 ((x : Nat) : Int) : Value) ∧ ρ 10 = (.int .i64 (((i) + k : Nat) : Int) : Value) ∧ ρ 11 = (.int .i64 ((0 : Nat) : Int) : Value) ∧ True) ⟨T0, T1, T2, T6, T7, T8, rfl, rfl, rfl, trivial⟩ fun ρ15 ⟨T0, T1, T2, T6, T7, T8, T9, T10, T11, _⟩ => ?_
    refine thenF_normal (hK12 _ _ ?_)
    refine wpF_seq_k fun K16 hK16 => ?_
    refine wpF_seq_k fun K17 hK17 => ?_
    refine wpF_text ?_
    refine opsF_step rfl (YieldsK.move (show _ = (.int .i64 ((0 : Nat) : Int) : Value) from T11) ?_)    -- delta.go:95 t22 := (Op.move (Operand.tmp 11))
    refine opsF_step rfl (YieldsK.eqI (a := ((0 : Nat) : Int)) (b := ((0 : Nat) : Int)) (show _ = (.int .i64 ((0 : Nat) : Int) : Value) from rfl) (show _ = (.int .i64 ((0 : Nat) : Int) : Value) from rfl) (k_neq _ .i64 (0) (0)) ?_)    -- delta.go:95 t23 := (Op.binOp BinOp.neq 28 (Operand.tmp 22) (Operand.const (Value.int IntKind.i64 0)) 28)
    refine opsF_end (fun ρ => ρ 0 = (vb : Value) ∧ ρ 1 = (v : Value) ∧ ρ 2 = (.int .i64 ((i : Nat) : Int) : Value) ∧ ρ 6 = ((Value.slice none 0 0) : Value) ∧ ρ 7 = (.int .i64 ((0 : Nat) : Int) : Value) ∧ ρ 8 = (.bool (false) : Value) ∧ ρ 9 = (.int .i64 ((x : Nat) : Int) : Value) ∧ ρ 10 = (.int .i64 (((i) + k : Nat) : Int) : Value) ∧ ρ 11 = (.int .i64 ((0 : Nat) : Int) : Value) ∧ ρ 23 = (.bool (false) : Value) ∧ True) ⟨T0, T1, T2, T6, T7, T8, T9, T10, T11, (congrArg Value.bool (decide_eq_false (by decide))), trivial⟩ fun ρ18 ⟨T0, T1, T2, T6, T7, T8, T9, T10, T11, T23, _⟩ => ?_
    refine thenF_normal (hK17 _ _ ?_)
    refine wpF_false (show _ = (.bool (false) : Value) from T23) ?_
    refine wpF_skip ?_
    refine thenF_normal (hK16 _ _ ?_)
    refine wpF_seq_k fun K19 hK19 => ?_
    refine wpF_text ?_
    refine opsF_step rfl (YieldsK.move (show _ = (.int .i64 ((x : Nat) : Int) : Value) from T9) ?_)    -- delta.go:98 t24 := (Op.move (Operand.tmp 9))
    refine opsF_step rfl (YieldsK.bin (xv := .int .i64 ((x : Nat) : Int)) (yv := .int .i64 ((2 : Nat) : Int)) (show _ = (.int .i64 ((x : Nat) : Int) : Value) from rfl) (show _ = (.int .i64 ((2 : Nat) : Int) : Value) from rfl) rfl (i64_quo _ (x) (2) (by omega) (by omega)) ?_)    -- delta.go:98 t25 := (Op.binOp BinOp.quo 3 (Operand.tmp 24) (Operand.const (Value.int IntKind.i64 2)) 3)
    refine opsF_step rfl (YieldsK.move (show _ = (v : Value) from T1) ?_)    -- delta.go:98 t26 := (Op.move (Operand.tmp 1))
    refine opsF_step rfl (YieldsK.assign (show _ = (.int .i64 (((x) / (2) : Nat) : Int) : Value) from rfl) ?_)    -- delta.go:98 t12 := (Op.assign (Operand.tmp 25))
    refine opsF_step rfl (YieldsK.assign (show _ = (v : Value) from rfl) ?_)    -- delta.go:98 t13 := (Op.assign (Operand.tmp 26))
    refine opsF_end (fun ρ => ρ 0 = (vb : Value) ∧ ρ 1 = (v : Value) ∧ ρ 2 = (.int .i64 ((i : Nat) : Int) : Value) ∧ ρ 6 = ((Value.slice none 0 0) : Value) ∧ ρ 7 = (.int .i64 ((0 : Nat) : Int) : Value) ∧ ρ 8 = (.bool (false) : Value) ∧ ρ 9 = (.int .i64 ((x : Nat) : Int) : Value) ∧ ρ 10 = (.int .i64 (((i) + k : Nat) : Int) : Value) ∧ ρ 11 = (.int .i64 ((0 : Nat) : Int) : Value) ∧ ρ 12 = (.int .i64 (((x) / (2) : Nat) : Int) : Value) ∧ ρ 13 = (v : Value) ∧ ρ 23 = (.bool (false) : Value) ∧ True) ⟨T0, T1, T2, T6, T7, T8, T9, T10, T11, rfl, rfl, T23, trivial⟩ fun ρ20 ⟨T0, T1, T2, T6, T7, T8, T9, T10, T11, T12, T13, T23, _⟩ => ?_
    refine thenF_normal (hK19 _ _ ?_)
    refine wpF_seq_k fun K21 hK21 => ?_
    refine wpF_text ?_
    refine opsF_step rfl (YieldsK.move (show _ = (.int .i64 (((i) + k : Nat) : Int) : Value) from T10) ?_)    -- delta.go:99 t27 := (Op.move (Operand.tmp 10))
    refine opsF_step rfl (YieldsK.assign (show _ = (.int .i64 (((i) + k : Nat) : Int) : Value) from rfl) ?_)    -- delta.go:99 t14 := (Op.assign (Operand.tmp 27))
    refine opsF_end (fun ρ => ρ 0 = (vb : Value) ∧ ρ 1 = (v : Value) ∧ ρ 2 = (.int .i64 ((i : Nat) : Int) : Value) ∧ ρ 6 = ((Value.slice none 0 0) : Value) ∧ ρ 7 = (.int .i64 ((0 : Nat) : Int) : Value) ∧ ρ 8 = (.bool (false) : Value) ∧ ρ 9 = (.int .i64 ((x : Nat) : Int) : Value) ∧ ρ 10 = (.int .i64 (((i) + k : Nat) : Int) : Value) ∧ ρ 11 = (.int .i64 ((0 : Nat) : Int) : Value) ∧ ρ 12 = (.int .i64 (((x) / (2) : Nat) : Int) : Value) ∧ ρ 13 = (v : Value) ∧ ρ 14 = (.int .i64 (((i) + k : Nat) : Int) : Value) ∧ ρ 23 = (.bool (false) : Value) ∧ True) ⟨T0, T1, T2, T6, T7, T8, T9, T10, T11, T12, T13, rfl, T23, trivial⟩ fun ρ22 ⟨T0, T1, T2, T6, T7, T8, T9, T10, T11, T12, T13, T14, T23, _⟩ => ?_
    refine thenF_normal (hK21 _ _ ?_)
    refine wpF_seq_k fun K23 hK23 => ?_
    refine wpF_seq_k fun K24 hK24 => ?_
    refine wpF_text ?_
    refine opsF_step rfl (YieldsK.move (show _ = (.int .i64 ((x : Nat) : Int) : Value) from T9) ?_)    -- delta.go:100 t28 := (Op.move (Operand.tmp 9))
    refine opsF_step rfl (YieldsK.bin (xv := .int .i64 ((x : Nat) : Int)) (yv := .int .i64 ((2 : Nat) : Int)) (show _ = (.int .i64 ((x : Nat) : Int) : Value) from rfl) (show _ = (.int .i64 ((2 : Nat) : Int) : Value) from rfl) rfl (i64_rem _ (x) (2) (by omega)) ?_)    -- delta.go:100 t29 := (Op.binOp BinOp.rem 3 (Operand.tmp 28) (Operand.const (Value.int IntKind.i64 2)) 3)
    refine opsF_step rfl (YieldsK.eqI (a := (((x) % (2) : Nat) : Int)) (b := ((1 : Nat) : Int)) (show _ = (.int .i64 (((x) % (2) : Nat) : Int) : Value) from rfl) (show _ = (.int .i64 ((1 : Nat) : Int) : Value) from rfl) (k_eql _ .i64 ((x) % (2)) (1)) ?_)    -- delta.go:100 t30 := (Op.binOp BinOp.eql 3 (Operand.tmp 29) (Operand.const (Value.int IntKind.i64 1)) 3)
    refine opsF_end (fun ρ => ρ 0 = (vb : Value) ∧ ρ 1 = (v : Value) ∧ ρ 2 = (.int .i64 ((i : Nat) : Int) : Value) ∧ ρ 6 = ((Value.slice none 0 0) : Value) ∧ ρ 7 = (.int .i64 ((0 : Nat) : Int) : Value) ∧ ρ 8 = (.bool (false) : Value) ∧ ρ 9 = (.int .i64 ((x : Nat) : Int) : Value) ∧ ρ 10 = (.int .i64 (((i) + k : Nat) : Int) : Value) ∧ ρ 11 = (.int .i64 ((0 : Nat) : Int) : Value) ∧ ρ 12 = (.int .i64 (((x) / (2) : Nat) : Int) : Value) ∧ ρ 13 = (v : Value) ∧ ρ 14 = (.int .i64 (((i) + k : Nat) : Int) : Value) ∧ ρ 23 = (.bool (false) : Value) ∧ ρ 30 = (.bool (decide (((x) % (2) : Nat) = (1))) : Value) ∧ True) ⟨T0, T1, T2, T6, T7, T8, T9, T10, T11, T12, T13, T14, T23, rfl, trivial⟩ fun ρ25 ⟨T0, T1, T2, T6, T7, T8, T9, T10, T11, T12, T13, T14, T23, T30, _⟩ => ?_
    refine thenF_normal (hK24 _ _ ?_)
    refine wpF_cond (((x) % (2) : Nat) = (1)) (show _ = (.bool (decide (((x) % (2) : Nat) = (1))) : Value) from T30) (fun hodd => ?_) (fun hodd => ?_)
    · rcases hgp : lebDec 0 (D.drop (i + k)) with _ | ⟨p, m⟩
      · refine wpF_seq_k fun K26 hK26 => ?_
        refine wpF_seq_k fun K27 hK27 => ?_
        refine wpF_text ?_
        refine opsF_step rfl (YieldsK.move (show _ = (v : Value) from T1) ?_)    -- delta.go:101 t32 := (Op.move (Operand.tmp 1))
        refine opsF_step rfl (YieldsK.move (show _ = (.int .i64 (((i) + k : Nat) : Int) : Value) from T10) ?_)    -- delta.go:101 t33 := (Op.move (Operand.tmp 10))
        refine opsF_step rfl (YieldsK.callA2 del10_pl27 (show _ = (v : Value) from rfl) (show _ = (.int .i64 (((i) + k : Nat) : Int) : Value) from rfl) ?_)    -- delta.go:101 t34 := (Op.call { callee := (Callee.value (Operand.func 27)), args := #[(Operand.tmp 32), (Operand.tmp 33)], argTypes
        refine (getNo _ v D (hr.keep hE) ((i) + k) (by omega) hgp).mono ?_
        rintro e w29 ⟨rfl, hx28⟩
        refine ⟨_, rfl, ?_⟩
        have hE : Ext w w29 := (hE.trans hx28)
        refine opsF_step rfl (YieldsK.move (show _ = (.tuple #[.int .i64 ((0 : Nat) : Int), .int .i64 ((0 : Nat) : Int), .int .i64 ((6 : Nat) : Int)] : Value) from rfl) ?_)    -- delta.go:101 t31 := (Op.move (Operand.tmp 34))
        refine opsF_step rfl (YieldsK.extract (vs := [.int .i64 ((0 : Nat) : Int), .int .i64 ((0 : Nat) : Int), .int .i64 ((6 : Nat) : Int)]) (show _ = (.tuple #[.int .i64 ((0 : Nat) : Int), .int .i64 ((0 : Nat) : Int), .int .i64 ((6 : Nat) : Int)] : Value) from rfl) (show _ = some (.int .i64 ((0 : Nat) : Int) : Value) from rfl) ?_)    -- delta.go:101 t35 := (Op.extract (Operand.tmp 31) 0)
        refine opsF_step rfl (YieldsK.extract (vs := [.int .i64 ((0 : Nat) : Int), .int .i64 ((0 : Nat) : Int), .int .i64 ((6 : Nat) : Int)]) (show _ = (.tuple #[.int .i64 ((0 : Nat) : Int), .int .i64 ((0 : Nat) : Int), .int .i64 ((6 : Nat) : Int)] : Value) from rfl) (show _ = some (.int .i64 ((0 : Nat) : Int) : Value) from rfl) ?_)    -- delta.go:101 t36 := (Op.extract (Operand.tmp 31) 1)
        refine opsF_step rfl (YieldsK.extract (vs := [.int .i64 ((0 : Nat) : Int), .int .i64 ((0 : Nat) : Int), .int .i64 ((6 : Nat) : Int)]) (show _ = (.tuple #[.int .i64 ((0 : Nat) : Int), .int .i64 ((0 : Nat) : Int), .int .i64 ((6 : Nat) : Int)] : Value) from rfl) (show _ = some (.int .i64 ((6 : Nat) : Int) : Value) from rfl) ?_)    -- delta.go:101 t37 := (Op.extract (Operand.tmp 31) 2)
        refine opsF_step rfl (YieldsK.assign (show _ = (.int .i64 ((0 : Nat) : Int) : Value) from rfl) ?_)    -- delta.go:101 t14 := (Op.assign (Operand.tmp 35))
        refine opsF_step rfl (YieldsK.assign (show _ = (.int .i64 ((0 : Nat) : Int) : Value) from rfl) ?_)    -- delta.go:101 t10 := (Op.assign (Operand.tmp 36))
        refine opsF_step rfl (YieldsK.assign (show _ = (.int .i64 ((6 : Nat) : Int) : Value) from rfl) ?_)    -- delta.go:101 t11 := (Op.assign (Operand.tmp 37))
        refine opsF_end (fun ρ => ρ 0 = (vb : Value) ∧ ρ 1 = (v : Value) ∧ ρ 2 = (.int .i64 ((i : Nat) : Int) : Value) ∧ ρ 6 = ((Value.slice none 0 0) : Value) ∧ ρ 7 = (.int .i64 ((0 : Nat) : Int) : Value) ∧ ρ 8 = (.bool (false) : Value) ∧ ρ 9 = (.int .i64 ((x : Nat) : Int) : Value) ∧ ρ 10 = (.int .i64 ((0 : Nat) : Int) : Value) ∧ ρ 11 = (.int .i64 ((6 : Nat) : Int) : Value) ∧ ρ 12 = (.int .i64 (((x) / (2) : Nat) : Int) : Value) ∧ ρ 13 = (v : Value) ∧ ρ 14 = (.int .i64 ((0 : Nat) : Int) : Value) ∧ ρ 23 = (.bool (false) : Value) ∧ True) ⟨T0, T1, T2, T6, T7, T8, T9, rfl, rfl, T12, T13, rfl, T23, trivial⟩ fun ρ30 ⟨T0, T1, T2, T6, T7, T8, T9, T10, T11, T12, T13, T14, T23, _⟩ => ?_
        refine thenF_normal (hK27 _ _ ?_)
        refine wpF_seq_k fun K31 hK31 => ?_
        refine wpF_text ?_
        refine opsF_step rfl (YieldsK.move (show _ = (.int .i64 ((6 : Nat) : Int) : Value) from T11) ?_)    -- delta.go:101 t38 := (Op.move (Operand.tmp 11))
        refine opsF_step rfl (YieldsK.eqI (a := ((6 : Nat) : Int)) (b := ((0 : Nat) : Int)) (show _ = (.int .i64 ((6 : Nat) : Int) : Value) from rfl) (show _ = (.int .i64 ((0 : Nat) : Int) : Value) from rfl) (k_neq _ .i64 (6) (0)) ?_)    -- delta.go:101 t39 := (Op.binOp BinOp.neq 28 (Operand.tmp 38) (Operand.const (Value.int IntKind.i64 0)) 28)
        refine opsF_end (fun ρ => ρ 0 = (vb : Value) ∧ ρ 1 = (v : Value) ∧ ρ 2 = (.int .i64 ((i : Nat) : Int) : Value) ∧ ρ 6 = ((Value.slice none 0 0) : Value) ∧ ρ 7 = (.int .i64 ((0 : Nat) : Int) : Value) ∧ ρ 8 = (.bool (false) : Value) ∧ ρ 9 = (.int .i64 ((x : Nat) : Int) : Value) ∧ ρ 10 = (.int .i64 ((0 : Nat) : Int) : Value) ∧ ρ 11 = (.int .i64 ((6 : Nat) : Int) : Value) ∧ ρ 12 = (.int .i64 (((x) / (2) : Nat) : Int) : Value) ∧ ρ 13 = (v : Value) ∧ ρ 14 = (.int .i64 ((0 : Nat) : Int) : Value) ∧ ρ 23 = (.bool (false) : Value) ∧ ρ 39 = (.bool (true) : Value) ∧ True) ⟨T0, T1, T2, T6, T7, T8, T9, T10, T11, T12, T13, T14, T23, (congrArg Value.bool (decide_eq_true (by decide))), trivial⟩ fun ρ32 ⟨T0, T1, T2, T6, T7, T8, T9, T10, T11, T12, T13, T14, T23, T39, _⟩ => ?_
        refine thenF_normal (hK31 _ _ ?_)
        refine wpF_true (show _ = (.bool (true) : Value) from T39) ?_
        refine wpF_seq_k fun K33 hK33 => ?_
        refine wpF_text ?_
        refine opsF_step rfl (YieldsK.assign (show _ = ((Value.slice none 0 0) : Value) from rfl) ?_)    -- delta.go:102 t6 := (Op.assign (Operand.const (Value.slice none 0 0)))
        refine opsF_step rfl (YieldsK.assign (show _ = (.int .i64 ((0 : Nat) : Int) : Value) from rfl) ?_)    -- delta.go:102 t7 := (Op.assign (Operand.const (Value.int IntKind.i64 0)))
        refine opsF_step rfl (YieldsK.assign (show _ = (.bool (false) : Value) from rfl) ?_)    -- delta.go:102 t8 := (Op.assign (Operand.const (Value.bool false)))
        refine opsF_end (fun ρ => ρ 0 = (vb : Value) ∧ ρ 1 = (v : Value) ∧ ρ 2 = (.int .i64 ((i : Nat) : Int) : Value) ∧ ρ 6 = ((Value.slice none 0 0) : Value) ∧ ρ 7 = (.int .i64 ((0 : Nat) : Int) : Value) ∧ ρ 8 = (.bool (false) : Value) ∧ ρ 9 = (.int .i64 ((x : Nat) : Int) : Value) ∧ ρ 10 = (.int .i64 ((0 : Nat) : Int) : Value) ∧ ρ 11 = (.int .i64 ((6 : Nat) : Int) : Value) ∧ ρ 12 = (.int .i64 (((x) / (2) : Nat) : Int) : Value) ∧ ρ 13 = (v : Value) ∧ ρ 14 = (.int .i64 ((0 : Nat) : Int) : Value) ∧ ρ 23 = (.bool (false) : Value) ∧ ρ 39 = (.bool (true) : Value) ∧ True) ⟨T0, T1, T2, rfl, rfl, rfl, T9, T10, T11, T12, T13, T14, T23, T39, trivial⟩ fun ρ34 ⟨T0, T1, T2, T6, T7, T8, T9, T10, T11, T12, T13, T14, T23, T39, _⟩ => ?_
        refine thenF_normal (hK33 _ _ ?_)
        refine wpF_ret (thenF_ret (thenF_ret ?_))
        refine postF_ret (fn := Try.f24) _ rfl [(Value.slice none 0 0), .int .i64 ((0 : Nat) : Int), .bool (false)] (.tuple #[(Value.slice none 0 0), .int .i64 ((0 : Nat) : Int), .bool (false)]) rfl ⟨T6, T7, T8, trivial⟩ ?_
        rw [pieceP, hgx]; simp only
        rw [if_pos hodd, hgp]
        refine ⟨?_, hE⟩
        first | rfl | trivial
      · have hqp := lebDec_bound (a := i + k) (by omega) hgp
        refine wpF_seq_k fun K35 hK35 => ?_
        refine wpF_seq_k fun K36 hK36 => ?_
        refine wpF_text ?_
        refine opsF_step rfl (YieldsK.move (show _ = (v : Value) from T1) ?_)    -- delta.go:101 t32 := (Op.move (Operand.tmp 1))
        refine opsF_step rfl (YieldsK.move (show _ = (.int .i64 (((i) + k : Nat) : Int) : Value) from T10) ?_)    -- delta.go:101 t33 := (Op.move (Operand.tmp 10))
        refine opsF_step rfl (YieldsK.callA2 del10_pl27 (show _ = (v : Value) from rfl) (show _ = (.int .i64 (((i) + k : Nat) : Int) : Value) from rfl) ?_)    -- delta.go:101 t34 := (Op.call { callee := (Callee.value (Operand.func 27)), args := #[(Operand.tmp 32), (Operand.tmp 33)], argTypes
        refine (getYes _ v D (hr.keep hE) ((i) + k) (by omega) p m hgp).mono ?_
        rintro e w38 ⟨rfl, hx37⟩
        refine ⟨_, rfl, ?_⟩
        have hE : Ext w w38 := (hE.trans hx37)
        refine opsF_step rfl (YieldsK.move (show _ = (.tuple #[.int .i64 ((p : Nat) : Int), .int .i64 ((((i) + k) + m : Nat) : Int), .int .i64 ((0 : Nat) : Int)] : Value) from rfl) ?_)    -- delta.go:101 t31 := (Op.move (Operand.tmp 34))
        refine opsF_step rfl (YieldsK.extract (vs := [.int .i64 ((p : Nat) : Int), .int .i64 ((((i) + k) + m : Nat) : Int), .int .i64 ((0 : Nat) : Int)]) (show _ = (.tuple #[.int .i64 ((p : Nat) : Int), .int .i64 ((((i) + k) + m : Nat) : Int), .int .i64 ((0 : Nat) : Int)] : Value) from rfl) (show _ = some (.int .i64 ((p : Nat) : Int) : Value) from rfl) ?_)    -- delta.go:101 t35 := (Op.extract (Operand.tmp 31) 0)
        refine opsF_step rfl (YieldsK.extract (vs := [.int .i64 ((p : Nat) : Int), .int .i64 ((((i) + k) + m : Nat) : Int), .int .i64 ((0 : Nat) : Int)]) (show _ = (.tuple #[.int .i64 ((p : Nat) : Int), .int .i64 ((((i) + k) + m : Nat) : Int), .int .i64 ((0 : Nat) : Int)] : Value) from rfl) (show _ = some (.int .i64 ((((i) + k) + m : Nat) : Int) : Value) from rfl) ?_)    -- delta.go:101 t36 := (Op.extract (Operand.tmp 31) 1)
        refine opsF_step rfl (YieldsK.extract (vs := [.int .i64 ((p : Nat) : Int), .int .i64 ((((i) + k) + m : Nat) : Int), .int .i64 ((0 : Nat) : Int)]) (show _ = (.tuple #[.int .i64 ((p : Nat) : Int), .int .i64 ((((i) + k) + m : Nat) : Int), .int .i64 ((0 : Nat) : Int)] : Value) from rfl) (show _ = some (.int .i64 ((0 : Nat) : Int) : Value) from rfl) ?_)    -- delta.go:101 t37 := (Op.extract (Operand.tmp 31) 2)
        refine opsF_step rfl (YieldsK.assign (show _ = (.int .i64 ((p : Nat) : Int) : Value) from rfl) ?_)    -- delta.go:101 t14 := (Op.assign (Operand.tmp 35))
        refine opsF_step rfl (YieldsK.assign (show _ = (.int .i64 ((((i) + k) + m : Nat) : Int) : Value) from rfl) ?_)    -- delta.go:101 t10 := (Op.assign (Operand.tmp 36))
        refine opsF_step rfl (YieldsK.assign (show _ = (.int .i64 ((0 : Nat) : Int) : Value) from rfl) ?_)    -- delta.go:101 t11 := (Op.assign (Operand.tmp 37))
        refine opsF_end (fun ρ => ρ 0 = (vb : Value) ∧ ρ 1 = (v : Value) ∧ ρ 2 = (.int .i64 ((i : Nat) : Int) : Value) ∧ ρ 6 = ((Value.slice none 0 0) : Value) ∧ ρ 7 = (.int .i64 ((0 : Nat) : Int) : Value) ∧ ρ 8 = (.bool (false) : Value) ∧ ρ 9 = (.int .i64 ((x : Nat) : Int) : Value) ∧ ρ 10 = (.int .i64 ((((i) + k) + m : Nat) : Int) : Value) ∧ ρ 11 = (.int .i64 ((0 : Nat) : Int) : Value) ∧ ρ 12 = (.int .i64 (((x) / (2) : Nat) : Int) : Value) ∧ ρ 13 = (v : Value) ∧ ρ 14 = (.int .i64 ((p : Nat) : Int) : Value) ∧ ρ 23 = (.bool (false) : Value) ∧ True) ⟨T0, T1, T2, T6, T7, T8, T9, rfl, rfl, T12, T13, rfl, T23, trivial⟩ fun ρ39 ⟨T0, T1, T2, T6, T7, T8, T9, T10, T11, T12, T13, T14, T23, _⟩ => ?_
        refine thenF_normal (hK36 _ _ ?_)
        refine wpF_seq_k fun K40 hK40 => ?_
        refine wpF_text ?_
        refine opsF_step rfl (YieldsK.move (show _ = (.int .i64 ((0 : Nat) : Int) : Value) from T11) ?_)    -- delta.go:101 t38 := (Op.move (Operand.tmp 11))
        refine opsF_step rfl (YieldsK.eqI (a := ((0 : Nat) : Int)) (b := ((0 : Nat) : Int)) (show _ = (.int .i64 ((0 : Nat) : Int) : Value) from rfl) (show _ = (.int .i64 ((0 : Nat) : Int) : Value) from rfl) (k_neq _ .i64 (0) (0)) ?_)    -- delta.go:101 t39 := (Op.binOp BinOp.neq 28 (Operand.tmp 38) (Operand.const (Value.int IntKind.i64 0)) 28)
        refine opsF_end (fun ρ => ρ 0 = (vb : Value) ∧ ρ 1 = (v : Value) ∧ ρ 2 = (.int .i64 ((i : Nat) : Int) : Value) ∧ ρ 6 = ((Value.slice none 0 0) : Value) ∧ ρ 7 = (.int .i64 ((0 : Nat) : Int) : Value) ∧ ρ 8 = (.bool (false) : Value) ∧ ρ 9 = (.int .i64 ((x : Nat) : Int) : Value) ∧ ρ 10 = (.int .i64 ((((i) + k) + m : Nat) : Int) : Value) ∧ ρ 11 = (.int .i64 ((0 : Nat) : Int) : Value) ∧ ρ 12 = (.int .i64 (((x) / (2) : Nat) : Int) : Value) ∧ ρ 13 = (v : Value) ∧ ρ 14 = (.int .i64 ((p : Nat) : Int) : Value) ∧ ρ 23 = (.bool (false) : Value) ∧ ρ 39 = (.bool (false) : Value) ∧ True) ⟨T0, T1, T2, T6, T7, T8, T9, T10, T11, T12, T13, T14, T23, (congrArg Value.bool (decide_eq_false (by decide))), trivial⟩ fun ρ41 ⟨T0, T1, T2, T6, T7, T8, T9, T10, T11, T12, T13, T14, T23, T39, _⟩ => ?_
        refine thenF_normal (hK40 _ _ ?_)
        refine wpF_false (show _ = (.bool (false) : Value) from T39) ?_
        refine wpF_skip ?_
        refine thenF_normal (hK35 _ _ ?_)
        refine wpF_text ?_
        refine opsF_step rfl (YieldsK.move (show _ = (vb : Value) from T0) ?_)    -- delta.go:104 t40 := (Op.move (Operand.tmp 0))
        refine opsF_step rfl (YieldsK.assign (show _ = (vb : Value) from rfl) ?_)    -- delta.go:104 t13 := (Op.assign (Operand.tmp 40))
        refine opsF_end (fun ρ => ρ 0 = (vb : Value) ∧ ρ 1 = (v : Value) ∧ ρ 2 = (.int .i64 ((i : Nat) : Int) : Value) ∧ ρ 6 = ((Value.slice none 0 0) : Value) ∧ ρ 7 = (.int .i64 ((0 : Nat) : Int) : Value) ∧ ρ 8 = (.bool (false) : Value) ∧ ρ 9 = (.int .i64 ((x : Nat) : Int) : Value) ∧ ρ 10 = (.int .i64 ((((i) + k) + m : Nat) : Int) : Value) ∧ ρ 11 = (.int .i64 ((0 : Nat) : Int) : Value) ∧ ρ 12 = (.int .i64 (((x) / (2) : Nat) : Int) : Value) ∧ ρ 13 = (vb : Value) ∧ ρ 14 = (.int .i64 ((p : Nat) : Int) : Value) ∧ ρ 23 = (.bool (false) : Value) ∧ ρ 39 = (.bool (false) : Value) ∧ True) ⟨T0, T1, T2, T6, T7, T8, T9, T10, T11, T12, rfl, T14, T23, T39, trivial⟩ fun ρ42 ⟨T0, T1, T2, T6, T7, T8, T9, T10, T11, T12, T13, T14, T23, T39, _⟩ => ?_
        by_cases hs1 : x / 2 < 1
        · refine thenF_normal (hK23 _ _ ?_)
          refine wpF_seq_k fun K43 hK43 => ?_
          refine wpF_seq_k fun K44 hK44 => ?_
          refine wpF_text ?_
          refine opsF_step rfl (YieldsK.move (show _ = (.int .i64 (((x) / (2) : Nat) : Int) : Value) from T12) ?_)    -- delta.go:106 t41 := (Op.move (Operand.tmp 12))
          refine opsF_step rfl (YieldsK.eqI (a := (((x) / (2) : Nat) : Int)) (b := ((1 : Nat) : Int)) (show _ = (.int .i64 (((x) / (2) : Nat) : Int) : Value) from rfl) (show _ = (.int .i64 ((1 : Nat) : Int) : Value) from rfl) (k_lss _ .i64 ((x) / (2)) (1)) ?_)    -- delta.go:106 t42 := (Op.binOp BinOp.lss 3 (Operand.tmp 41) (Operand.const (Value.int IntKind.i64 1)) 3)
          refine opsF_step rfl (YieldsK.move (show _ = (.bool (true) : Value) from (congrArg Value.bool (decide_eq_true (hs1)))) ?_)    -- delta.go:106 t43 := (Op.move (Operand.tmp 42))
          refine opsF_off (d := 43) rfl rfl rfl (show _ = (.bool (true) : Value) from rfl) rfl ?_    -- delta.go:106 t44 := (Op.move (Operand.tmp 14))
          refine opsF_off (d := 43) rfl rfl rfl (show _ = (.bool (true) : Value) from rfl) rfl ?_    -- delta.go:106 t45 := (Op.move (Operand.tmp 13))
          refine opsF_off (d := 43) rfl rfl rfl (show _ = (.bool (true) : Value) from rfl) rfl ?_    -- delta.go:106 t46 := (Op.call { callee := (Callee.builtin Builtin.len), args := #[(Operand.tmp 45)], argTypes := #[22] })
          refine opsF_off (d := 43) rfl rfl rfl (show _ = (.bool (true) : Value) from rfl) rfl ?_    -- delta.go:106 t47 := (Op.binOp BinOp.gtr 3 (Operand.tmp 44) (Operand.tmp 46) 3)
          refine opsF_step rfl (YieldsK.pickT (show _ = (.bool (true) : Value) from rfl) (show _ = (.bool (true) : Value) from rfl) ?_)    -- delta.go:106 t48 := (Op.pick (Operand.tmp 43) (Operand.const (Value.bool true)) (Operand.tmp 47))
          refine opsF_step rfl (YieldsK.move (show _ = (.bool (true) : Value) from rfl) ?_)    -- delta.go:106 t49 := (Op.move (Operand.tmp 48))
          refine opsF_off (d := 49) rfl rfl rfl (show _ = (.bool (true) : Value) from rfl) rfl ?_    -- delta.go:106 t50 := (Op.move (Operand.tmp 12))
          refine opsF_off (d := 49) rfl rfl rfl (show _ = (.bool (true) : Value) from rfl) rfl ?_    -- delta.go:106 t51 := (Op.move (Operand.tmp 13))
          refine opsF_off (d := 49) rfl rfl rfl (show _ = (.bool (true) : Value) from rfl) rfl ?_    -- delta.go:106 t52 := (Op.call { callee := (Callee.builtin Builtin.len), args := #[(Operand.tmp 51)], argTypes := #[22] })
          refine opsF_off (d := 49) rfl rfl rfl (show _ = (.bool (true) : Value) from rfl) rfl ?_    -- delta.go:106 t53 := (Op.move (Operand.tmp 14))
          refine opsF_off (d := 49) rfl rfl rfl (show _ = (.bool (true) : Value) from rfl) rfl ?_    -- delta.go:106 t54 := (Op.binOp BinOp.sub 3 (Operand.tmp 52) (Operand.tmp 53) 3)
          refine opsF_off (d := 49) rfl rfl rfl (show _ = (.bool (true) : Value) from rfl) rfl ?_    -- delta.go:106 t55 := (Op.binOp BinOp.gtr 3 (Operand.tmp 50) (Operand.tmp 54) 3)
          refine opsF_step rfl (YieldsK.pickT (show _ = (.bool (true) : Value) from rfl) (show _ = (.bool (true) : Value) from rfl) ?_)    -- delta.go:106 t56 := (Op.pick (Operand.tmp 49) (Operand.const (Value.bool true)) (Operand.tmp 55))
          refine opsF_end (fun ρ => ρ 0 = (vb : Value) ∧ ρ 1 = (v : Value) ∧ ρ 2 = (.int .i64 ((i : Nat) : Int) : Value) ∧ ρ 6 = ((Value.slice none 0 0) : Value) ∧ ρ 7 = (.int .i64 ((0 : Nat) : Int) : Value) ∧ ρ 8 = (.bool (false) : Value) ∧ ρ 9 = (.int .i64 ((x : Nat) : Int) : Value) ∧ ρ 10 = (.int .i64 ((((i) + k) + m : Nat) : Int) : Value) ∧ ρ 11 = (.int .i64 ((0 : Nat) : Int) : Value) ∧ ρ 12 = (.int .i64 (((x) / (2) : Nat) : Int) : Value) ∧ ρ 13 = (vb : Value) ∧ ρ 14 = (.int .i64 ((p : Nat) : Int) : Value) ∧ ρ 23 = (.bool (false) : Value) ∧ ρ 39 = (.bool (false) : Value) ∧ ρ 56 = (.bool (true) : Value) ∧ True) ⟨T0, T1, T2, T6, T7, T8, T9, T10, T11, T12, T13, T14, T23, T39, rfl, trivial⟩ fun ρ45 ⟨T0, T1, T2, T6, T7, T8, T9, T10, T11, T12, T13, T14, T23, T39, T56, _⟩ => ?_
          refine thenF_normal (hK44 _ _ ?_)
          refine wpF_true (show _ = (.bool (true) : Value) from T56) ?_
          refine wpF_seq_k fun K46 hK46 => ?_
          refine wpF_text ?_
          refine opsF_step rfl (YieldsK.assign (show _ = ((Value.slice none 0 0) : Value) from rfl) ?_)    -- delta.go:107 t6 := (Op.assign (Operand.const (Value.slice none 0 0)))
          refine opsF_step rfl (YieldsK.assign (show _ = (.int .i64 ((0 : Nat) : Int) : Value) from rfl) ?_)    -- delta.go:107 t7 := (Op.assign (Operand.const (Value.int IntKind.i64 0)))
          refine opsF_step rfl (YieldsK.assign (show _ = (.bool (false) : Value) from rfl) ?_)    -- delta.go:107 t8 := (Op.assign (Operand.const (Value.bool false)))
          refine opsF_end (fun ρ => ρ 0 = (vb : Value) ∧ ρ 1 = (v : Value) ∧ ρ 2 = (.int .i64 ((i : Nat) : Int) : Value) ∧ ρ 6 = ((Value.slice none 0 0) : Value) ∧ ρ 7 = (.int .i64 ((0 : Nat) : Int) : Value) ∧ ρ 8 = (.bool (false) : Value) ∧ ρ 9 = (.int .i64 ((x : Nat) : Int) : Value) ∧ ρ 10 = (.int .i64 ((((i) + k) + m : Nat) : Int) : Value) ∧ ρ 11 = (.int .i64 ((0 : Nat) : Int) : Value) ∧ ρ 12 = (.int .i64 (((x) / (2) : Nat) : Int) : Value) ∧ ρ 13 = (vb : Value) ∧ ρ 14 = (.int .i64 ((p : Nat) : Int) : Value) ∧ ρ 23 = (.bool (false) : Value) ∧ ρ 39 = (.bool (false) : Value) ∧ ρ 56 = (.bool (true) : Value) ∧ True) ⟨T0, T1, T2, rfl, rfl, rfl, T9, T10, T11, T12, T13, T14, T23, T39, T56, trivial⟩ fun ρ47 ⟨T0, T1, T2, T6, T7, T8, T9, T10, T11, T12, T13, T14, T23, T39, T56, _⟩ => ?_
          refine thenF_normal (hK46 _ _ ?_)
          refine wpF_ret (thenF_ret ?_)
          refine postF_ret (fn := Try.f24) _ rfl [(Value.slice none 0 0), .int .i64 ((0 : Nat) : Int), .bool (false)] (.tuple #[(Value.slice none 0 0), .int .i64 ((0 : Nat) : Int), .bool (false)]) rfl ⟨T6, T7, T8, trivial⟩ ?_
          rw [pieceP, hgx]; simp only
          rw [if_pos hodd, hgp]; simp only
          rw [cutP, if_pos (by omega)]
          refine ⟨?_, hE⟩
          first | rfl | trivial
        · by_cases hs2 : B.length < p
          · refine thenF_normal (hK23 _ _ ?_)
            refine wpF_seq_k fun K48 hK48 => ?_
            refine wpF_seq_k fun K49 hK49 => ?_
            refine wpF_text ?_
            refine opsF_step rfl (YieldsK.move (show _ = (.int .i64 (((x) / (2) : Nat) : Int) : Value) from T12) ?_)    -- delta.go:106 t41 := (Op.move (Operand.tmp 12))
            refine opsF_step rfl (YieldsK.eqI (a := (((x) / (2) : Nat) : Int)) (b := ((1 : Nat) : Int)) (show _ = (.int .i64 (((x) / (2) : Nat) : Int) : Value) from rfl) (show _ = (.int .i64 ((1 : Nat) : Int) : Value) from rfl) (k_lss _ .i64 ((x) / (2)) (1)) ?_)    -- delta.go:106 t42 := (Op.binOp BinOp.lss 3 (Operand.tmp 41) (Operand.const (Value.int IntKind.i64 1)) 3)
            refine opsF_step rfl (YieldsK.move (show _ = (.bool (false) : Value) from (congrArg Value.bool (decide_eq_false (hs1)))) ?_)    -- delta.go:106 t43 := (Op.move (Operand.tmp 42))
            refine opsF_on (d := 43) rfl rfl (show _ = (.bool (false) : Value) from rfl) (YieldsK.move (show _ = (.int .i64 ((p : Nat) : Int) : Value) from T14) ?_)    -- delta.go:106 t44 := (Op.move (Operand.tmp 14))
            refine opsF_on (d := 43) rfl rfl (show _ = (.bool (false) : Value) from rfl) (YieldsK.move (show _ = (vb : Value) from T13) ?_)    -- delta.go:106 t45 := (Op.move (Operand.tmp 13))
            refine opsF_on (d := 43) rfl rfl (show _ = (.bool (false) : Value) from rfl) (YieldsK.lenRB del10_ty22 (RB.of (hrb.keep hE) (show _ = (vb : Value) from rfl)) ?_)    -- delta.go:106 t46 := (Op.call { callee := (Callee.builtin Builtin.len), args := #[(Operand.tmp 45)], argTypes := #[22] })
            refine opsF_on (d := 43) rfl rfl (show _ = (.bool (false) : Value) from rfl) (YieldsK.eqI (a := ((p : Nat) : Int)) (b := ((B.length : Nat) : Int)) (show _ = (.int .i64 ((p : Nat) : Int) : Value) from rfl) (show _ = (.int .i64 ((B.length : Nat) : Int) : Value) from rfl) (k_gtr _ .i64 (p) (B.length)) ?_)    -- delta.go:106 t47 := (Op.binOp BinOp.gtr 3 (Operand.tmp 44) (Operand.tmp 46) 3)
            refine opsF_step rfl (YieldsK.pickF (show _ = (.bool (false) : Value) from rfl) (show _ = (.bool (true) : Value) from (congrArg Value.bool (decide_eq_true (hs2)))) ?_)    -- delta.go:106 t48 := (Op.pick (Operand.tmp 43) (Operand.const (Value.bool true)) (Operand.tmp 47))
            refine opsF_step rfl (YieldsK.move (show _ = (.bool (true) : Value) from rfl) ?_)    -- delta.go:106 t49 := (Op.move (Operand.tmp 48))
            refine opsF_off (d := 49) rfl rfl rfl (show _ = (.bool (true) : Value) from rfl) rfl ?_    -- delta.go:106 t50 := (Op.move (Operand.tmp 12))
            refine opsF_off (d := 49) rfl rfl rfl (show _ = (.bool (true) : Value) from rfl) rfl ?_    -- delta.go:106 t51 := (Op.move (Operand.tmp 13))
            refine opsF_off (d := 49) rfl rfl rfl (show _ = (.bool (true) : Value) from rfl) rfl ?_    -- delta.go:106 t52 := (Op.call { callee := (Callee.builtin Builtin.len), args := #[(Operand.tmp 51)], argTypes := #[22] })
            refine opsF_off (d := 49) rfl rfl rfl (show _ = (.bool (true) : Value) from rfl) rfl ?_    -- delta.go:106 t53 := (Op.move (Operand.tmp 14))
            refine opsF_off (d := 49) rfl rfl rfl (show _ = (.bool (true) : Value) from rfl) rfl ?_    -- delta.go:106 t54 := (Op.binOp BinOp.sub 3 (Operand.tmp 52) (Operand.tmp 53) 3)
            refine opsF_off (d := 49) rfl rfl rfl (show _ = (.bool (true) : Value) from rfl) rfl ?_    -- delta.go:106 t55 := (Op.binOp BinOp.gtr 3 (Operand.tmp 50) (Operand.tmp 54) 3)
            refine opsF_step rfl (YieldsK.pickT (show _ = (.bool (true) : Value) from rfl) (show _ = (.bool (true) : Value) from rfl) ?_)    -- delta.go:106 t56 := (Op.pick (Operand.tmp 49) (Operand.const (Value.bool true)) (Operand.tmp 55))
            refine opsF_end (fun ρ => ρ 0 = (vb : Value) ∧ ρ 1 = (v : Value) ∧ ρ 2 = (.int .i64 ((i : Nat) : Int) : Value) ∧ ρ 6 = ((Value.slice none 0 0) : Value) ∧ ρ 7 = (.int .i64 ((0 : Nat) : Int) : Value) ∧ ρ 8 = (.bool (false) : Value) ∧ ρ 9 = (.int .i64 ((x : Nat) : Int) : Value) ∧ ρ 10 = (.int .i64 ((((i) + k) + m : Nat) : Int) : Value) ∧ ρ 11 = (.int .i64 ((0 : Nat) : Int) : Value) ∧ ρ 12 = (.int .i64 (((x) / (2) : Nat) : Int) : Value) ∧ ρ 13 = (vb : Value) ∧ ρ 14 = (.int .i64 ((p : Nat) : Int) : Value) ∧ ρ 23 = (.bool (false) : Value) ∧ ρ 39 = (.bool (false) : Value) ∧ ρ 56 = (.bool (true) : Value) ∧ True) ⟨T0, T1, T2, T6, T7, T8, T9, T10, T11, T12, T13, T14, T23, T39, rfl, trivial⟩ fun ρ50 ⟨T0, T1, T2, T6, T7, T8, T9, T10, T11, T12, T13, T14, T23, T39, T56, _⟩ => ?_
            refine thenF_normal (hK49 _ _ ?_)
            refine wpF_true (show _ = (.bool (true) : Value) from T56) ?_
            refine wpF_seq_k fun K51 hK51 => ?_
            refine wpF_text ?_
            refine opsF_step rfl (YieldsK.assign (show _ = ((Value.slice none 0 0) : Value) from rfl) ?_)    -- delta.go:107 t6 := (Op.assign (Operand.const (Value.slice none 0 0)))
            refine opsF_step rfl (YieldsK.assign (show _ = (.int .i64 ((0 : Nat) : Int) : Value) from rfl) ?_)    -- delta.go:107 t7 := (Op.assign (Operand.const (Value.int IntKind.i64 0)))
            refine opsF_step rfl (YieldsK.assign (show _ = (.bool (false) : Value) from rfl) ?_)    -- delta.go:107 t8 := (Op.assign (Operand.const (Value.bool false)))
            refine opsF_end (fun ρ => ρ 0 = (vb : Value) ∧ ρ 1 = (v : Value) ∧ ρ 2 = (.int .i64 ((i : Nat) : Int) : Value) ∧ ρ 6 = ((Value.slice none 0 0) : Value) ∧ ρ 7 = (.int .i64 ((0 : Nat) : Int) : Value) ∧ ρ 8 = (.bool (false) : Value) ∧ ρ 9 = (.int .i64 ((x : Nat) : Int) : Value) ∧ ρ 10 = (.int .i64 ((((i) + k) + m : Nat) : Int) : Value) ∧ ρ 11 = (.int .i64 ((0 : Nat) : Int) : Value) ∧ ρ 12 = (.int .i64 (((x) / (2) : Nat) : Int) : Value) ∧ ρ 13 = (vb : Value) ∧ ρ 14 = (.int .i64 ((p : Nat) : Int) : Value) ∧ ρ 23 = (.bool (false) : Value) ∧ ρ 39 = (.bool (false) : Value) ∧ ρ 56 = (.bool (true) : Value) ∧ True) ⟨T0, T1, T2, rfl, rfl, rfl, T9, T10, T11, T12, T13, T14, T23, T39, T56, trivial⟩ fun ρ52 ⟨T0, T1, T2, T6, T7, T8, T9, T10, T11, T12, T13, T14, T23, T39, T56, _⟩ => ?_
            refine thenF_normal (hK51 _ _ ?_)
            refine wpF_ret (thenF_ret ?_)
            refine postF_ret (fn := Try.f24) _ rfl [(Value.slice none 0 0), .int .i64 ((0 : Nat) : Int), .bool (false)] (.tuple #[(Value.slice none 0 0), .int .i64 ((0 : Nat) : Int), .bool (false)]) rfl ⟨T6, T7, T8, trivial⟩ ?_
            rw [pieceP, hgx]; simp only
            rw [if_pos hodd, hgp]; simp only
            rw [cutP, if_pos (by omega)]
            refine ⟨?_, hE⟩
            first | rfl | trivial
          · by_cases hs3 : B.length - (p) < x / 2
            · refine thenF_normal (hK23 _ _ ?_)
              refine wpF_seq_k fun K53 hK53 => ?_
              refine wpF_seq_k fun K54 hK54 => ?_
              refine wpF_text ?_
              refine opsF_step rfl (YieldsK.move (show _ = (.int .i64 (((x) / (2) : Nat) : Int) : Value) from T12) ?_)    -- delta.go:106 t41 := (Op.move (Operand.tmp 12))
              refine opsF_step rfl (YieldsK.eqI (a := (((x) / (2) : Nat) : Int)) (b := ((1 : Nat) : Int)) (show _ = (.int .i64 (((x) / (2) : Nat) : Int) : Value) from rfl) (show _ = (.int .i64 ((1 : Nat) : Int) : Value) from rfl) (k_lss _ .i64 ((x) / (2)) (1)) ?_)    -- delta.go:106 t42 := (Op.binOp BinOp.lss 3 (Operand.tmp 41) (Operand.const (Value.int IntKind.i64 1)) 3)
              refine opsF_step rfl (YieldsK.move (show _ = (.bool (false) : Value) from (congrArg Value.bool (decide_eq_false (hs1)))) ?_)    -- delta.go:106 t43 := (Op.move (Operand.tmp 42))
              refine opsF_on (d := 43) rfl rfl (show _ = (.bool (false) : Value) from rfl) (YieldsK.move (show _ = (.int .i64 ((p : Nat) : Int) : Value) from T14) ?_)    -- delta.go:106 t44 := (Op.move (Operand.tmp 14))
              refine opsF_on (d := 43) rfl rfl (show _ = (.bool (false) : Value) from rfl) (YieldsK.move (show _ = (vb : Value) from T13) ?_)    -- delta.go:106 t45 := (Op.move (Operand.tmp 13))
              refine opsF_on (d := 43) rfl rfl (show _ = (.bool (false) : Value) from rfl) (YieldsK.lenRB del10_ty22 (RB.of (hrb.keep hE) (show _ = (vb : Value) from rfl)) ?_)    -- delta.go:106 t46 := (Op.call { callee := (Callee.builtin Builtin.len), args := #[(Operand.tmp 45)], argTypes := #[22] })
              refine opsF_on (d := 43) rfl rfl (show _ = (.bool (false) : Value) from rfl) (YieldsK.eqI (a := ((p : Nat) : Int)) (b := ((B.length : Nat) : Int)) (show _ = (.int .i64 ((p : Nat) : Int) : Value) from rfl) (show _ = (.int .i64 ((B.length : Nat) : Int) : Value) from rfl) (k_gtr _ .i64 (p) (B.length)) ?_)    -- delta.go:106 t47 := (Op.binOp BinOp.gtr 3 (Operand.tmp 44) (Operand.tmp 46) 3)
              refine opsF_step rfl (YieldsK.pickF (show _ = (.bool (false) : Value) from rfl) (show _ = (.bool (false) : Value) from (congrArg Value.bool (decide_eq_false (hs2)))) ?_)    -- delta.go:106 t48 := (Op.pick (Operand.tmp 43) (Operand.const (Value.bool true)) (Operand.tmp 47))
              refine opsF_step rfl (YieldsK.move (show _ = (.bool (false) : Value) from rfl) ?_)    -- delta.go:106 t49 := (Op.move (Operand.tmp 48))
              refine opsF_on (d := 49) rfl rfl (show _ = (.bool (false) : Value) from rfl) (YieldsK.move (show _ = (.int .i64 (((x) / (2) : Nat) : Int) : Value) from T12) ?_)    -- delta.go:106 t50 := (Op.move (Operand.tmp 12))
              refine opsF_on (d := 49) rfl rfl (show _ = (.bool (false) : Value) from rfl) (YieldsK.move (show _ = (vb : Value) from T13) ?_)    -- delta.go:106 t51 := (Op.move (Operand.tmp 13))
              refine opsF_on (d := 49) rfl rfl (show _ = (.bool (false) : Value) from rfl) (YieldsK.lenRB del10_ty22 (RB.of (hrb.keep hE) (show _ = (vb : Value) from rfl)) ?_)    -- delta.go:106 t52 := (Op.call { callee := (Callee.builtin Builtin.len), args := #[(Operand.tmp 51)], argTypes := #[22] })
              refine opsF_on (d := 49) rfl rfl (show _ = (.bool (false) : Value) from rfl) (YieldsK.move (show _ = (.int .i64 ((p : Nat) : Int) : Value) from T14) ?_)    -- delta.go:106 t53 := (Op.move (Operand.tmp 14))
              refine opsF_on (d := 49) rfl rfl (show _ = (.bool (false) : Value) from rfl) (YieldsK.bin (xv := .int .i64 ((B.length : Nat) : Int)) (yv := .int .i64 ((p : Nat) : Int)) (show _ = (.int .i64 ((B.length : Nat) : Int) : Value) from rfl) (show _ = (.int .i64 ((p : Nat) : Int) : Value) from rfl) rfl (i64_sub _ (B.length) (p) (by omega) (by omega)) ?_)    -- delta.go:106 t54 := (Op.binOp BinOp.sub 3 (Operand.tmp 52) (Operand.tmp 53) 3)
              refine opsF_on (d := 49) rfl rfl (show _ = (.bool (false) : Value) from rfl) (YieldsK.eqI (a := (((x) / (2) : Nat) : Int)) (b := (((B.length) - (p) : Nat) : Int)) (show _ = (.int .i64 (((x) / (2) : Nat) : Int) : Value) from rfl) (show _ = (.int .i64 (((B.length) - (p) : Nat) : Int) : Value) from rfl) (k_gtr _ .i64 ((x) / (2)) ((B.length) - (p))) ?_)    -- delta.go:106 t55 := (Op.binOp BinOp.gtr 3 (Operand.tmp 50) (Operand.tmp 54) 3)
              refine opsF_step rfl (YieldsK.pickF (show _ = (.bool (false) : Value) from rfl) (show _ = (.bool (true) : Value) from (congrArg Value.bool (decide_eq_true (hs3)))) ?_)    -- delta.go:106 t56 := (Op.pick (Operand.tmp 49) (Operand.const (Value.bool true)) (Operand.tmp 55))
              refine opsF_end (fun ρ => ρ 0 = (vb : Value) ∧ ρ 1 = (v : Value) ∧ ρ 2 = (.int .i64 ((i : Nat) : Int) : Value) ∧ ρ 6 = ((Value.slice none 0 0) : Value) ∧ ρ 7 = (.int .i64 ((0 : Nat) : Int) : Value) ∧ ρ 8 = (.bool (false) : Value) ∧ ρ 9 = (.int .i64 ((x : Nat) : Int) : Value) ∧ ρ 10 = (.int .i64 ((((i) + k) + m : Nat) : Int) : Value) ∧ ρ 11 = (.int .i64 ((0 : Nat) : Int) : Value) ∧ ρ 12 = (.int .i64 (((x) / (2) : Nat) : Int) : Value) ∧ ρ 13 = (vb : Value) ∧ ρ 14 = (.int .i64 ((p : Nat) : Int) : Value) ∧ ρ 23 = (.bool (false) : Value) ∧ ρ 39 = (.bool (false) : Value) ∧ ρ 56 = (.bool (true) : Value) ∧ True) ⟨T0, T1, T2, T6, T7, T8, T9, T10, T11, T12, T13, T14, T23, T39, rfl, trivial⟩ fun ρ55 ⟨T0, T1, T2, T6, T7, T8, T9, T10, T11, T12, T13, T14, T23, T39, T56, _⟩ => ?_
              refine thenF_normal (hK54 _ _ ?_)
              refine wpF_true (show _ = (.bool (true) : Value) from T56) ?_
              refine wpF_seq_k fun K56 hK56 => ?_
              refine wpF_text ?_
              refine opsF_step rfl (YieldsK.assign (show _ = ((Value.slice none 0 0) : Value) from rfl) ?_)    -- delta.go:107 t6 := (Op.assign (Operand.const (Value.slice none 0 0)))
              refine opsF_step rfl (YieldsK.assign (show _ = (.int .i64 ((0 : Nat) : Int) : Value) from rfl) ?_)    -- delta.go:107 t7 := (Op.assign (Operand.const (Value.int IntKind.i64 0)))
              refine opsF_step rfl (YieldsK.assign (show _ = (.bool (false) : Value) from rfl) ?_)    -- delta.go:107 t8 := (Op.assign (Operand.const (Value.bool false)))
              refine opsF_end (fun ρ => ρ 0 = (vb : Value) ∧ ρ 1 = (v : Value) ∧ ρ 2 = (.int .i64 ((i : Nat) : Int) : Value) ∧ ρ 6 = ((Value.slice none 0 0) : Value) ∧ ρ 7 = (.int .i64 ((0 : Nat) : Int) : Value) ∧ ρ 8 = (.bool (false) : Value) ∧ ρ 9 = (.int .i64 ((x : Nat) : Int) : Value) ∧ ρ 10 = (.int .i64 ((((i) + k) + m : Nat) : Int) : Value) ∧ ρ 11 = (.int .i64 ((0 : Nat) : Int) : Value) ∧ ρ 12 = (.int .i64 (((x) / (2) : Nat) : Int) : Value) ∧ ρ 13 = (vb : Value) ∧ ρ 14 = (.int .i64 ((p : Nat) : Int) : Value) ∧ ρ 23 = (.bool (false) : Value) ∧ ρ 39 = (.bool (false) : Value) ∧ ρ 56 = (.bool (true) : Value) ∧ True) ⟨T0, T1, T2, rfl, rfl, rfl, T9, T10, T11, T12, T13, T14, T23, T39, T56, trivial⟩ fun ρ57 ⟨T0, T1, T2, T6, T7, T8, T9, T10, T11, T12, T13, T14, T23, T39, T56, _⟩ => ?_
              refine thenF_normal (hK56 _ _ ?_)
              refine wpF_ret (thenF_ret ?_)
              refine postF_ret (fn := Try.f24) _ rfl [(Value.slice none 0 0), .int .i64 ((0 : Nat) : Int), .bool (false)] (.tuple #[(Value.slice none 0 0), .int .i64 ((0 : Nat) : Int), .bool (false)]) rfl ⟨T6, T7, T8, trivial⟩ ?_
              rw [pieceP, hgx]; simp only
              rw [if_pos hodd, hgp]; simp only
              rw [cutP, if_pos (by omega)]
              refine ⟨?_, hE⟩
              first | rfl | trivial
            · refine thenF_normal (hK23 _ _ ?_)
              refine wpF_seq_k fun K58 hK58 => ?_
              refine wpF_seq_k fun K59 hK59 => ?_
              refine wpF_text ?_
              refine opsF_step rfl (YieldsK.move (show _ = (.int .i64 (((x) / (2) : Nat) : Int) : Value) from T12) ?_)    -- delta.go:106 t41 := (Op.move (Operand.tmp 12))
              refine opsF_step rfl (YieldsK.eqI (a := (((x) / (2) : Nat) : Int)) (b := ((1 : Nat) : Int)) (show _ = (.int .i64 (((x) / (2) : Nat) : Int) : Value) from rfl) (show _ = (.int .i64 ((1 : Nat) : Int) : Value) from rfl) (k_lss _ .i64 ((x) / (2)) (1)) ?_)    -- delta.go:106 t42 := (Op.binOp BinOp.lss 3 (Operand.tmp 41) (Operand.const (Value.int IntKind.i64 1)) 3)
              refine opsF_step rfl (YieldsK.move (show _ = (.bool (false) : Value) from (congrArg Value.bool (decide_eq_false (hs1)))) ?_)    -- delta.go:106 t43 := (Op.move (Operand.tmp 42))
              refine opsF_on (d := 43) rfl rfl (show _ = (.bool (false) : Value) from rfl) (YieldsK.move (show _ = (.int .i64 ((p : Nat) : Int) : Value) from T14) ?_)    -- delta.go:106 t44 := (Op.move (Operand.tmp 14))
              refine opsF_on (d := 43) rfl rfl (show _ = (.bool (false) : Value) from rfl) (YieldsK.move (show _ = (vb : Value) from T13) ?_)    -- delta.go:106 t45 := (Op.move (Operand.tmp 13))
              refine opsF_on (d := 43) rfl rfl (show _ = (.bool (false) : Value) from rfl) (YieldsK.lenRB del10_ty22 (RB.of (hrb.keep hE) (show _ = (vb : Value) from rfl)) ?_)    -- delta.go:106 t46 := (Op.call { callee := (Callee.builtin Builtin.len), args := #[(Operand.tmp 45)], argTypes := #[22] })
              refine opsF_on (d := 43) rfl rfl (show _ = (.bool (false) : Value) from rfl) (YieldsK.eqI (a := ((p : Nat) : Int)) (b := ((B.length : Nat) : Int)) (show _ = (.int .i64 ((p : Nat) : Int) : Value) from rfl) (show _ = (.int .i64 ((B.length : Nat) : Int) : Value) from rfl) (k_gtr _ .i64 (p) (B.length)) ?_)    -- delta.go:106 t47 := (Op.binOp BinOp.gtr 3 (Operand.tmp 44) (Operand.tmp 46) 3)
              refine opsF_step rfl (YieldsK.pickF (show _ = (.bool (false) : Value) from rfl) (show _ = (.bool (false) : Value) from (congrArg Value.bool (decide_eq_false (hs2)))) ?_)    -- delta.go:106 t48 := (Op.pick (Operand.tmp 43) (Operand.const (Value.bool true)) (Operand.tmp 47))
              refine opsF_step rfl (YieldsK.move (show _ = (.bool (false) : Value) from rfl) ?_)    -- delta.go:106 t49 := (Op.move (Operand.tmp 48))
              refine opsF_on (d := 49) rfl rfl (show _ = (.bool (false) : Value) from rfl) (YieldsK.move (show _ = (.int .i64 (((x) / (2) : Nat) : Int) : Value) from T12) ?_)    -- delta.go:106 t50 := (Op.move (Operand.tmp 12))
              refine opsF_on (d := 49) rfl rfl (show _ = (.bool (false) : Value) from rfl) (YieldsK.move (show _ = (vb : Value) from T13) ?_)    -- delta.go:106 t51 := (Op.move (Operand.tmp 13))
              refine opsF_on (d := 49) rfl rfl (show _ = (.bool (false) : Value) from rfl) (YieldsK.lenRB del10_ty22 (RB.of (hrb.keep hE) (show _ = (vb : Value) from rfl)) ?_)    -- delta.go:106 t52 := (Op.call { callee := (Callee.builtin Builtin.len), args := #[(Operand.tmp 51)], argTypes := #[22] })
              refine opsF_on (d := 49) rfl rfl (show _ = (.bool (false) : Value) from rfl) (YieldsK.move (show _ = (.int .i64 ((p : Nat) : Int) : Value) from T14) ?_)    -- delta.go:106 t53 := (Op.move (Operand.tmp 14))
              refine opsF_on (d := 49) rfl rfl (show _ = (.bool (false) : Value) from rfl) (YieldsK.bin (xv := .int .i64 ((B.length : Nat) : Int)) (yv := .int .i64 ((p : Nat) : Int)) (show _ = (.int .i64 ((B.length : Nat) : Int) : Value) from rfl) (show _ = (.int .i64 ((p : Nat) : Int) : Value) from rfl) rfl (i64_sub _ (B.length) (p) (by omega) (by omega)) ?_)    -- delta.go:106 t54 := (Op.binOp BinOp.sub 3 (Operand.tmp 52) (Operand.tmp 53) 3)
              refine opsF_on (d := 49) rfl rfl (show _ = (.bool (false) : Value) from rfl) (YieldsK.eqI (a := (((x) / (2) : Nat) : Int)) (b := (((B.length) - (p) : Nat) : Int)) (show _ = (.int .i64 (((x) / (2) : Nat) : Int) : Value) from rfl) (show _ = (.int .i64 (((B.length) - (p) : Nat) : Int) : Value) from rfl) (k_gtr _ .i64 ((x) / (2)) ((B.length) - (p))) ?_)    -- delta.go:106 t55 := (Op.binOp BinOp.gtr 3 (Operand.tmp 50) (Operand.tmp 54) 3)
              refine opsF_step rfl (YieldsK.pickF (show _ = (.bool (false) : Value) from rfl) (show _ = (.bool (false) : Value) from (congrArg Value.bool (decide_eq_false (hs3)))) ?_)    -- delta.go:106 t56 := (Op.pick (Operand.tmp 49) (Operand.const (Value.bool true)) (Operand.tmp 55))
              refine opsF_end (fun ρ => ρ 0 = (vb : Value) ∧ ρ 1 = (v : Value) ∧ ρ 2 = (.int .i64 ((i : Nat) : Int) : Value) ∧ ρ 6 = ((Value.slice none 0 0) : Value) ∧ ρ 7 = (.int .i64 ((0 : Nat) : Int) : Value) ∧ ρ 8 = (.bool (false) : Value) ∧ ρ 9 = (.int .i64 ((x : Nat) : Int) : Value) ∧ ρ 10 = (.int .i64 ((((i) + k) + m : Nat) : Int) : Value) ∧ ρ 11 = (.int .i64 ((0 : Nat) : Int) : Value) ∧ ρ 12 = (.int .i64 (((x) / (2) : Nat) : Int) : Value) ∧ ρ 13 = (vb : Value) ∧ ρ 14 = (.int .i64 ((p : Nat) : Int) : Value) ∧ ρ 23 = (.bool (false) : Value) ∧ ρ 39 = (.bool (false) : Value) ∧ ρ 56 = (.bool (false) : Value) ∧ True) ⟨T0, T1, T2, T6, T7, T8, T9, T10, T11, T12, T13, T14, T23, T39, rfl, trivial⟩ fun ρ60 ⟨T0, T1, T2, T6, T7, T8, T9, T10, T11, T12, T13, T14, T23, T39, T56, _⟩ => ?_
              refine thenF_normal (hK59 _ _ ?_)
              refine wpF_false (show _ = (.bool (false) : Value) from T56) ?_
              refine wpF_skip ?_
              refine thenF_normal (hK58 _ _ ?_)
              refine wpF_seq_k fun K61 hK61 => ?_
              refine wpF_seq_k fun K62 hK62 => ?_
              refine wpF_text ?_
              refine opsF_step rfl (YieldsK.move (show _ = (.int .i64 ((x : Nat) : Int) : Value) from T9) ?_)    -- delta.go:109 t57 := (Op.move (Operand.tmp 9))
              refine opsF_step rfl (YieldsK.bin (xv := .int .i64 ((x : Nat) : Int)) (yv := .int .i64 ((2 : Nat) : Int)) (show _ = (.int .i64 ((x : Nat) : Int) : Value) from rfl) (show _ = (.int .i64 ((2 : Nat) : Int) : Value) from rfl) rfl (i64_rem _ (x) (2) (by omega)) ?_)    -- delta.go:109 t58 := (Op.binOp BinOp.rem 3 (Operand.tmp 57) (Operand.const (Value.int IntKind.i64 2)) 3)
              refine opsF_step rfl (YieldsK.eqI (a := (((x) % (2) : Nat) : Int)) (b := ((0 : Nat) : Int)) (show _ = (.int .i64 (((x) % (2) : Nat) : Int) : Value) from rfl) (show _ = (.int .i64 ((0 : Nat) : Int) : Value) from rfl) (k_eql _ .i64 ((x) % (2)) (0)) ?_)    -- delta.go:109 t59 := (Op.binOp BinOp.eql 3 (Operand.tmp 58) (Operand.const (Value.int IntKind.i64 0)) 3)
              refine opsF_end (fun ρ => ρ 0 = (vb : Value) ∧ ρ 1 = (v : Value) ∧ ρ 2 = (.int .i64 ((i : Nat) : Int) : Value) ∧ ρ 6 = ((Value.slice none 0 0) : Value) ∧ ρ 7 = (.int .i64 ((0 : Nat) : Int) : Value) ∧ ρ 8 = (.bool (false) : Value) ∧ ρ 9 = (.int .i64 ((x : Nat) : Int) : Value) ∧ ρ 10 = (.int .i64 ((((i) + k) + m : Nat) : Int) : Value) ∧ ρ 11 = (.int .i64 ((0 : Nat) : Int) : Value) ∧ ρ 12 = (.int .i64 (((x) / (2) : Nat) : Int) : Value) ∧ ρ 13 = (vb : Value) ∧ ρ 14 = (.int .i64 ((p : Nat) : Int) : Value) ∧ ρ 23 = (.bool (false) : Value) ∧ ρ 39 = (.bool (false) : Value) ∧ ρ 56 = (.bool (false) : Value) ∧ ρ 59 = (.bool (false) : Value) ∧ True) ⟨T0, T1, T2, T6, T7, T8, T9, T10, T11, T12, T13, T14, T23, T39, T56, (congrArg Value.bool (decide_eq_false (by omega))), trivial⟩ fun ρ63 ⟨T0, T1, T2, T6, T7, T8, T9, T10, T11, T12, T13, T14, T23, T39, T56, T59, _⟩ => ?_
              refine thenF_normal (hK62 _ _ ?_)
              refine wpF_false (show _ = (.bool (false) : Value) from T59) ?_
              refine wpF_skip ?_
              refine thenF_normal (hK61 _ _ ?_)
              refine wpF_seq_k fun K64 hK64 => ?_
              refine wpF_text ?_
              refine opsF_step rfl (YieldsK.move (show _ = (vb : Value) from T13) ?_)    -- delta.go:112 t63 := (Op.move (Operand.tmp 13))
              refine opsF_step rfl (YieldsK.move (show _ = (.int .i64 ((p : Nat) : Int) : Value) from T14) ?_)    -- delta.go:112 t64 := (Op.move (Operand.tmp 14))
              refine opsF_step rfl (YieldsK.move (show _ = (.int .i64 ((p : Nat) : Int) : Value) from T14) ?_)    -- delta.go:112 t65 := (Op.move (Operand.tmp 14))
              refine opsF_step rfl (YieldsK.move (show _ = (.int .i64 (((x) / (2) : Nat) : Int) : Value) from T12) ?_)    -- delta.go:112 t66 := (Op.move (Operand.tmp 12))
              refine opsF_step rfl (YieldsK.bin (xv := .int .i64 ((p : Nat) : Int)) (yv := .int .i64 (((x) / (2) : Nat) : Int)) (show _ = (.int .i64 ((p : Nat) : Int) : Value) from rfl) (show _ = (.int .i64 (((x) / (2) : Nat) : Int) : Value) from rfl) rfl (i64_add _ (p) ((x) / (2)) (by omega)) ?_)    -- delta.go:112 t67 := (Op.binOp BinOp.add 3 (Operand.tmp 65) (Operand.tmp 66) 3)
              refine opsF_step rfl (YieldsK.sliceLH (xs := B) (l := p) (n := (p) + ((x) / (2))) del10_ty22 del10_sz5 (show _ = (vb : Value) from rfl) (hrb.keep hE) (show _ = (.int .i64 ((p : Nat) : Int) : Value) from rfl) (show _ = (.int .i64 (((p) + ((x) / (2)) : Nat) : Int) : Value) from rfl) (by omega) (by omega) fun v65 hr66 ha67 => ?_)    -- delta.go:112 t68 := (Op.slice 22 (Operand.tmp 63) (some (Operand.tmp 64)) (some (Operand.tmp 67)) none)
              refine opsF_step rfl (YieldsK.move (show _ = (.int .i64 ((((i) + k) + m : Nat) : Int) : Value) from T10) ?_)    -- delta.go:112 t69 := (Op.move (Operand.tmp 10))
              refine opsF_step rfl (YieldsK.assign (show _ = (v65 : Value) from rfl) ?_)    -- delta.go:112 t6 := (Op.assign (Operand.tmp 68))
              refine opsF_step rfl (YieldsK.assign (show _ = (.int .i64 ((((i) + k) + m : Nat) : Int) : Value) from rfl) ?_)    -- delta.go:112 t7 := (Op.assign (Operand.tmp 69))
              refine opsF_step rfl (YieldsK.assign (show _ = (.bool (true) : Value) from rfl) ?_)    -- delta.go:112 t8 := (Op.assign (Operand.const (Value.bool true)))
              refine opsF_end (fun ρ => ρ 0 = (vb : Value) ∧ ρ 1 = (v : Value) ∧ ρ 2 = (.int .i64 ((i : Nat) : Int) : Value) ∧ ρ 6 = (v65 : Value) ∧ ρ 7 = (.int .i64 ((((i) + k) + m : Nat) : Int) : Value) ∧ ρ 8 = (.bool (true) : Value) ∧ ρ 9 = (.int .i64 ((x : Nat) : Int) : Value) ∧ ρ 10 = (.int .i64 ((((i) + k) + m : Nat) : Int) : Value) ∧ ρ 11 = (.int .i64 ((0 : Nat) : Int) : Value) ∧ ρ 12 = (.int .i64 (((x) / (2) : Nat) : Int) : Value) ∧ ρ 13 = (vb : Value) ∧ ρ 14 = (.int .i64 ((p : Nat) : Int) : Value) ∧ ρ 23 = (.bool (false) : Value) ∧ ρ 39 = (.bool (false) : Value) ∧ ρ 56 = (.bool (false) : Value) ∧ ρ 59 = (.bool (false) : Value) ∧ True) ⟨T0, T1, T2, rfl, rfl, rfl, T9, T10, T11, T12, T13, T14, T23, T39, T56, T59, trivial⟩ fun ρ68 ⟨T0, T1, T2, T6, T7, T8, T9, T10, T11, T12, T13, T14, T23, T39, T56, T59, _⟩ => ?_
              refine thenF_normal (hK64 _ _ ?_)
              refine wpF_ret ?_
              refine postF_ret (fn := Try.f24) _ rfl [v65, .int .i64 ((((i) + k) + m : Nat) : Int), .bool (true)] (.tuple #[v65, .int .i64 ((((i) + k) + m : Nat) : Int), .bool (true)]) rfl ⟨T6, T7, T8, trivial⟩ ?_
              rw [pieceP, hgx]; simp only
              rw [if_pos hodd, hgp]; simp only
              rw [cutP, if_neg (by omega)]
              refine ⟨⟨_, rfl, ?_⟩, hE⟩
              simpa only [Nat.add_sub_cancel_left] using hr66
    · by_cases hs1 : x / 2 < 1
      · refine wpF_skip ?_
        refine thenF_normal (hK23 _ _ ?_)
        refine wpF_seq_k fun K69 hK69 => ?_
        refine wpF_seq_k fun K70 hK70 => ?_
        refine wpF_text ?_
        refine opsF_step rfl (YieldsK.move (show _ = (.int .i64 (((x) / (2) : Nat) : Int) : Value) from T12) ?_)    -- delta.go:106 t41 := (Op.move (Operand.tmp 12))
        refine opsF_step rfl (YieldsK.eqI (a := (((x) / (2) : Nat) : Int)) (b := ((1 : Nat) : Int)) (show _ = (.int .i64 (((x) / (2) : Nat) : Int) : Value) from rfl) (show _ = (.int .i64 ((1 : Nat) : Int) : Value) from rfl) (k_lss _ .i64 ((x) / (2)) (1)) ?_)    -- delta.go:106 t42 := (Op.binOp BinOp.lss 3 (Operand.tmp 41) (Operand.const (Value.int IntKind.i64 1)) 3)
        refine opsF_step rfl (YieldsK.move (show _ = (.bool (true) : Value) from (congrArg Value.bool (decide_eq_true (hs1)))) ?_)    -- delta.go:106 t43 := (Op.move (Operand.tmp 42))
        refine opsF_off (d := 43) rfl rfl rfl (show _ = (.bool (true) : Value) from rfl) rfl ?_    -- delta.go:106 t44 := (Op.move (Operand.tmp 14))
        refine opsF_off (d := 43) rfl rfl rfl (show _ = (.bool (true) : Value) from rfl) rfl ?_    -- delta.go:106 t45 := (Op.move (Operand.tmp 13))
        refine opsF_off (d := 43) rfl rfl rfl (show _ = (.bool (true) : Value) from rfl) rfl ?_    -- delta.go:106 t46 := (Op.call { callee := (Callee.builtin Builtin.len), args := #[(Operand.tmp 45)], argTypes := #[22] })
        refine opsF_off (d := 43) rfl rfl rfl (show _ = (.bool (true) : Value) from rfl) rfl ?_    -- delta.go:106 t47 := (Op.binOp BinOp.gtr 3 (Operand.tmp 44) (Operand.tmp 46) 3)
        refine opsF_step rfl (YieldsK.pickT (show _ = (.bool (true) : Value) from rfl) (show _ = (.bool (true) : Value) from rfl) ?_)    -- delta.go:106 t48 := (Op.pick (Operand.tmp 43) (Operand.const (Value.bool true)) (Operand.tmp 47))
        refine opsF_step rfl (YieldsK.move (show _ = (.bool (true) : Value) from rfl) ?_)    -- delta.go:106 t49 := (Op.move (Operand.tmp 48))
        refine opsF_off (d := 49) rfl rfl rfl (show _ = (.bool (true) : Value) from rfl) rfl ?_    -- delta.go:106 t50 := (Op.move (Operand.tmp 12))
        refine opsF_off (d := 49) rfl rfl rfl (show _ = (.bool (true) : Value) from rfl) rfl ?_    -- delta.go:106 t51 := (Op.move (Operand.tmp 13))
        refine opsF_off (d := 49) rfl rfl rfl (show _ = (.bool (true) : Value) from rfl) rfl ?_    -- delta.go:106 t52 := (Op.call { callee := (Callee.builtin Builtin.len), args := #[(Operand.tmp 51)], argTypes := #[22] })
        refine opsF_off (d := 49) rfl rfl rfl (show _ = (.bool (true) : Value) from rfl) rfl ?_    -- delta.go:106 t53 := (Op.move (Operand.tmp 14))
        refine opsF_off (d := 49) rfl rfl rfl (show _ = (.bool (true) : Value) from rfl) rfl ?_    -- delta.go:106 t54 := (Op.binOp BinOp.sub 3 (Operand.tmp 52) (Operand.tmp 53) 3)
        refine opsF_off (d := 49) rfl rfl rfl (show _ = (.bool (true) : Value) from rfl) rfl ?_    -- delta.go:106 t55 := (Op.binOp BinOp.gtr 3 (Operand.tmp 50) (Operand.tmp 54) 3)
        refine opsF_step rfl (YieldsK.pickT (show _ = (.bool (true) : Value) from rfl) (show _ = (.bool (true) : Value) from rfl) ?_)    -- delta.go:106 t56 := (Op.pick (Operand.tmp 49) (Operand.const (Value.bool true)) (Operand.tmp 55))
        refine opsF_end (fun ρ => ρ 0 = (vb : Value) ∧ ρ 1 = (v : Value) ∧ ρ 2 = (.int .i64 ((i : Nat) : Int) : Value) ∧ ρ 6 = ((Value.slice none 0 0) : Value) ∧ ρ 7 = (.int .i64 ((0 : Nat) : Int) : Value) ∧ ρ 8 = (.bool (false) : Value) ∧ ρ 9 = (.int .i64 ((x : Nat) : Int) : Value) ∧ ρ 10 = (.int .i64 (((i) + k : Nat) : Int) : Value) ∧ ρ 11 = (.int .i64 ((0 : Nat) : Int) : Value) ∧ ρ 12 = (.int .i64 (((x) / (2) : Nat) : Int) : Value) ∧ ρ 13 = (v : Value) ∧ ρ 14 = (.int .i64 (((i) + k : Nat) : Int) : Value) ∧ ρ 23 = (.bool (false) : Value) ∧ ρ 56 = (.bool (true) : Value) ∧ True) ⟨T0, T1, T2, T6, T7, T8, T9, T10, T11, T12, T13, T14, T23, rfl, trivial⟩ fun ρ71 ⟨T0, T1, T2, T6, T7, T8, T9, T10, T11, T12, T13, T14, T23, T56, _⟩ => ?_
        refine thenF_normal (hK70 _ _ ?_)
        refine wpF_true (show _ = (.bool (true) : Value) from T56) ?_
        refine wpF_seq_k fun K72 hK72 => ?_
        refine wpF_text ?_
        refine opsF_step rfl (YieldsK.assign (show _ = ((Value.slice none 0 0) : Value) from rfl) ?_)    -- delta.go:107 t6 := (Op.assign (Operand.const (Value.slice none 0 0)))
        refine opsF_step rfl (YieldsK.assign (show _ = (.int .i64 ((0 : Nat) : Int) : Value) from rfl) ?_)    -- delta.go:107 t7 := (Op.assign (Operand.const (Value.int IntKind.i64 0)))
        refine opsF_step rfl (YieldsK.assign (show _ = (.bool (false) : Value) from rfl) ?_)    -- delta.go:107 t8 := (Op.assign (Operand.const (Value.bool false)))
        refine opsF_end (fun ρ => ρ 0 = (vb : Value) ∧ ρ 1 = (v : Value) ∧ ρ 2 = (.int .i64 ((i : Nat) : Int) : Value) ∧ ρ 6 = ((Value.slice none 0 0) : Value) ∧ ρ 7 = (.int .i64 ((0 : Nat) : Int) : Value) ∧ ρ 8 = (.bool (false) : Value) ∧ ρ 9 = (.int .i64 ((x : Nat) : Int) : Value) ∧ ρ 10 = (.int .i64 (((i) + k : Nat) : Int) : Value) ∧ ρ 11 = (.int .i64 ((0 : Nat) : Int) : Value) ∧ ρ 12 = (.int .i64 (((x) / (2) : Nat) : Int) : Value) ∧ ρ 13 = (v : Value) ∧ ρ 14 = (.int .i64 (((i) + k : Nat) : Int) : Value) ∧ ρ 23 = (.bool (false) : Value) ∧ ρ 56 = (.bool (true) : Value) ∧ True) ⟨T0, T1, T2, rfl, rfl, rfl, T9, T10, T11, T12, T13, T14, T23, T56, trivial⟩ fun ρ73 ⟨T0, T1, T2, T6, T7, T8, T9, T10, T11, T12, T13, T14, T23, T56, _⟩ => ?_
        refine thenF_normal (hK72 _ _ ?_)
        refine wpF_ret (thenF_ret ?_)
        refine postF_ret (fn := Try.f24) _ rfl [(Value.slice none 0 0), .int .i64 ((0 : Nat) : Int), .bool (false)] (.tuple #[(Value.slice none 0 0), .int .i64 ((0 : Nat) : Int), .bool (false)]) rfl ⟨T6, T7, T8, trivial⟩ ?_
        rw [pieceP, hgx]; simp only
        rw [if_neg hodd]
        rw [cutP, if_pos (by omega)]
        refine ⟨?_, hE⟩
        first | rfl | trivial
      · by_cases hs2 : D.length < i + k
        · refine wpF_skip ?_
          refine thenF_normal (hK23 _ _ ?_)
          refine wpF_seq_k fun K74 hK74 => ?_
          refine wpF_seq_k fun K75 hK75 => ?_
          refine wpF_text ?_
          refine opsF_step rfl (YieldsK.move (show _ = (.int .i64 (((x) / (2) : Nat) : Int) : Value) from T12) ?_)    -- delta.go:106 t41 := (Op.move (Operand.tmp 12))
          refine opsF_step rfl (YieldsK.eqI (a := (((x) / (2) : Nat) : Int)) (b := ((1 : Nat) : Int)) (show _ = (.int .i64 (((x) / (2) : Nat) : Int) : Value) from rfl) (show _ = (.int .i64 ((1 : Nat) : Int) : Value) from rfl) (k_lss _ .i64 ((x) / (2)) (1)) ?_)    -- delta.go:106 t42 := (Op.binOp BinOp.lss 3 (Operand.tmp 41) (Operand.const (Value.int IntKind.i64 1)) 3)
          refine opsF_step rfl (YieldsK.move (show _ = (.bool (false) : Value) from (congrArg Value.bool (decide_eq_false (hs1)))) ?_)    -- delta.go:106 t43 := (Op.move (Operand.tmp 42))
          refine opsF_on (d := 43) rfl rfl (show _ = (.bool (false) : Value) from rfl) (YieldsK.move (show _ = (.int .i64 (((i) + k : Nat) : Int) : Value) from T14) ?_)    -- delta.go:106 t44 := (Op.move (Operand.tmp 14))
          refine opsF_on (d := 43) rfl rfl (show _ = (.bool (false) : Value) from rfl) (YieldsK.move (show _ = (v : Value) from T13) ?_)    -- delta.go:106 t45 := (Op.move (Operand.tmp 13))
          refine opsF_on (d := 43) rfl rfl (show _ = (.bool (false) : Value) from rfl) (YieldsK.lenRB del10_ty22 (RB.of (hr.keep hE) (show _ = (v : Value) from rfl)) ?_)    -- delta.go:106 t46 := (Op.call { callee := (Callee.builtin Builtin.len), args := #[(Operand.tmp 45)], argTypes := #[22] })
          refine opsF_on (d := 43) rfl rfl (show _ = (.bool (false) : Value) from rfl) (YieldsK.eqI (a := (((i) + k : Nat) : Int)) (b := ((D.length : Nat) : Int)) (show _ = (.int .i64 (((i) + k : Nat) : Int) : Value) from rfl) (show _ = (.int .i64 ((D.length : Nat) : Int) : Value) from rfl) (k_gtr _ .i64 ((i) + k) (D.length)) ?_)    -- delta.go:106 t47 := (Op.binOp BinOp.gtr 3 (Operand.tmp 44) (Operand.tmp 46) 3)
          refine opsF_step rfl (YieldsK.pickF (show _ = (.bool (false) : Value) from rfl) (show _ = (.bool (true) : Value) from (congrArg Value.bool (decide_eq_true (hs2)))) ?_)    -- delta.go:106 t48 := (Op.pick (Operand.tmp 43) (Operand.const (Value.bool true)) (Operand.tmp 47))
          refine opsF_step rfl (YieldsK.move (show _ = (.bool (true) : Value) from rfl) ?_)    -- delta.go:106 t49 := (Op.move (Operand.tmp 48))
          refine opsF_off (d := 49) rfl rfl rfl (show _ = (.bool (true) : Value) from rfl) rfl ?_    -- delta.go:106 t50 := (Op.move (Operand.tmp 12))
          refine opsF_off (d := 49) rfl rfl rfl (show _ = (.bool (true) : Value) from rfl) rfl ?_    -- delta.go:106 t51 := (Op.move (Operand.tmp 13))
          refine opsF_off (d := 49) rfl rfl rfl (show _ = (.bool (true) : Value) from rfl) rfl ?_    -- delta.go:106 t52 := (Op.call { callee := (Callee.builtin Builtin.len), args := #[(Operand.tmp 51)], argTypes := #[22] })
          refine opsF_off (d := 49) rfl rfl rfl (show _ = (.bool (true) : Value) from rfl) rfl ?_    -- delta.go:106 t53 := (Op.move (Operand.tmp 14))
          refine opsF_off (d := 49) rfl rfl rfl (show _ = (.bool (true) : Value) from rfl) rfl ?_    -- delta.go:106 t54 := (Op.binOp BinOp.sub 3 (Operand.tmp 52) (Operand.tmp 53) 3)
          refine opsF_off (d := 49) rfl rfl rfl (show _ = (.bool (true) : Value) from rfl) rfl ?_    -- delta.go:106 t55 := (Op.binOp BinOp.gtr 3 (Operand.tmp 50) (Operand.tmp 54) 3)
          refine opsF_step rfl (YieldsK.pickT (show _ = (.bool (true) : Value) from rfl) (show _ = (.bool (true) : Value) from rfl) ?_)    -- delta.go:106 t56 := (Op.pick (Operand.tmp 49) (Operand.const (Value.bool true)) (Operand.tmp 55))
          refine opsF_end (fun ρ => ρ 0 = (vb : Value) ∧ ρ 1 = (v : Value) ∧ ρ 2 = (.int .i64 ((i : Nat) : Int) : Value) ∧ ρ 6 = ((Value.slice none 0 0) : Value) ∧ ρ 7 = (.int .i64 ((0 : Nat) : Int) : Value) ∧ ρ 8 = (.bool (false) : Value) ∧ ρ 9 = (.int .i64 ((x : Nat) : Int) : Value) ∧ ρ 10 = (.int .i64 (((i) + k : Nat) : Int) : Value) ∧ ρ 11 = (.int .i64 ((0 : Nat) : Int) : Value) ∧ ρ 12 = (.int .i64 (((x) / (2) : Nat) : Int) : Value) ∧ ρ 13 = (v : Value) ∧ ρ 14 = (.int .i64 (((i) + k : Nat) : Int) : Value) ∧ ρ 23 = (.bool (false) : Value) ∧ ρ 56 = (.bool (true) : Value) ∧ True) ⟨T0, T1, T2, T6, T7, T8, T9, T10, T11, T12, T13, T14, T23, rfl, trivial⟩ fun ρ76 ⟨T0, T1, T2, T6, T7, T8, T9, T10, T11, T12, T13, T14, T23, T56, _⟩ => ?_
          refine thenF_normal (hK75 _ _ ?_)
          refine wpF_true (show _ = (.bool (true) : Value) from T56) ?_
          refine wpF_seq_k fun K77 hK77 => ?_
          refine wpF_text ?_
          refine opsF_step rfl (YieldsK.assign (show _ = ((Value.slice none 0 0) : Value) from rfl) ?_)    -- delta.go:107 t6 := (Op.assign (Operand.const (Value.slice none 0 0)))
          refine opsF_step rfl (YieldsK.assign (show _ = (.int .i64 ((0 : Nat) : Int) : Value) from rfl) ?_)    -- delta.go:107 t7 := (Op.assign (Operand.const (Value.int IntKind.i64 0)))
          refine opsF_step rfl (YieldsK.assign (show _ = (.bool (false) : Value) from rfl) ?_)    -- delta.go:107 t8 := (Op.assign (Operand.const (Value.bool false)))
          refine opsF_end (fun ρ => ρ 0 = (vb : Value) ∧ ρ 1 = (v : Value) ∧ ρ 2 = (.int .i64 ((i : Nat) : Int) : Value) ∧ ρ 6 = ((Value.slice none 0 0) : Value) ∧ ρ 7 = (.int .i64 ((0 : Nat) : Int) : Value) ∧ ρ 8 = (.bool (false) : Value) ∧ ρ 9 = (.int .i64 ((x : Nat) : Int) : Value) ∧ ρ 10 = (.int .i64 (((i) + k : Nat) : Int) : Value) ∧ ρ 11 = (.int .i64 ((0 : Nat) : Int) : Value) ∧ ρ 12 = (.int .i64 (((x) / (2) : Nat) : Int) : Value) ∧ ρ 13 = (v : Value) ∧ ρ 14 = (.int .i64 (((i) + k : Nat) : Int) : Value) ∧ ρ 23 = (.bool (false) : Value) ∧ ρ 56 = (.bool (true) : Value) ∧ True) ⟨T0, T1, T2, rfl, rfl, rfl, T9, T10, T11, T12, T13, T14, T23, T56, trivial⟩ fun ρ78 ⟨T0, T1, T2, T6, T7, T8, T9, T10, T11, T12, T13, T14, T23, T56, _⟩ => ?_
          refine thenF_normal (hK77 _ _ ?_)
          refine wpF_ret (thenF_ret ?_)
          refine postF_ret (fn := Try.f24) _ rfl [(Value.slice none 0 0), .int .i64 ((0 : Nat) : Int), .bool (false)] (.tuple #[(Value.slice none 0 0), .int .i64 ((0 : Nat) : Int), .bool (false)]) rfl ⟨T6, T7, T8, trivial⟩ ?_
          rw [pieceP, hgx]; simp only
          rw [if_neg hodd]
          rw [cutP, if_pos (by omega)]
          refine ⟨?_, hE⟩
          first | rfl | trivial
        · by_cases hs3 : D.length - (i + k) < x / 2
          · refine wpF_skip ?_
            refine thenF_normal (hK23 _ _ ?_)
            refine wpF_seq_k fun K79 hK79 => ?_
            refine wpF_seq_k fun K80 hK80 => ?_
            refine wpF_text ?_
            refine opsF_step rfl (YieldsK.move (show _ = (.int .i64 (((x) / (2) : Nat) : Int) : Value) from T12) ?_)    -- delta.go:106 t41 := (Op.move (Operand.tmp 12))
            refine opsF_step rfl (YieldsK.eqI (a := (((x) / (2) : Nat) : Int)) (b := ((1 : Nat) : Int)) (show _ = (.int .i64 (((x) / (2) : Nat) : Int) : Value) from rfl) (show _ = (.int .i64 ((1 : Nat) : Int) : Value) from rfl) (k_lss _ .i64 ((x) / (2)) (1)) ?_)    -- delta.go:106 t42 := (Op.binOp BinOp.lss 3 (Operand.tmp 41) (Operand.const (Value.int IntKind.i64 1)) 3)
            refine opsF_step rfl (YieldsK.move (show _ = (.bool (false) : Value) from (congrArg Value.bool (decide_eq_false (hs1)))) ?_)    -- delta.go:106 t43 := (Op.move (Operand.tmp 42))
            refine opsF_on (d := 43) rfl rfl (show _ = (.bool (false) : Value) from rfl) (YieldsK.move (show _ = (.int .i64 (((i) + k : Nat) : Int) : Value) from T14) ?_)    -- delta.go:106 t44 := (Op.move (Operand.tmp 14))
            refine opsF_on (d := 43) rfl rfl (show _ = (.bool (false) : Value) from rfl) (YieldsK.move (show _ = (v : Value) from T13) ?_)    -- delta.go:106 t45 := (Op.move (Operand.tmp 13))
            refine opsF_on (d := 43) rfl rfl (show _ = (.bool (false) : Value) from rfl) (YieldsK.lenRB del10_ty22 (RB.of (hr.keep hE) (show _ = (v : Value) from rfl)) ?_)    -- delta.go:106 t46 := (Op.call { callee := (Callee.builtin Builtin.len), args := #[(Operand.tmp 45)], argTypes := #[22] })
            refine opsF_on (d := 43) rfl rfl (show _ = (.bool (false) : Value) from rfl) (YieldsK.eqI (a := (((i) + k : Nat) : Int)) (b := ((D.length : Nat) : Int)) (show _ = (.int .i64 (((i) + k : Nat) : Int) : Value) from rfl) (show _ = (.int .i64 ((D.length : Nat) : Int) : Value) from rfl) (k_gtr _ .i64 ((i) + k) (D.length)) ?_)    -- delta.go:106 t47 := (Op.binOp BinOp.gtr 3 (Operand.tmp 44) (Operand.tmp 46) 3)
            refine opsF_step rfl (YieldsK.pickF (show _ = (.bool (false) : Value) from rfl) (show _ = (.bool (false) : Value) from (congrArg Value.bool (decide_eq_false (hs2)))) ?_)    -- delta.go:106 t48 := (Op.pick (Operand.tmp 43) (Operand.const (Value.bool true)) (Operand.tmp 47))
            refine opsF_step rfl (YieldsK.move (show _ = (.bool (false) : Value) from rfl) ?_)    -- delta.go:106 t49 := (Op.move (Operand.tmp 48))
            refine opsF_on (d := 49) rfl rfl (show _ = (.bool (false) : Value) from rfl) (YieldsK.move (show _ = (.int .i64 (((x) / (2) : Nat) : Int) : Value) from T12) ?_)    -- delta.go:106 t50 := (Op.move (Operand.tmp 12))
            refine opsF_on (d := 49) rfl rfl (show _ = (.bool (false) : Value) from rfl) (YieldsK.move (show _ = (v : Value) from T13) ?_)    -- delta.go:106 t51 := (Op.move (Operand.tmp 13))
            refine opsF_on (d := 49) rfl rfl (show _ = (.bool (false) : Value) from rfl) (YieldsK.lenRB del10_ty22 (RB.of (hr.keep hE) (show _ = (v : Value) from rfl)) ?_)    -- delta.go:106 t52 := (Op.call { callee := (Callee.builtin Builtin.len), args := #[(Operand.tmp 51)], argTypes := #[22] })
            refine opsF_on (d := 49) rfl rfl (show _ = (.bool (false) : Value) from rfl) (YieldsK.move (show _ = (.int .i64 (((i) + k : Nat) : Int) : Value) from T14) ?_)    -- delta.go:106 t53 := (Op.move (Operand.tmp 14))
            refine opsF_on (d := 49) rfl rfl (show _ = (.bool (false) : Value) from rfl) (YieldsK.bin (xv := .int .i64 ((D.length : Nat) : Int)) (yv := .int .i64 (((i) + k : Nat) : Int)) (show _ = (.int .i64 ((D.length : Nat) : Int) : Value) from rfl) (show _ = (.int .i64 (((i) + k : Nat) : Int) : Value) from rfl) rfl (i64_sub _ (D.length) ((i) + k) (by omega) (by omega)) ?_)    -- delta.go:106 t54 := (Op.binOp BinOp.sub 3 (Operand.tmp 52) (Operand.tmp 53) 3)
            refine opsF_on (d := 49) rfl rfl (show _ = (.bool (false) : Value) from rfl) (YieldsK.eqI (a := (((x) / (2) : Nat) : Int)) (b := (((D.length) - ((i) + k) : Nat) : Int)) (show _ = (.int .i64 (((x) / (2) : Nat) : Int) : Value) from rfl) (show _ = (.int .i64 (((D.length) - ((i) + k) : Nat) : Int) : Value) from rfl) (k_gtr _ .i64 ((x) / (2)) ((D.length) - ((i) + k))) ?_)    -- delta.go:106 t55 := (Op.binOp BinOp.gtr 3 (Operand.tmp 50) (Operand.tmp 54) 3)
            refine opsF_step rfl (YieldsK.pickF (show _ = (.bool (false) : Value) from rfl) (show _ = (.bool (true) : Value) from (congrArg Value.bool (decide_eq_true (hs3)))) ?_)    -- delta.go:106 t56 := (Op.pick (Operand.tmp 49) (Operand.const (Value.bool true)) (Operand.tmp 55))
            refine opsF_end (fun ρ => ρ 0 = (vb : Value) ∧ ρ 1 = (v : Value) ∧ ρ 2 = (.int .i64 ((i : Nat) : Int) : Value) ∧ ρ 6 = ((Value.slice none 0 0) : Value) ∧ ρ 7 = (.int .i64 ((0 : Nat) : Int) : Value) ∧ ρ 8 = (.bool (false) : Value) ∧ ρ 9 = (.int .i64 ((x : Nat) : Int) : Value) ∧ ρ 10 = (.int .i64 (((i) + k : Nat) : Int) : Value) ∧ ρ 11 = (.int .i64 ((0 : Nat) : Int) : Value) ∧ ρ 12 = (.int .i64 (((x) / (2) : Nat) : Int) : Value) ∧ ρ 13 = (v : Value) ∧ ρ 14 = (.int .i64 (((i) + k : Nat) : Int) : Value) ∧ ρ 23 = (.bool (false) : Value) ∧ ρ 56 = (.bool (true) : Value) ∧ True) ⟨T0, T1, T2, T6, T7, T8, T9, T10, T11, T12, T13, T14, T23, rfl, trivial⟩ fun ρ81 ⟨T0, T1, T2, T6, T7, T8, T9, T10, T11, T12, T13, T14, T23, T56, _⟩ => ?_
            refine thenF_normal (hK80 _ _ ?_)
            refine wpF_true (show _ = (.bool (true) : Value) from T56) ?_
            refine wpF_seq_k fun K82 hK82 => ?_
            refine wpF_text ?_
            refine opsF_step rfl (YieldsK.assign (show _ = ((Value.slice none 0 0) : Value) from rfl) ?_)    -- delta.go:107 t6 := (Op.assign (Operand.const (Value.slice none 0 0)))
            refine opsF_step rfl (YieldsK.assign (show _ = (.int .i64 ((0 : Nat) : Int) : Value) from rfl) ?_)    -- delta.go:107 t7 := (Op.assign (Operand.const (Value.int IntKind.i64 0)))
            refine opsF_step rfl (YieldsK.assign (show _ = (.bool (false) : Value) from rfl) ?_)    -- delta.go:107 t8 := (Op.assign (Operand.const (Value.bool false)))
            refine opsF_end (fun ρ => ρ 0 = (vb : Value) ∧ ρ 1 = (v : Value) ∧ ρ 2 = (.int .i64 ((i : Nat) : Int) : Value) ∧ ρ 6 = ((Value.slice none 0 0) : Value) ∧ ρ 7 = (.int .i64 ((0 : Nat) : Int) : Value) ∧ ρ 8 = (.bool (false) : Value) ∧ ρ 9 = (.int .i64 ((x : Nat) : Int) : Value) ∧ ρ 10 = (.int .i64 (((i) + k : Nat) : Int) : Value) ∧ ρ 11 = (.int .i64 ((0 : Nat) : Int) : Value) ∧ ρ 12 = (.int .i64 (((x) / (2) : Nat) : Int) : Value) ∧ ρ 13 = (v : Value) ∧ ρ 14 = (.int .i64 (((i) + k : Nat) : Int) : Value) ∧ ρ 23 = (.bool (false) : Value) ∧ ρ 56 = (.bool (true) : Value) ∧ True) ⟨T0, T1, T2, rfl, rfl, rfl, T9, T10, T11, T12, T13, T14, T23, T56, trivial⟩ fun ρ83 ⟨T0, T1, T2, T6, T7, T8, T9, T10, T11, T12, T13, T14, T23, T56, _⟩ => ?_
            refine thenF_normal (hK82 _ _ ?_)
            refine wpF_ret (thenF_ret ?_)
            refine postF_ret (fn := Try.f24) _ rfl [(Value.slice none 0 0), .int .i64 ((0 : Nat) : Int), .bool (false)] (.tuple #[(Value.slice none 0 0), .int .i64 ((0 : Nat) : Int), .bool (false)]) rfl ⟨T6, T7, T8, trivial⟩ ?_
            rw [pieceP, hgx]; simp only
            rw [if_neg hodd]
            rw [cutP, if_pos (by omega)]
            refine ⟨?_, hE⟩
            first | rfl | trivial
          · refine wpF_skip ?_
            refine thenF_normal (hK23 _ _ ?_)
            refine wpF_seq_k fun K84 hK84 => ?_
            refine wpF_seq_k fun K85 hK85 => ?_
            refine wpF_text ?_
            refine opsF_step rfl (YieldsK.move (show _ = (.int .i64 (((x) / (2) : Nat) : Int) : Value) from T12) ?_)    -- delta.go:106 t41 := (Op.move (Operand.tmp 12))
            refine opsF_step rfl (YieldsK.eqI (a := (((x) / (2) : Nat) : Int)) (b := ((1 : Nat) : Int)) (show _ = (.int .i64 (((x) / (2) : Nat) : Int) : Value) from rfl) (show _ = (.int .i64 ((1 : Nat) : Int) : Value) from rfl) (k_lss _ .i64 ((x) / (2)) (1)) ?_)    -- delta.go:106 t42 := (Op.binOp BinOp.lss 3 (Operand.tmp 41) (Operand.const (Value.int IntKind.i64 1)) 3)
            refine opsF_step rfl (YieldsK.move (show _ = (.bool (false) : Value) from (congrArg Value.bool (decide_eq_false (hs1)))) ?_)    -- delta.go:106 t43 := (Op.move (Operand.tmp 42))
            refine opsF_on (d := 43) rfl rfl (show _ = (.bool (false) : Value) from rfl) (YieldsK.move (show _ = (.int .i64 (((i) + k : Nat) : Int) : Value) from T14) ?_)    -- delta.go:106 t44 := (Op.move (Operand.tmp 14))
            refine opsF_on (d := 43) rfl rfl (show _ = (.bool (false) : Value) from rfl) (YieldsK.move (show _ = (v : Value) from T13) ?_)    -- delta.go:106 t45 := (Op.move (Operand.tmp 13))
            refine opsF_on (d := 43) rfl rfl (show _ = (.bool (false) : Value) from rfl) (YieldsK.lenRB del10_ty22 (RB.of (hr.keep hE) (show _ = (v : Value) from rfl)) ?_)    -- delta.go:106 t46 := (Op.call { callee := (Callee.builtin Builtin.len), args := #[(Operand.tmp 45)], argTypes := #[22] })
            refine opsF_on (d := 43) rfl rfl (show _ = (.bool (false) : Value) from rfl) (YieldsK.eqI (a := (((i) + k : Nat) : Int)) (b := ((D.length : Nat) : Int)) (show _ = (.int .i64 (((i) + k : Nat) : Int) : Value) from rfl) (show _ = (.int .i64 ((D.length : Nat) : Int) : Value) from rfl) (k_gtr _ .i64 ((i) + k) (D.length)) ?_)    -- delta.go:106 t47 := (Op.binOp BinOp.gtr 3 (Operand.tmp 44) (Operand.tmp 46) 3)
            refine opsF_step rfl (YieldsK.pickF (show _ = (.bool (false) : Value) from rfl) (show _ = (.bool (false) : Value) from (congrArg Value.bool (decide_eq_false (hs2)))) ?_)    -- delta.go:106 t48 := (Op.pick (Operand.tmp 43) (Operand.const (Value.bool true)) (Operand.tmp 47))
            refine opsF_step rfl (YieldsK.move (show _ = (.bool (false) : Value) from rfl) ?_)    -- delta.go:106 t49 := (Op.move (Operand.tmp 48))
            refine opsF_on (d := 49) rfl rfl (show _ = (.bool (false) : Value) from rfl) (YieldsK.move (show _ = (.int .i64 (((x) / (2) : Nat) : Int) : Value) from T12) ?_)    -- delta.go:106 t50 := (Op.move (Operand.tmp 12))
            refine opsF_on (d := 49) rfl rfl (show _ = (.bool (false) : Value) from rfl) (YieldsK.move (show _ = (v : Value) from T13) ?_)    -- delta.go:106 t51 := (Op.move (Operand.tmp 13))
            refine opsF_on (d := 49) rfl rfl (show _ = (.bool (false) : Value) from rfl) (YieldsK.lenRB del10_ty22 (RB.of (hr.keep hE) (show _ = (v : Value) from rfl)) ?_)    -- delta.go:106 t52 := (Op.call { callee := (Callee.builtin Builtin.len), args := #[(Operand.tmp 51)], argTypes := #[22] })
            refine opsF_on (d := 49) rfl rfl (show _ = (.bool (false) : Value) from rfl) (YieldsK.move (show _ = (.int .i64 (((i) + k : Nat) : Int) : Value) from T14) ?_)    -- delta.go:106 t53 := (Op.move (Operand.tmp 14))
            refine opsF_on (d := 49) rfl rfl (show _ = (.bool (false) : Value) from rfl) (YieldsK.bin (xv := .int .i64 ((D.length : Nat) : Int)) (yv := .int .i64 (((i) + k : Nat) : Int)) (show _ = (.int .i64 ((D.length : Nat) : Int) : Value) from rfl) (show _ = (.int .i64 (((i) + k : Nat) : Int) : Value) from rfl) rfl (i64_sub _ (D.length) ((i) + k) (by omega) (by omega)) ?_)    -- delta.go:106 t54 := (Op.binOp BinOp.sub 3 (Operand.tmp 52) (Operand.tmp 53) 3)
            refine opsF_on (d := 49) rfl rfl (show _ = (.bool (false) : Value) from rfl) (YieldsK.eqI (a := (((x) / (2) : Nat) : Int)) (b := (((D.length) - ((i) + k) : Nat) : Int)) (show _ = (.int .i64 (((x) / (2) : Nat) : Int) : Value) from rfl) (show _ = (.int .i64 (((D.length) - ((i) + k) : Nat) : Int) : Value) from rfl) (k_gtr _ .i64 ((x) / (2)) ((D.length) - ((i) + k))) ?_)    -- delta.go:106 t55 := (Op.binOp BinOp.gtr 3 (Operand.tmp 50) (Operand.tmp 54) 3)
            refine opsF_step rfl (YieldsK.pickF (show _ = (.bool (false) : Value) from rfl) (show _ = (.bool (false) : Value) from (congrArg Value.bool (decide_eq_false (hs3)))) ?_)    -- delta.go:106 t56 := (Op.pick (Operand.tmp 49) (Operand.const (Value.bool true)) (Operand.tmp 55))
            refine opsF_end (fun ρ => ρ 0 = (vb : Value) ∧ ρ 1 = (v : Value) ∧ ρ 2 = (.int .i64 ((i : Nat) : Int) : Value) ∧ ρ 6 = ((Value.slice none 0 0) : Value) ∧ ρ 7 = (.int .i64 ((0 : Nat) : Int) : Value) ∧ ρ 8 = (.bool (false) : Value) ∧ ρ 9 = (.int .i64 ((x : Nat) : Int) : Value) ∧ ρ 10 = (.int .i64 (((i) + k : Nat) : Int) : Value) ∧ ρ 11 = (.int .i64 ((0 : Nat) : Int) : Value) ∧ ρ 12 = (.int .i64 (((x) / (2) : Nat) : Int) : Value) ∧ ρ 13 = (v : Value) ∧ ρ 14 = (.int .i64 (((i) + k : Nat) : Int) : Value) ∧ ρ 23 = (.bool (false) : Value) ∧ ρ 56 = (.bool (false) : Value) ∧ True) ⟨T0, T1, T2, T6, T7, T8, T9, T10, T11, T12, T13, T14, T23, rfl, trivial⟩ fun ρ86 ⟨T0, T1, T2, T6, T7, T8, T9, T10, T11, T12, T13, T14, T23, T56, _⟩ => ?_
            refine thenF_normal (hK85 _ _ ?_)
            refine wpF_false (show _ = (.bool (false) : Value) from T56) ?_
            refine wpF_skip ?_
            refine thenF_normal (hK84 _ _ ?_)
            refine wpF_seq_k fun K87 hK87 => ?_
            refine wpF_seq_k fun K88 hK88 => ?_
            refine wpF_text ?_
            refine opsF_step rfl (YieldsK.move (show _ = (.int .i64 ((x : Nat) : Int) : Value) from T9) ?_)    -- delta.go:109 t57 := (Op.move (Operand.tmp 9))
            refine opsF_step rfl (YieldsK.bin (xv := .int .i64 ((x : Nat) : Int)) (yv := .int .i64 ((2 : Nat) : Int)) (show _ = (.int .i64 ((x : Nat) : Int) : Value) from rfl) (show _ = (.int .i64 ((2 : Nat) : Int) : Value) from rfl) rfl (i64_rem _ (x) (2) (by omega)) ?_)    -- delta.go:109 t58 := (Op.binOp BinOp.rem 3 (Operand.tmp 57) (Operand.const (Value.int IntKind.i64 2)) 3)
            refine opsF_step rfl (YieldsK.eqI (a := (((x) % (2) : Nat) : Int)) (b := ((0 : Nat) : Int)) (show _ = (.int .i64 (((x) % (2) : Nat) : Int) : Value) from rfl) (show _ = (.int .i64 ((0 : Nat) : Int) : Value) from rfl) (k_eql _ .i64 ((x) % (2)) (0)) ?_)    -- delta.go:109 t59 := (Op.binOp BinOp.eql 3 (Operand.tmp 58) (Operand.const (Value.int IntKind.i64 0)) 3)
            refine opsF_end (fun ρ => ρ 0 = (vb : Value) ∧ ρ 1 = (v : Value) ∧ ρ 2 = (.int .i64 ((i : Nat) : Int) : Value) ∧ ρ 6 = ((Value.slice none 0 0) : Value) ∧ ρ 7 = (.int .i64 ((0 : Nat) : Int) : Value) ∧ ρ 8 = (.bool (false) : Value) ∧ ρ 9 = (.int .i64 ((x : Nat) : Int) : Value) ∧ ρ 10 = (.int .i64 (((i) + k : Nat) : Int) : Value) ∧ ρ 11 = (.int .i64 ((0 : Nat) : Int) : Value) ∧ ρ 12 = (.int .i64 (((x) / (2) : Nat) : Int) : Value) ∧ ρ 13 = (v : Value) ∧ ρ 14 = (.int .i64 (((i) + k : Nat) : Int) : Value) ∧ ρ 23 = (.bool (false) : Value) ∧ ρ 56 = (.bool (false) : Value) ∧ ρ 59 = (.bool (true) : Value) ∧ True) ⟨T0, T1, T2, T6, T7, T8, T9, T10, T11, T12, T13, T14, T23, T56, (congrArg Value.bool (decide_eq_true (by omega))), trivial⟩ fun ρ89 ⟨T0, T1, T2, T6, T7, T8, T9, T10, T11, T12, T13, T14, T23, T56, T59, _⟩ => ?_
            refine thenF_normal (hK88 _ _ ?_)
            refine wpF_true (show _ = (.bool (true) : Value) from T59) ?_
            refine wpF_text ?_
            refine opsF_step rfl (YieldsK.move (show _ = (.int .i64 (((i) + k : Nat) : Int) : Value) from T10) ?_)    -- delta.go:110 t60 := (Op.move (Operand.tmp 10))
            refine opsF_step rfl (YieldsK.move (show _ = (.int .i64 (((x) / (2) : Nat) : Int) : Value) from T12) ?_)    -- delta.go:110 t61 := (Op.move (Operand.tmp 12))
            refine opsF_step rfl (YieldsK.bin (xv := .int .i64 (((i) + k : Nat) : Int)) (yv := .int .i64 (((x) / (2) : Nat) : Int)) (show _ = (.int .i64 (((i) + k : Nat) : Int) : Value) from rfl) (show _ = (.int .i64 (((x) / (2) : Nat) : Int) : Value) from rfl) rfl (i64_add _ ((i) + k) ((x) / (2)) (by omega)) ?_)    -- delta.go:110 t62 := (Op.binOp BinOp.add 3 (Operand.tmp 60) (Operand.tmp 61) 3)
            refine opsF_step rfl (YieldsK.assign (show _ = (.int .i64 ((((i) + k) + ((x) / (2)) : Nat) : Int) : Value) from rfl) ?_)    -- delta.go:110 t10 := (Op.assign (Operand.tmp 62))
            refine opsF_end (fun ρ => ρ 0 = (vb : Value) ∧ ρ 1 = (v : Value) ∧ ρ 2 = (.int .i64 ((i : Nat) : Int) : Value) ∧ ρ 6 = ((Value.slice none 0 0) : Value) ∧ ρ 7 = (.int .i64 ((0 : Nat) : Int) : Value) ∧ ρ 8 = (.bool (false) : Value) ∧ ρ 9 = (.int .i64 ((x : Nat) : Int) : Value) ∧ ρ 10 = (.int .i64 ((((i) + k) + ((x) / (2)) : Nat) : Int) : Value) ∧ ρ 11 = (.int .i64 ((0 : Nat) : Int) : Value) ∧ ρ 12 = (.int .i64 (((x) / (2) : Nat) : Int) : Value) ∧ ρ 13 = (v : Value) ∧ ρ 14 = (.int .i64 (((i) + k : Nat) : Int) : Value) ∧ ρ 23 = (.bool (false) : Value) ∧ ρ 56 = (.bool (false) : Value) ∧ ρ 59 = (.bool (true) : Value) ∧ True) ⟨T0, T1, T2, T6, T7, T8, T9, rfl, T11, T12, T13, T14, T23, T56, T59, trivial⟩ fun ρ90 ⟨T0, T1, T2, T6, T7, T8, T9, T10, T11, T12, T13, T14, T23, T56, T59, _⟩ => ?_
            refine thenF_normal (hK87 _ _ ?_)
            refine wpF_seq_k fun K91 hK91 => ?_
            refine wpF_text ?_
            refine opsF_step rfl (YieldsK.move (show _ = (v : Value) from T13) ?_)    -- delta.go:112 t63 := (Op.move (Operand.tmp 13))
            refine opsF_step rfl (YieldsK.move (show _ = (.int .i64 (((i) + k : Nat) : Int) : Value) from T14) ?_)    -- delta.go:112 t64 := (Op.move (Operand.tmp 14))
            refine opsF_step rfl (YieldsK.move (show _ = (.int .i64 (((i) + k : Nat) : Int) : Value) from T14) ?_)    -- delta.go:112 t65 := (Op.move (Operand.tmp 14))
            refine opsF_step rfl (YieldsK.move (show _ = (.int .i64 (((x) / (2) : Nat) : Int) : Value) from T12) ?_)    -- delta.go:112 t66 := (Op.move (Operand.tmp 12))
            refine opsF_step rfl (YieldsK.bin (xv := .int .i64 (((i) + k : Nat) : Int)) (yv := .int .i64 (((x) / (2) : Nat) : Int)) (show _ = (.int .i64 (((i) + k : Nat) : Int) : Value) from rfl) (show _ = (.int .i64 (((x) / (2) : Nat) : Int) : Value) from rfl) rfl (i64_add _ ((i) + k) ((x) / (2)) (by omega)) ?_)    -- delta.go:112 t67 := (Op.binOp BinOp.add 3 (Operand.tmp 65) (Operand.tmp 66) 3)
            refine opsF_step rfl (YieldsK.sliceLH (xs := D) (l := (i) + k) (n := ((i) + k) + ((x) / (2))) del10_ty22 del10_sz5 (show _ = (v : Value) from rfl) (hr.keep hE) (show _ = (.int .i64 (((i) + k : Nat) : Int) : Value) from rfl) (show _ = (.int .i64 ((((i) + k) + ((x) / (2)) : Nat) : Int) : Value) from rfl) (by omega) (by omega) fun v92 hr93 ha94 => ?_)    -- delta.go:112 t68 := (Op.slice 22 (Operand.tmp 63) (some (Operand.tmp 64)) (some (Operand.tmp 67)) none)
            refine opsF_step rfl (YieldsK.move (show _ = (.int .i64 ((((i) + k) + ((x) / (2)) : Nat) : Int) : Value) from T10) ?_)    -- delta.go:112 t69 := (Op.move (Operand.tmp 10))
            refine opsF_step rfl (YieldsK.assign (show _ = (v92 : Value) from rfl) ?_)    -- delta.go:112 t6 := (Op.assign (Operand.tmp 68))
            refine opsF_step rfl (YieldsK.assign (show _ = (.int .i64 ((((i) + k) + ((x) / (2)) : Nat) : Int) : Value) from rfl) ?_)    -- delta.go:112 t7 := (Op.assign (Operand.tmp 69))
            refine opsF_step rfl (YieldsK.assign (show _ = (.bool (true) : Value) from rfl) ?_)    -- delta.go:112 t8 := (Op.assign (Operand.const (Value.bool true)))
            refine opsF_end (fun ρ => ρ 0 = (vb : Value) ∧ ρ 1 = (v : Value) ∧ ρ 2 = (.int .i64 ((i : Nat) : Int) : Value) ∧ ρ 6 = (v92 : Value) ∧ ρ 7 = (.int .i64 ((((i) + k) + ((x) / (2)) : Nat) : Int) : Value) ∧ ρ 8 = (.bool (true) : Value) ∧ ρ 9 = (.int .i64 ((x : Nat) : Int) : Value) ∧ ρ 10 = (.int .i64 ((((i) + k) + ((x) / (2)) : Nat) : Int) : Value) ∧ ρ 11 = (.int .i64 ((0 : Nat) : Int) : Value) ∧ ρ 12 = (.int .i64 (((x) / (2) : Nat) : Int) : Value) ∧ ρ 13 = (v : Value) ∧ ρ 14 = (.int .i64 (((i) + k : Nat) : Int) : Value) ∧ ρ 23 = (.bool (false) : Value) ∧ ρ 56 = (.bool (false) : Value) ∧ ρ 59 = (.bool (true) : Value) ∧ True) ⟨T0, T1, T2, rfl, rfl, rfl, T9, T10, T11, T12, T13, T14, T23, T56, T59, trivial⟩ fun ρ95 ⟨T0, T1, T2, T6, T7, T8, T9, T10, T11, T12, T13, T14, T23, T56, T59, _⟩ => ?_
            refine thenF_normal (hK91 _ _ ?_)
            refine wpF_ret ?_
            refine postF_ret (fn := Try.f24) _ rfl [v92, .int .i64 ((((i) + k) + ((x) / (2)) : Nat) : Int), .bool (true)] (.tuple #[v92, .int .i64 ((((i) + k) + ((x) / (2)) : Nat) : Int), .bool (true)]) rfl ⟨T6, T7, T8, trivial⟩ ?_
            rw [pieceP, hgx]; simp only
            rw [if_neg hodd]
            rw [cutP, if_neg (by omega)]
            refine ⟨⟨_, rfl, ?_⟩, hE⟩
            simpa only [Nat.add_sub_cancel_left] using hr93
end Go.Proofs.Ytfjmbcjcgdfkfaa
