/- The reference's Sizes. -/
import Derived.Test.YtfjmbcjcgdfkfaaDel17
namespace Go.Proofs.Ytfjmbcjcgdfkfaa
open Go.RowKit
theorem del18_pl25 : Plain Try.prog 25 := fun _ _ => by kernel_rfl
theorem refGetNo (w : World) (v : Value) (l : List UInt8) (hr : RB w v l) (a : Nat) (ha : a ≤ l.length) (hl : l.length ≤ 1073741824) (h : lebDec 0 (l.drop a) = none) :
    Calls Try.prog 25 #[v, .int .i64 a] w fun e w' => e = .returned (.tuple #[.int .i64 0, .int .i64 0, .int .i64 6]) ∧ Ext w w' :=
  (refGet_any w v l hr a ha hl).mono fun e w' ⟨h1, h2⟩ => by
    rw [h] at h1
    exact ⟨h1, h2⟩
theorem refGetYes (w : World) (v : Value) (l : List UInt8) (hr : RB w v l) (a : Nat) (ha : a ≤ l.length) (hl : l.length ≤ 1073741824) (x k : Nat) (h : lebDec 0 (l.drop a) = some (x, k)) :
    Calls Try.prog 25 #[v, .int .i64 a] w fun e w' => e = .returned (.tuple #[.int .i64 (x : Nat), .int .i64 ((a + k : Nat) : Int), .int .i64 0]) ∧ Ext w w' :=
  (refGet_any w v l hr a ha hl).mono fun e w' ⟨h1, h2⟩ => by
    rw [h] at h1
    exact ⟨h1, h2⟩

theorem refSizes_any (w : World) (v : Value) (D : List UInt8) (hr : RB w v D) (hlen : D.length ≤ 1073741824) :
    Calls Try.prog 15 #[v] w fun e w' => e = .returned (sizesRes (sizesP D)) ∧ Ext w w' := by
  refine calls_of_wpF (args := [v]) Try.func15 rfl 31 rfl (Nat.le_of_ble_eq_true rfl) ?_
  intro ρ0 hb
  have T0 : ρ0 0 = (v : Value) := hb.get 0
  clear hb
  have hE := Ext.refl w
  refine wpF_seq_k fun K1 hK1 => ?_
  refine wpF_text ?_
  refine opsF_step rfl (YieldsK.assign (show _ = (.int .i64 ((0 : Nat) : Int) : Value) from rfl) ?_)    -- ref.go:55 t2 := (Op.assign (Operand.const (Value.int IntKind.i64 0)))
  refine opsF_step rfl (YieldsK.assign (show _ = (.int .i64 ((0 : Nat) : Int) : Value) from rfl) ?_)    -- ref.go:55 t3 := (Op.assign (Operand.const (Value.int IntKind.i64 0)))
  refine opsF_step rfl (YieldsK.assign (show _ = (.int .i64 ((0 : Nat) : Int) : Value) from rfl) ?_)    -- ref.go:55 t4 := (Op.assign (Operand.const (Value.int IntKind.i64 0)))
  refine opsF_step rfl (YieldsK.assign (show _ = (.int .i64 ((0 : Nat) : Int) : Value) from rfl) ?_)    -- ref.go:55 t5 := (Op.assign (Operand.const (Value.int IntKind.i64 0)))
  refine opsF_end (fun ρ => ρ 0 = (v : Value) ∧ ρ 2 = (.int .i64 ((0 : Nat) : Int) : Value) ∧ ρ 3 = (.int .i64 ((0 : Nat) : Int) : Value) ∧ ρ 4 = (.int .i64 ((0 : Nat) : Int) : Value) ∧ ρ 5 = (.int .i64 ((0 : Nat) : Int) : Value) ∧ True) ⟨T0, rfl, rfl, rfl, rfl, trivial⟩ fun ρ2 ⟨T0, T2, T3, T4, T5, _⟩ => ?_
  rcases hgxa : lebDec 0 (D.drop (0)) with _ | ⟨xa, ka⟩
  · refine thenF_normal (hK1 _ _ ?_)
    refine wpF_seq_k fun K3 hK3 => ?_
    refine wpF_text ?_
    refine opsF_step rfl (YieldsK.move (show _ = (v : Value) from T0) ?_)    -- ref.go:56 t12 := (Op.move (Operand.tmp 0))
    refine opsF_step rfl (YieldsK.callA2 del18_pl25 (show _ = (v : Value) from rfl) (show _ = (.int .i64 ((0 : Nat) : Int) : Value) from rfl) ?_)    -- ref.go:56 t13 := (Op.call { callee := (Callee.value (Operand.func 25)), args := #[(Operand.tmp 12), (Operand.const (Value.int I
    refine (refGetNo _ v D (hr.keep hE) (0) (by omega) hlen hgxa).mono ?_
    rintro e w5 ⟨rfl, hx4⟩
    refine ⟨_, rfl, ?_⟩
    have hE : Ext w w5 := (hE.trans hx4)
    refine opsF_step rfl (YieldsK.move (show _ = (.tuple #[.int .i64 ((0 : Nat) : Int), .int .i64 ((0 : Nat) : Int), .int .i64 ((6 : Nat) : Int)] : Value) from rfl) ?_)    -- ref.go:56 t11 := (Op.move (Operand.tmp 13))
    refine opsF_step rfl (YieldsK.extract (vs := [.int .i64 ((0 : Nat) : Int), .int .i64 ((0 : Nat) : Int), .int .i64 ((6 : Nat) : Int)]) (show _ = (.tuple #[.int .i64 ((0 : Nat) : Int), .int .i64 ((0 : Nat) : Int), .int .i64 ((6 : Nat) : Int)] : Value) from rfl) (show _ = some (.int .i64 ((0 : Nat) : Int) : Value) from rfl) ?_)    -- ref.go:56 t14 := (Op.extract (Operand.tmp 11) 0)
    refine opsF_step rfl (YieldsK.extract (vs := [.int .i64 ((0 : Nat) : Int), .int .i64 ((0 : Nat) : Int), .int .i64 ((6 : Nat) : Int)]) (show _ = (.tuple #[.int .i64 ((0 : Nat) : Int), .int .i64 ((0 : Nat) : Int), .int .i64 ((6 : Nat) : Int)] : Value) from rfl) (show _ = some (.int .i64 ((0 : Nat) : Int) : Value) from rfl) ?_)    -- ref.go:56 t15 := (Op.extract (Operand.tmp 11) 1)
    refine opsF_step rfl (YieldsK.extract (vs := [.int .i64 ((0 : Nat) : Int), .int .i64 ((0 : Nat) : Int), .int .i64 ((6 : Nat) : Int)]) (show _ = (.tuple #[.int .i64 ((0 : Nat) : Int), .int .i64 ((0 : Nat) : Int), .int .i64 ((6 : Nat) : Int)] : Value) from rfl) (show _ = some (.int .i64 ((6 : Nat) : Int) : Value) from rfl) ?_)    -- ref.go:56 t16 := (Op.extract (Operand.tmp 11) 2)
    refine opsF_step rfl (YieldsK.assign (show _ = (.int .i64 ((0 : Nat) : Int) : Value) from rfl) ?_)    -- ref.go:56 t6 := (Op.assign (Operand.tmp 14))
    refine opsF_step rfl (YieldsK.assign (show _ = (.int .i64 ((0 : Nat) : Int) : Value) from rfl) ?_)    -- ref.go:56 t7 := (Op.assign (Operand.tmp 15))
    refine opsF_step rfl (YieldsK.assign (show _ = (.int .i64 ((6 : Nat) : Int) : Value) from rfl) ?_)    -- ref.go:56 t8 := (Op.assign (Operand.tmp 16))
    refine opsF_end (fun ρ => ρ 0 = (v : Value) ∧ ρ 2 = (.int .i64 ((0 : Nat) : Int) : Value) ∧ ρ 3 = (.int .i64 ((0 : Nat) : Int) : Value) ∧ ρ 4 = (.int .i64 ((0 : Nat) : Int) : Value) ∧ ρ 5 = (.int .i64 ((0 : Nat) : Int) : Value) ∧ ρ 6 = (.int .i64 ((0 : Nat) : Int) : Value) ∧ ρ 7 = (.int .i64 ((0 : Nat) : Int) : Value) ∧ ρ 8 = (.int .i64 ((6 : Nat) : Int) : Value) ∧ True) ⟨T0, T2, T3, T4, T5, rfl, rfl, rfl, trivial⟩ fun ρ6 ⟨T0, T2, T3, T4, T5, T6, T7, T8, _⟩ => ?_
    refine thenF_normal (hK3 _ _ ?_)
    refine wpF_seq_k fun K7 hK7 => ?_
    refine wpF_seq_k fun K8 hK8 => ?_
    refine wpF_text ?_
    refine opsF_step rfl (YieldsK.move (show _ = (.int .i64 ((6 : Nat) : Int) : Value) from T8) ?_)    -- ref.go:57 t17 := (Op.move (Operand.tmp 8))
    refine opsF_step rfl (YieldsK.eqI (a := ((6 : Nat) : Int)) (b := ((0 : Nat) : Int)) (show _ = (.int .i64 ((6 : Nat) : Int) : Value) from rfl) (show _ = (.int .i64 ((0 : Nat) : Int) : Value) from rfl) (k_neq _ .i64 (6) (0)) ?_)    -- ref.go:57 t18 := (Op.binOp BinOp.neq 3 (Operand.tmp 17) (Operand.const (Value.int IntKind.i64 0)) 3)
    refine opsF_end (fun ρ => ρ 0 = (v : Value) ∧ ρ 2 = (.int .i64 ((0 : Nat) : Int) : Value) ∧ ρ 3 = (.int .i64 ((0 : Nat) : Int) : Value) ∧ ρ 4 = (.int .i64 ((0 : Nat) : Int) : Value) ∧ ρ 5 = (.int .i64 ((0 : Nat) : Int) : Value) ∧ ρ 6 = (.int .i64 ((0 : Nat) : Int) : Value) ∧ ρ 7 = (.int .i64 ((0 : Nat) : Int) : Value) ∧ ρ 8 = (.int .i64 ((6 : Nat) : Int) : Value) ∧ ρ 18 = (.bool (true) : Value) ∧ True) ⟨T0, T2, T3, T4, T5, T6, T7, T8, (congrArg Value.bool (decide_eq_true (by decide))), trivial⟩ fun ρ9 ⟨T0, T2, T3, T4, T5, T6, T7, T8, T18, _⟩ => ?_
    refine thenF_normal (hK8 _ _ ?_)
    refine wpF_true (show _ = (.bool (true) : Value) from T18) ?_
    refine wpF_seq_k fun K10 hK10 => ?_
    refine wpF_text ?_
    refine opsF_step rfl (YieldsK.assign (show _ = (.int .i64 ((0 : Nat) : Int) : Value) from rfl) ?_)    -- ref.go:58 t2 := (Op.assign (Operand.const (Value.int IntKind.i64 0)))
    refine opsF_step rfl (YieldsK.assign (show _ = (.int .i64 ((0 : Nat) : Int) : Value) from rfl) ?_)    -- ref.go:58 t3 := (Op.assign (Operand.const (Value.int IntKind.i64 0)))
    refine opsF_step rfl (YieldsK.assign (show _ = (.int .i64 ((0 : Nat) : Int) : Value) from rfl) ?_)    -- ref.go:58 t4 := (Op.assign (Operand.const (Value.int IntKind.i64 0)))
    refine opsF_step rfl (YieldsK.assign (show _ = (.int .i64 ((6 : Nat) : Int) : Value) from rfl) ?_)    -- ref.go:58 t5 := (Op.assign (Operand.const (Value.int IntKind.i64 6)))
    refine opsF_end (fun ρ => ρ 0 = (v : Value) ∧ ρ 2 = (.int .i64 ((0 : Nat) : Int) : Value) ∧ ρ 3 = (.int .i64 ((0 : Nat) : Int) : Value) ∧ ρ 4 = (.int .i64 ((0 : Nat) : Int) : Value) ∧ ρ 5 = (.int .i64 ((6 : Nat) : Int) : Value) ∧ ρ 6 = (.int .i64 ((0 : Nat) : Int) : Value) ∧ ρ 7 = (.int .i64 ((0 : Nat) : Int) : Value) ∧ ρ 8 = (.int .i64 ((6 : Nat) : Int) : Value) ∧ ρ 18 = (.bool (true) : Value) ∧ True) ⟨T0, rfl, rfl, rfl, rfl, T6, T7, T8, T18, trivial⟩ fun ρ11 ⟨T0, T2, T3, T4, T5, T6, T7, T8, T18, _⟩ => ?_
    refine thenF_normal (hK10 _ _ ?_)
    refine wpF_ret (thenF_ret ?_)
    refine postF_ret (fn := Try.f15) _ rfl [.int .i64 ((0 : Nat) : Int), .int .i64 ((0 : Nat) : Int), .int .i64 ((0 : Nat) : Int), .int .i64 ((6 : Nat) : Int)] (.tuple #[.int .i64 ((0 : Nat) : Int), .int .i64 ((0 : Nat) : Int), .int .i64 ((0 : Nat) : Int), .int .i64 ((6 : Nat) : Int)]) rfl ⟨T2, T3, T4, T5, trivial⟩ ?_
    refine ⟨?_, hE⟩
    rw [sizesP, hgxa]
    rfl
  · have hqxa := lebDec_bound (a := 0) (by omega) hgxa
    rcases hgxb : lebDec 0 (D.drop (0 + ka)) with _ | ⟨xb, kb⟩
    · refine thenF_normal (hK1 _ _ ?_)
      refine wpF_seq_k fun K12 hK12 => ?_
      refine wpF_text ?_
      refine opsF_step rfl (YieldsK.move (show _ = (v : Value) from T0) ?_)    -- ref.go:56 t12 := (Op.move (Operand.tmp 0))
      refine opsF_step rfl (YieldsK.callA2 del18_pl25 (show _ = (v : Value) from rfl) (show _ = (.int .i64 ((0 : Nat) : Int) : Value) from rfl) ?_)    -- ref.go:56 t13 := (Op.call { callee := (Callee.value (Operand.func 25)), args := #[(Operand.tmp 12), (Operand.const (Value.int I
      refine (refGetYes _ v D (hr.keep hE) (0) (by omega) hlen xa ka hgxa).mono ?_
      rintro e w14 ⟨rfl, hx13⟩
      refine ⟨_, rfl, ?_⟩
      have hE : Ext w w14 := (hE.trans hx13)
      refine opsF_step rfl (YieldsK.move (show _ = (.tuple #[.int .i64 ((xa : Nat) : Int), .int .i64 (((0) + ka : Nat) : Int), .int .i64 ((0 : Nat) : Int)] : Value) from rfl) ?_)    -- ref.go:56 t11 := (Op.move (Operand.tmp 13))
      refine opsF_step rfl (YieldsK.extract (vs := [.int .i64 ((xa : Nat) : Int), .int .i64 (((0) + ka : Nat) : Int), .int .i64 ((0 : Nat) : Int)]) (show _ = (.tuple #[.int .i64 ((xa : Nat) : Int), .int .i64 (((0) + ka : Nat) : Int), .int .i64 ((0 : Nat) : Int)] : Value) from rfl) (show _ = some (.int .i64 ((xa : Nat) : Int) : Value) from rfl) ?_)    -- ref.go:56 t14 := (Op.extract (Operand.tmp 11) 0)
      refine opsF_step rfl (YieldsK.extract (vs := [.int .i64 ((xa : Nat) : Int), .int .i64 (((0) + ka : Nat) : Int), .int .i64 ((0 : Nat) : Int)]) (show _ = (.tuple #[.int .i64 ((xa : Nat) : Int), .int .i64 (((0) + ka : Nat) : Int), .int .i64 ((0 : Nat) : Int)] : Value) from rfl) (show _ = some (.int .i64 (((0) + ka : Nat) : Int) : Value) from rfl) ?_)    -- ref.go:56 t15 := (Op.extract (Operand.tmp 11) 1)
      refine opsF_step rfl (YieldsK.extract (vs := [.int .i64 ((xa : Nat) : Int), .int .i64 (((0) + ka : Nat) : Int), .int .i64 ((0 : Nat) : Int)]) (show _ = (.tuple #[.int .i64 ((xa : Nat) : Int), .int .i64 (((0) + ka : Nat) : Int), .int .i64 ((0 : Nat) : Int)] : Value) from rfl) (show _ = some (.int .i64 ((0 : Nat) : Int) : Value) from rfl) ?_)    -- ref.go:56 t16 := (Op.extract (Operand.tmp 11) 2)
      refine opsF_step rfl (YieldsK.assign (show _ = (.int .i64 ((xa : Nat) : Int) : Value) from rfl) ?_)    -- ref.go:56 t6 := (Op.assign (Operand.tmp 14))
      refine opsF_step rfl (YieldsK.assign (show _ = (.int .i64 (((0) + ka : Nat) : Int) : Value) from rfl) ?_)    -- ref.go:56 t7 := (Op.assign (Operand.tmp 15))
      refine opsF_step rfl (YieldsK.assign (show _ = (.int .i64 ((0 : Nat) : Int) : Value) from rfl) ?_)    -- ref.go:56 t8 := (Op.assign (Operand.tmp 16))
      refine opsF_end (fun ρ => ρ 0 = (v : Value) ∧ ρ 2 = (.int .i64 ((0 : Nat) : Int) : Value) ∧ ρ 3 = (.int .i64 ((0 : Nat) : Int) : Value) ∧ ρ 4 = (.int .i64 ((0 : Nat) : Int) : Value) ∧ ρ 5 = (.int .i64 ((0 : Nat) : Int) : Value) ∧ ρ 6 = (.int .i64 ((xa : Nat) : Int) : Value) ∧ ρ 7 = (.int .i64 (((0) + ka : Nat) : Int) : Value) ∧ ρ 8 = (.int .i64 ((0 : Nat) : Int) : Value) ∧ True) ⟨T0, T2, T3, T4, T5, rfl, rfl, rfl, trivial⟩ fun ρ15 ⟨T0, T2, T3, T4, T5, T6, T7, T8, _⟩ => ?_
      refine thenF_normal (hK12 _ _ ?_)
      refine wpF_seq_k fun K16 hK16 => ?_
      refine wpF_seq_k fun K17 hK17 => ?_
      refine wpF_text ?_
      refine opsF_step rfl (YieldsK.move (show _ = (.int .i64 ((0 : Nat) : Int) : Value) from T8) ?_)    -- ref.go:57 t17 := (Op.move (Operand.tmp 8))
      refine opsF_step rfl (YieldsK.eqI (a := ((0 : Nat) : Int)) (b := ((0 : Nat) : Int)) (show _ = (.int .i64 ((0 : Nat) : Int) : Value) from rfl) (show _ = (.int .i64 ((0 : Nat) : Int) : Value) from rfl) (k_neq _ .i64 (0) (0)) ?_)    -- ref.go:57 t18 := (Op.binOp BinOp.neq 3 (Operand.tmp 17) (Operand.const (Value.int IntKind.i64 0)) 3)
      refine opsF_end (fun ρ => ρ 0 = (v : Value) ∧ ρ 2 = (.int .i64 ((0 : Nat) : Int) : Value) ∧ ρ 3 = (.int .i64 ((0 : Nat) : Int) : Value) ∧ ρ 4 = (.int .i64 ((0 : Nat) : Int) : Value) ∧ ρ 5 = (.int .i64 ((0 : Nat) : Int) : Value) ∧ ρ 6 = (.int .i64 ((xa : Nat) : Int) : Value) ∧ ρ 7 = (.int .i64 (((0) + ka : Nat) : Int) : Value) ∧ ρ 8 = (.int .i64 ((0 : Nat) : Int) : Value) ∧ ρ 18 = (.bool (false) : Value) ∧ True) ⟨T0, T2, T3, T4, T5, T6, T7, T8, (congrArg Value.bool (decide_eq_false (by decide))), trivial⟩ fun ρ18 ⟨T0, T2, T3, T4, T5, T6, T7, T8, T18, _⟩ => ?_
      refine thenF_normal (hK17 _ _ ?_)
      refine wpF_false (show _ = (.bool (false) : Value) from T18) ?_
      refine wpF_skip ?_
      refine thenF_normal (hK16 _ _ ?_)
      refine wpF_seq_k fun K19 hK19 => ?_
      refine wpF_text ?_
      refine opsF_step rfl (YieldsK.move (show _ = (v : Value) from T0) ?_)    -- ref.go:60 t20 := (Op.move (Operand.tmp 0))
      refine opsF_step rfl (YieldsK.move (show _ = (.int .i64 (((0) + ka : Nat) : Int) : Value) from T7) ?_)    -- ref.go:60 t21 := (Op.move (Operand.tmp 7))
      refine opsF_step rfl (YieldsK.callA2 del18_pl25 (show _ = (v : Value) from rfl) (show _ = (.int .i64 (((0) + ka : Nat) : Int) : Value) from rfl) ?_)    -- ref.go:60 t22 := (Op.call { callee := (Callee.value (Operand.func 25)), args := #[(Operand.tmp 20), (Operand.tmp 21)], argTypes
      refine (refGetNo _ v D (hr.keep hE) ((0) + ka) (by omega) hlen hgxb).mono ?_
      rintro e w21 ⟨rfl, hx20⟩
      refine ⟨_, rfl, ?_⟩
      have hE : Ext w w21 := (hE.trans hx20)
      refine opsF_step rfl (YieldsK.move (show _ = (.tuple #[.int .i64 ((0 : Nat) : Int), .int .i64 ((0 : Nat) : Int), .int .i64 ((6 : Nat) : Int)] : Value) from rfl) ?_)    -- ref.go:60 t19 := (Op.move (Operand.tmp 22))
      refine opsF_step rfl (YieldsK.extract (vs := [.int .i64 ((0 : Nat) : Int), .int .i64 ((0 : Nat) : Int), .int .i64 ((6 : Nat) : Int)]) (show _ = (.tuple #[.int .i64 ((0 : Nat) : Int), .int .i64 ((0 : Nat) : Int), .int .i64 ((6 : Nat) : Int)] : Value) from rfl) (show _ = some (.int .i64 ((0 : Nat) : Int) : Value) from rfl) ?_)    -- ref.go:60 t23 := (Op.extract (Operand.tmp 19) 0)
      refine opsF_step rfl (YieldsK.extract (vs := [.int .i64 ((0 : Nat) : Int), .int .i64 ((0 : Nat) : Int), .int .i64 ((6 : Nat) : Int)]) (show _ = (.tuple #[.int .i64 ((0 : Nat) : Int), .int .i64 ((0 : Nat) : Int), .int .i64 ((6 : Nat) : Int)] : Value) from rfl) (show _ = some (.int .i64 ((0 : Nat) : Int) : Value) from rfl) ?_)    -- ref.go:60 t24 := (Op.extract (Operand.tmp 19) 1)
      refine opsF_step rfl (YieldsK.extract (vs := [.int .i64 ((0 : Nat) : Int), .int .i64 ((0 : Nat) : Int), .int .i64 ((6 : Nat) : Int)]) (show _ = (.tuple #[.int .i64 ((0 : Nat) : Int), .int .i64 ((0 : Nat) : Int), .int .i64 ((6 : Nat) : Int)] : Value) from rfl) (show _ = some (.int .i64 ((6 : Nat) : Int) : Value) from rfl) ?_)    -- ref.go:60 t25 := (Op.extract (Operand.tmp 19) 2)
      refine opsF_step rfl (YieldsK.assign (show _ = (.int .i64 ((0 : Nat) : Int) : Value) from rfl) ?_)    -- ref.go:60 t9 := (Op.assign (Operand.tmp 23))
      refine opsF_step rfl (YieldsK.assign (show _ = (.int .i64 ((0 : Nat) : Int) : Value) from rfl) ?_)    -- ref.go:60 t7 := (Op.assign (Operand.tmp 24))
      refine opsF_step rfl (YieldsK.assign (show _ = (.int .i64 ((6 : Nat) : Int) : Value) from rfl) ?_)    -- ref.go:60 t10 := (Op.assign (Operand.tmp 25))
      refine opsF_end (fun ρ => ρ 0 = (v : Value) ∧ ρ 2 = (.int .i64 ((0 : Nat) : Int) : Value) ∧ ρ 3 = (.int .i64 ((0 : Nat) : Int) : Value) ∧ ρ 4 = (.int .i64 ((0 : Nat) : Int) : Value) ∧ ρ 5 = (.int .i64 ((0 : Nat) : Int) : Value) ∧ ρ 6 = (.int .i64 ((xa : Nat) : Int) : Value) ∧ ρ 7 = (.int .i64 ((0 : Nat) : Int) : Value) ∧ ρ 8 = (.int .i64 ((0 : Nat) : Int) : Value) ∧ ρ 9 = (.int .i64 ((0 : Nat) : Int) : Value) ∧ ρ 10 = (.int .i64 ((6 : Nat) : Int) : Value) ∧ ρ 18 = (.bool (false) : Value) ∧ True) ⟨T0, T2, T3, T4, T5, T6, rfl, T8, rfl, rfl, T18, trivial⟩ fun ρ22 ⟨T0, T2, T3, T4, T5, T6, T7, T8, T9, T10, T18, _⟩ => ?_
      refine thenF_normal (hK19 _ _ ?_)
      refine wpF_seq_k fun K23 hK23 => ?_
      refine wpF_seq_k fun K24 hK24 => ?_
      refine wpF_text ?_
      refine opsF_step rfl (YieldsK.move (show _ = (.int .i64 ((6 : Nat) : Int) : Value) from T10) ?_)    -- ref.go:61 t26 := (Op.move (Operand.tmp 10))
      refine opsF_step rfl (YieldsK.eqI (a := ((6 : Nat) : Int)) (b := ((0 : Nat) : Int)) (show _ = (.int .i64 ((6 : Nat) : Int) : Value) from rfl) (show _ = (.int .i64 ((0 : Nat) : Int) : Value) from rfl) (k_neq _ .i64 (6) (0)) ?_)    -- ref.go:61 t27 := (Op.binOp BinOp.neq 3 (Operand.tmp 26) (Operand.const (Value.int IntKind.i64 0)) 3)
      refine opsF_end (fun ρ => ρ 0 = (v : Value) ∧ ρ 2 = (.int .i64 ((0 : Nat) : Int) : Value) ∧ ρ 3 = (.int .i64 ((0 : Nat) : Int) : Value) ∧ ρ 4 = (.int .i64 ((0 : Nat) : Int) : Value) ∧ ρ 5 = (.int .i64 ((0 : Nat) : Int) : Value) ∧ ρ 6 = (.int .i64 ((xa : Nat) : Int) : Value) ∧ ρ 7 = (.int .i64 ((0 : Nat) : Int) : Value) ∧ ρ 8 = (.int .i64 ((0 : Nat) : Int) : Value) ∧ ρ 9 = (.int .i64 ((0 : Nat) : Int) : Value) ∧ ρ 10 = (.int .i64 ((6 : Nat) : Int) : Value) ∧ ρ 18 = (.bool (false) : Value) ∧ ρ 27 = (.bool (true) : Value) ∧ True) ⟨T0, T2, T3, T4, T5, T6, T7, T8, T9, T10, T18, (congrArg Value.bool (decide_eq_true (by decide))), trivial⟩ fun ρ25 ⟨T0, T2, T3, T4, T5, T6, T7, T8, T9, T10, T18, T27, _⟩ => ?_
      refine thenF_normal (hK24 _ _ ?_)
      refine wpF_true (show _ = (.bool (true) : Value) from T27) ?_
      refine wpF_seq_k fun K26 hK26 => ?_
      refine wpF_text ?_
      refine opsF_step rfl (YieldsK.assign (show _ = (.int .i64 ((0 : Nat) : Int) : Value) from rfl) ?_)    -- ref.go:62 t2 := (Op.assign (Operand.const (Value.int IntKind.i64 0)))
      refine opsF_step rfl (YieldsK.assign (show _ = (.int .i64 ((0 : Nat) : Int) : Value) from rfl) ?_)    -- ref.go:62 t3 := (Op.assign (Operand.const (Value.int IntKind.i64 0)))
      refine opsF_step rfl (YieldsK.assign (show _ = (.int .i64 ((0 : Nat) : Int) : Value) from rfl) ?_)    -- ref.go:62 t4 := (Op.assign (Operand.const (Value.int IntKind.i64 0)))
      refine opsF_step rfl (YieldsK.assign (show _ = (.int .i64 ((6 : Nat) : Int) : Value) from rfl) ?_)    -- ref.go:62 t5 := (Op.assign (Operand.const (Value.int IntKind.i64 6)))
      refine opsF_end (fun ρ => ρ 0 = (v : Value) ∧ ρ 2 = (.int .i64 ((0 : Nat) : Int) : Value) ∧ ρ 3 = (.int .i64 ((0 : Nat) : Int) : Value) ∧ ρ 4 = (.int .i64 ((0 : Nat) : Int) : Value) ∧ ρ 5 = (.int .i64 ((6 : Nat) : Int) : Value) ∧ ρ 6 = (.int .i64 ((xa : Nat) : Int) : Value) ∧ ρ 7 = (.int .i64 ((0 : Nat) : Int) : Value) ∧ ρ 8 = (.int .i64 ((0 : Nat) : Int) : Value) ∧ ρ 9 = (.int .i64 ((0 : Nat) : Int) : Value) ∧ ρ 10 = (.int .i64 ((6 : Nat) : Int) : Value) ∧ ρ 18 = (.bool (false) : Value) ∧ ρ 27 = (.bool (true) : Value) ∧ True) ⟨T0, rfl, rfl, rfl, rfl, T6, T7, T8, T9, T10, T18, T27, trivial⟩ fun ρ27 ⟨T0, T2, T3, T4, T5, T6, T7, T8, T9, T10, T18, T27, _⟩ => ?_
      refine thenF_normal (hK26 _ _ ?_)
      refine wpF_ret (thenF_ret ?_)
      refine postF_ret (fn := Try.f15) _ rfl [.int .i64 ((0 : Nat) : Int), .int .i64 ((0 : Nat) : Int), .int .i64 ((0 : Nat) : Int), .int .i64 ((6 : Nat) : Int)] (.tuple #[.int .i64 ((0 : Nat) : Int), .int .i64 ((0 : Nat) : Int), .int .i64 ((0 : Nat) : Int), .int .i64 ((6 : Nat) : Int)]) rfl ⟨T2, T3, T4, T5, trivial⟩ ?_
      refine ⟨?_, hE⟩
      rw [sizesP, hgxa]; simp only; rw [hgxb]
      rfl
    · have hqxb := lebDec_bound (a := 0 + ka) (by omega) hgxb
      refine thenF_normal (hK1 _ _ ?_)
      refine wpF_seq_k fun K28 hK28 => ?_
      refine wpF_text ?_
      refine opsF_step rfl (YieldsK.move (show _ = (v : Value) from T0) ?_)    -- ref.go:56 t12 := (Op.move (Operand.tmp 0))
      refine opsF_step rfl (YieldsK.callA2 del18_pl25 (show _ = (v : Value) from rfl) (show _ = (.int .i64 ((0 : Nat) : Int) : Value) from rfl) ?_)    -- ref.go:56 t13 := (Op.call { callee := (Callee.value (Operand.func 25)), args := #[(Operand.tmp 12), (Operand.const (Value.int I
      refine (refGetYes _ v D (hr.keep hE) (0) (by omega) hlen xa ka hgxa).mono ?_
      rintro e w30 ⟨rfl, hx29⟩
      refine ⟨_, rfl, ?_⟩
      have hE : Ext w w30 := (hE.trans hx29)
      refine opsF_step rfl (YieldsK.move (show _ = (.tuple #[.int .i64 ((xa : Nat) : Int), .int .i64 (((0) + ka : Nat) : Int), .int .i64 ((0 : Nat) : Int)] : Value) from rfl) ?_)    -- ref.go:56 t11 := (Op.move (Operand.tmp 13))
      refine opsF_step rfl (YieldsK.extract (vs := [.int .i64 ((xa : Nat) : Int), .int .i64 (((0) + ka : Nat) : Int), .int .i64 ((0 : Nat) : Int)]) (show _ = (.tuple #[.int .i64 ((xa : Nat) : Int), .int .i64 (((0) + ka : Nat) : Int), .int .i64 ((0 : Nat) : Int)] : Value) from rfl) (show _ = some (.int .i64 ((xa : Nat) : Int) : Value) from rfl) ?_)    -- ref.go:56 t14 := (Op.extract (Operand.tmp 11) 0)
      refine opsF_step rfl (YieldsK.extract (vs := [.int .i64 ((xa : Nat) : Int), .int .i64 (((0) + ka : Nat) : Int), .int .i64 ((0 : Nat) : Int)]) (show _ = (.tuple #[.int .i64 ((xa : Nat) : Int), .int .i64 (((0) + ka : Nat) : Int), .int .i64 ((0 : Nat) : Int)] : Value) from rfl) (show _ = some (.int .i64 (((0) + ka : Nat) : Int) : Value) from rfl) ?_)    -- ref.go:56 t15 := (Op.extract (Operand.tmp 11) 1)
      refine opsF_step rfl (YieldsK.extract (vs := [.int .i64 ((xa : Nat) : Int), .int .i64 (((0) + ka : Nat) : Int), .int .i64 ((0 : Nat) : Int)]) (show _ = (.tuple #[.int .i64 ((xa : Nat) : Int), .int .i64 (((0) + ka : Nat) : Int), .int .i64 ((0 : Nat) : Int)] : Value) from rfl) (show _ = some (.int .i64 ((0 : Nat) : Int) : Value) from rfl) ?_)    -- ref.go:56 t16 := (Op.extract (Operand.tmp 11) 2)
      refine opsF_step rfl (YieldsK.assign (show _ = (.int .i64 ((xa : Nat) : Int) : Value) from rfl) ?_)    -- ref.go:56 t6 := (Op.assign (Operand.tmp 14))
      refine opsF_step rfl (YieldsK.assign (show _ = (.int .i64 (((0) + ka : Nat) : Int) : Value) from rfl) ?_)    -- ref.go:56 t7 := (Op.assign (Operand.tmp 15))
      refine opsF_step rfl (YieldsK.assign (show _ = (.int .i64 ((0 : Nat) : Int) : Value) from rfl) ?_)    -- ref.go:56 t8 := (Op.assign (Operand.tmp 16))
      refine opsF_end (fun ρ => ρ 0 = (v : Value) ∧ ρ 2 = (.int .i64 ((0 : Nat) : Int) : Value) ∧ ρ 3 = (.int .i64 ((0 : Nat) : Int) : Value) ∧ ρ 4 = (.int .i64 ((0 : Nat) : Int) : Value) ∧ ρ 5 = (.int .i64 ((0 : Nat) : Int) : Value) ∧ ρ 6 = (.int .i64 ((xa : Nat) : Int) : Value) ∧ ρ 7 = (.int .i64 (((0) + ka : Nat) : Int) : Value) ∧ ρ 8 = (.int .i64 ((0 : Nat) : Int) : Value) ∧ True) ⟨T0, T2, T3, T4, T5, rfl, rfl, rfl, trivial⟩ fun ρ31 ⟨T0, T2, T3, T4, T5, T6, T7, T8, _⟩ => ?_
      refine thenF_normal (hK28 _ _ ?_)
      refine wpF_seq_k fun K32 hK32 => ?_
      refine wpF_seq_k fun K33 hK33 => ?_
      refine wpF_text ?_
      refine opsF_step rfl (YieldsK.move (show _ = (.int .i64 ((0 : Nat) : Int) : Value) from T8) ?_)    -- ref.go:57 t17 := (Op.move (Operand.tmp 8))
      refine opsF_step rfl (YieldsK.eqI (a := ((0 : Nat) : Int)) (b := ((0 : Nat) : Int)) (show _ = (.int .i64 ((0 : Nat) : Int) : Value) from rfl) (show _ = (.int .i64 ((0 : Nat) : Int) : Value) from rfl) (k_neq _ .i64 (0) (0)) ?_)    -- ref.go:57 t18 := (Op.binOp BinOp.neq 3 (Operand.tmp 17) (Operand.const (Value.int IntKind.i64 0)) 3)
      refine opsF_end (fun ρ => ρ 0 = (v : Value) ∧ ρ 2 = (.int .i64 ((0 : Nat) : Int) : Value) ∧ ρ 3 = (.int .i64 ((0 : Nat) : Int) : Value) ∧ ρ 4 = (.int .i64 ((0 : Nat) : Int) : Value) ∧ ρ 5 = (.int .i64 ((0 : Nat) : Int) : Value) ∧ ρ 6 = (.int .i64 ((xa : Nat) : Int) : Value) ∧ ρ 7 = (.int .i64 (((0) + ka : Nat) : Int) : Value) ∧ ρ 8 = (.int .i64 ((0 : Nat) : Int) : Value) ∧ ρ 18 = (.bool (false) : Value) ∧ True) ⟨T0, T2, T3, T4, T5, T6, T7, T8, (congrArg Value.bool (decide_eq_false (by decide))), trivial⟩ fun ρ34 ⟨T0, T2, T3, T4, T5, T6, T7, T8, T18, _⟩ => ?_
      refine thenF_normal (hK33 _ _ ?_)
      refine wpF_false (show _ = (.bool (false) : Value) from T18) ?_
      refine wpF_skip ?_
      refine thenF_normal (hK32 _ _ ?_)
      refine wpF_seq_k fun K35 hK35 => ?_
      refine wpF_text ?_
      refine opsF_step rfl (YieldsK.move (show _ = (v : Value) from T0) ?_)    -- ref.go:60 t20 := (Op.move (Operand.tmp 0))
      refine opsF_step rfl (YieldsK.move (show _ = (.int .i64 (((0) + ka : Nat) : Int) : Value) from T7) ?_)    -- ref.go:60 t21 := (Op.move (Operand.tmp 7))
      refine opsF_step rfl (YieldsK.callA2 del18_pl25 (show _ = (v : Value) from rfl) (show _ = (.int .i64 (((0) + ka : Nat) : Int) : Value) from rfl) ?_)    -- ref.go:60 t22 := (Op.call { callee := (Callee.value (Operand.func 25)), args := #[(Operand.tmp 20), (Operand.tmp 21)], argTypes
      refine (refGetYes _ v D (hr.keep hE) ((0) + ka) (by omega) hlen xb kb hgxb).mono ?_
      rintro e w37 ⟨rfl, hx36⟩
      refine ⟨_, rfl, ?_⟩
      have hE : Ext w w37 := (hE.trans hx36)
      refine opsF_step rfl (YieldsK.move (show _ = (.tuple #[.int .i64 ((xb : Nat) : Int), .int .i64 ((((0) + ka) + kb : Nat) : Int), .int .i64 ((0 : Nat) : Int)] : Value) from rfl) ?_)    -- ref.go:60 t19 := (Op.move (Operand.tmp 22))
      refine opsF_step rfl (YieldsK.extract (vs := [.int .i64 ((xb : Nat) : Int), .int .i64 ((((0) + ka) + kb : Nat) : Int), .int .i64 ((0 : Nat) : Int)]) (show _ = (.tuple #[.int .i64 ((xb : Nat) : Int), .int .i64 ((((0) + ka) + kb : Nat) : Int), .int .i64 ((0 : Nat) : Int)] : Value) from rfl) (show _ = some (.int .i64 ((xb : Nat) : Int) : Value) from rfl) ?_)    -- ref.go:60 t23 := (Op.extract (Operand.tmp 19) 0)
      refine opsF_step rfl (YieldsK.extract (vs := [.int .i64 ((xb : Nat) : Int), .int .i64 ((((0) + ka) + kb : Nat) : Int), .int .i64 ((0 : Nat) : Int)]) (show _ = (.tuple #[.int .i64 ((xb : Nat) : Int), .int .i64 ((((0) + ka) + kb : Nat) : Int), .int .i64 ((0 : Nat) : Int)] : Value) from rfl) (show _ = some (.int .i64 ((((0) + ka) + kb : Nat) : Int) : Value) from rfl) ?_)    -- ref.go:60 t24 := (Op.extract (Operand.tmp 19) 1)
      refine opsF_step rfl (YieldsK.extract (vs := [.int .i64 ((xb : Nat) : Int), .int .i64 ((((0) + ka) + kb : Nat) : Int), .int .i64 ((0 : Nat) : Int)]) (show _ = (.tuple #[.int .i64 ((xb : Nat) : Int), .int .i64 ((((0) + ka) + kb : Nat) : Int), .int .i64 ((0 : Nat) : Int)] : Value) from rfl) (show _ = some (.int .i64 ((0 : Nat) : Int) : Value) from rfl) ?_)    -- ref.go:60 t25 := (Op.extract (Operand.tmp 19) 2)
      refine opsF_step rfl (YieldsK.assign (show _ = (.int .i64 ((xb : Nat) : Int) : Value) from rfl) ?_)    -- ref.go:60 t9 := (Op.assign (Operand.tmp 23))
      refine opsF_step rfl (YieldsK.assign (show _ = (.int .i64 ((((0) + ka) + kb : Nat) : Int) : Value) from rfl) ?_)    -- ref.go:60 t7 := (Op.assign (Operand.tmp 24))
      refine opsF_step rfl (YieldsK.assign (show _ = (.int .i64 ((0 : Nat) : Int) : Value) from rfl) ?_)    -- ref.go:60 t10 := (Op.assign (Operand.tmp 25))
      refine opsF_end (fun ρ => ρ 0 = (v : Value) ∧ ρ 2 = (.int .i64 ((0 : Nat) : Int) : Value) ∧ ρ 3 = (.int .i64 ((0 : Nat) : Int) : Value) ∧ ρ 4 = (.int .i64 ((0 : Nat) : Int) : Value) ∧ ρ 5 = (.int .i64 ((0 : Nat) : Int) : Value) ∧ ρ 6 = (.int .i64 ((xa : Nat) : Int) : Value) ∧ ρ 7 = (.int .i64 ((((0) + ka) + kb : Nat) : Int) : Value) ∧ ρ 8 = (.int .i64 ((0 : Nat) : Int) : Value) ∧ ρ 9 = (.int .i64 ((xb : Nat) : Int) : Value) ∧ ρ 10 = (.int .i64 ((0 : Nat) : Int) : Value) ∧ ρ 18 = (.bool (false) : Value) ∧ True) ⟨T0, T2, T3, T4, T5, T6, rfl, T8, rfl, rfl, T18, trivial⟩ fun ρ38 ⟨T0, T2, T3, T4, T5, T6, T7, T8, T9, T10, T18, _⟩ => ?_
      refine thenF_normal (hK35 _ _ ?_)
      refine wpF_seq_k fun K39 hK39 => ?_
      refine wpF_seq_k fun K40 hK40 => ?_
      refine wpF_text ?_
      refine opsF_step rfl (YieldsK.move (show _ = (.int .i64 ((0 : Nat) : Int) : Value) from T10) ?_)    -- ref.go:61 t26 := (Op.move (Operand.tmp 10))
      refine opsF_step rfl (YieldsK.eqI (a := ((0 : Nat) : Int)) (b := ((0 : Nat) : Int)) (show _ = (.int .i64 ((0 : Nat) : Int) : Value) from rfl) (show _ = (.int .i64 ((0 : Nat) : Int) : Value) from rfl) (k_neq _ .i64 (0) (0)) ?_)    -- ref.go:61 t27 := (Op.binOp BinOp.neq 3 (Operand.tmp 26) (Operand.const (Value.int IntKind.i64 0)) 3)
      refine opsF_end (fun ρ => ρ 0 = (v : Value) ∧ ρ 2 = (.int .i64 ((0 : Nat) : Int) : Value) ∧ ρ 3 = (.int .i64 ((0 : Nat) : Int) : Value) ∧ ρ 4 = (.int .i64 ((0 : Nat) : Int) : Value) ∧ ρ 5 = (.int .i64 ((0 : Nat) : Int) : Value) ∧ ρ 6 = (.int .i64 ((xa : Nat) : Int) : Value) ∧ ρ 7 = (.int .i64 ((((0) + ka) + kb : Nat) : Int) : Value) ∧ ρ 8 = (.int .i64 ((0 : Nat) : Int) : Value) ∧ ρ 9 = (.int .i64 ((xb : Nat) : Int) : Value) ∧ ρ 10 = (.int .i64 ((0 : Nat) : Int) : Value) ∧ ρ 18 = (.bool (false) : Value) ∧ ρ 27 = (.bool (false) : Value) ∧ True) ⟨T0, T2, T3, T4, T5, T6, T7, T8, T9, T10, T18, (congrArg Value.bool (decide_eq_false (by decide))), trivial⟩ fun ρ41 ⟨T0, T2, T3, T4, T5, T6, T7, T8, T9, T10, T18, T27, _⟩ => ?_
      refine thenF_normal (hK40 _ _ ?_)
      refine wpF_false (show _ = (.bool (false) : Value) from T27) ?_
      refine wpF_skip ?_
      refine thenF_normal (hK39 _ _ ?_)
      refine wpF_seq_k fun K42 hK42 => ?_
      refine wpF_text ?_
      refine opsF_step rfl (YieldsK.move (show _ = (.int .i64 ((xa : Nat) : Int) : Value) from T6) ?_)    -- ref.go:64 t28 := (Op.move (Operand.tmp 6))
      refine opsF_step rfl (YieldsK.move (show _ = (.int .i64 ((xb : Nat) : Int) : Value) from T9) ?_)    -- ref.go:64 t29 := (Op.move (Operand.tmp 9))
      refine opsF_step rfl (YieldsK.move (show _ = (.int .i64 ((((0) + ka) + kb : Nat) : Int) : Value) from T7) ?_)    -- ref.go:64 t30 := (Op.move (Operand.tmp 7))
      refine opsF_step rfl (YieldsK.assign (show _ = (.int .i64 ((xa : Nat) : Int) : Value) from rfl) ?_)    -- ref.go:64 t2 := (Op.assign (Operand.tmp 28))
      refine opsF_step rfl (YieldsK.assign (show _ = (.int .i64 ((xb : Nat) : Int) : Value) from rfl) ?_)    -- ref.go:64 t3 := (Op.assign (Operand.tmp 29))
      refine opsF_step rfl (YieldsK.assign (show _ = (.int .i64 ((((0) + ka) + kb : Nat) : Int) : Value) from rfl) ?_)    -- ref.go:64 t4 := (Op.assign (Operand.tmp 30))
      refine opsF_step rfl (YieldsK.assign (show _ = (.int .i64 ((0 : Nat) : Int) : Value) from rfl) ?_)    -- ref.go:64 t5 := (Op.assign (Operand.const (Value.int IntKind.i64 0)))
      refine opsF_end (fun ρ => ρ 0 = (v : Value) ∧ ρ 2 = (.int .i64 ((xa : Nat) : Int) : Value) ∧ ρ 3 = (.int .i64 ((xb : Nat) : Int) : Value) ∧ ρ 4 = (.int .i64 ((((0) + ka) + kb : Nat) : Int) : Value) ∧ ρ 5 = (.int .i64 ((0 : Nat) : Int) : Value) ∧ ρ 6 = (.int .i64 ((xa : Nat) : Int) : Value) ∧ ρ 7 = (.int .i64 ((((0) + ka) + kb : Nat) : Int) : Value) ∧ ρ 8 = (.int .i64 ((0 : Nat) : Int) : Value) ∧ ρ 9 = (.int .i64 ((xb : Nat) : Int) : Value) ∧ ρ 10 = (.int .i64 ((0 : Nat) : Int) : Value) ∧ ρ 18 = (.bool (false) : Value) ∧ ρ 27 = (.bool (false) : Value) ∧ True) ⟨T0, rfl, rfl, rfl, rfl, T6, T7, T8, T9, T10, T18, T27, trivial⟩ fun ρ43 ⟨T0, T2, T3, T4, T5, T6, T7, T8, T9, T10, T18, T27, _⟩ => ?_
      refine thenF_normal (hK42 _ _ ?_)
      refine wpF_ret ?_
      refine postF_ret (fn := Try.f15) _ rfl [.int .i64 ((xa : Nat) : Int), .int .i64 ((xb : Nat) : Int), .int .i64 ((((0) + ka) + kb : Nat) : Int), .int .i64 ((0 : Nat) : Int)] (.tuple #[.int .i64 ((xa : Nat) : Int), .int .i64 ((xb : Nat) : Int), .int .i64 ((((0) + ka) + kb : Nat) : Int), .int .i64 ((0 : Nat) : Int)]) rfl ⟨T2, T3, T4, T5, trivial⟩ ?_
      refine ⟨?_, hE⟩
      rw [sizesP, hgxa]; simp only; rw [hgxb]
      rfl
end Go.Proofs.Ytfjmbcjcgdfkfaa
