/- DeltaBack, walked. -/
import Derived.Test.YtfjmbcjcgdfkfaaDelBack
namespace Go.Proofs.Ytfjmbcjcgdfkfaa
open Go.RowKit
theorem del13_ty22 : Try.prog.underlying 22 = some (.slice 5) := by kernel_rfl
theorem del13_pl8 : Plain Try.prog 8 := fun _ _ => by kernel_rfl
theorem del13_pl12 : Plain Try.prog 12 := fun _ _ => by kernel_rfl
theorem del13_pl14 : Plain Try.prog 14 := fun _ _ => by kernel_rfl
theorem del13_ty5 : Try.prog.underlying 5 = some (.int .u8) := by kernel_rfl
theorem del13_ty9 : Try.prog.underlying 9 = some (.string) := by kernel_rfl
theorem del13_pl11 : Plain Try.prog 11 := fun _ _ => by kernel_rfl
theorem deltaBack_walk (w : World) (vb vt : Value) (B T : List UInt8) (hrb : RB w vb B) (hrt : RB w vt T) :
    Calls Try.prog 7 #[vb, vt] w fun e w' => e = .returned (.bool true) ∧ Ext w w' := by
  refine calls_of_wpF (args := [vb, vt]) Try.func7 rfl 71 rfl (Nat.le_of_ble_eq_true rfl) ?_
  intro ρ0 hb
  have T0 : ρ0 0 = (vb : Value) := hb.get 0
  have T1 : ρ0 1 = (vt : Value) := hb.get 1
  clear hb
  have hE := Ext.refl w
  refine wpF_seq_k fun K1 hK1 => ?_
  refine wpF_text ?_
  refine opsF_step rfl (YieldsK.assign (show _ = (.bool (false) : Value) from rfl) ?_)    -- outright.go:9 t4 := (Op.assign (Operand.const (Value.bool false)))
  refine opsF_end (fun ρ => ρ 0 = (vb : Value) ∧ ρ 1 = (vt : Value) ∧ ρ 4 = (.bool (false) : Value) ∧ True) ⟨T0, T1, rfl, trivial⟩ fun ρ2 ⟨T0, T1, T4, _⟩ => ?_
  by_cases h1 : 5000 < B.length
  · refine thenF_normal (hK1 _ _ ?_)
    refine wpF_seq_k fun K3 hK3 => ?_
    refine wpF_seq_k fun K4 hK4 => ?_
    refine wpF_text ?_
    refine opsF_step rfl (YieldsK.move (show _ = (vb : Value) from T0) ?_)    -- outright.go:10 t11 := (Op.move (Operand.tmp 0))
    refine opsF_step rfl (YieldsK.lenRB del13_ty22 (RB.of (hrb.keep hE) (show _ = (vb : Value) from rfl)) ?_)    -- outright.go:10 t12 := (Op.call { callee := (Callee.builtin Builtin.len), args := #[(Operand.tmp 11)], argTypes := #[22] })
    refine opsF_step rfl (YieldsK.eqI (a := ((B.length : Nat) : Int)) (b := ((5000 : Nat) : Int)) (show _ = (.int .i64 ((B.length : Nat) : Int) : Value) from rfl) (show _ = (.int .i64 ((5000 : Nat) : Int) : Value) from rfl) (k_gtr _ .i64 (B.length) (5000)) ?_)    -- outright.go:10 t13 := (Op.binOp BinOp.gtr 3 (Operand.tmp 12) (Operand.const (Value.int IntKind.i64 5000)) 3)
    refine opsF_step rfl (YieldsK.move (show _ = (.bool (true) : Value) from (congrArg Value.bool (decide_eq_true (h1)))) ?_)    -- outright.go:10 t14 := (Op.move (Operand.tmp 13))
    refine opsF_off (d := 14) rfl rfl rfl (show _ = (.bool (true) : Value) from rfl) rfl ?_    -- outright.go:10 t15 := (Op.move (Operand.tmp 1))
    refine opsF_off (d := 14) rfl rfl rfl (show _ = (.bool (true) : Value) from rfl) rfl ?_    -- outright.go:10 t16 := (Op.call { callee := (Callee.builtin Builtin.len), args := #[(Operand.tmp 15)], argTypes := #[22] })
    refine opsF_off (d := 14) rfl rfl rfl (show _ = (.bool (true) : Value) from rfl) rfl ?_    -- outright.go:10 t17 := (Op.binOp BinOp.gtr 3 (Operand.tmp 16) (Operand.const (Value.int IntKind.i64 5000)) 3)
    refine opsF_step rfl (YieldsK.pickT (show _ = (.bool (true) : Value) from rfl) (show _ = (.bool (true) : Value) from rfl) ?_)    -- outright.go:10 t18 := (Op.pick (Operand.tmp 14) (Operand.const (Value.bool true)) (Operand.tmp 17))
    refine opsF_end (fun ρ => ρ 0 = (vb : Value) ∧ ρ 1 = (vt : Value) ∧ ρ 4 = (.bool (false) : Value) ∧ ρ 18 = (.bool (true) : Value) ∧ True) ⟨T0, T1, T4, rfl, trivial⟩ fun ρ5 ⟨T0, T1, T4, T18, _⟩ => ?_
    refine thenF_normal (hK4 _ _ ?_)
    refine wpF_true (show _ = (.bool (true) : Value) from T18) ?_
    refine wpF_seq_k fun K6 hK6 => ?_
    refine wpF_text ?_
    refine opsF_step rfl (YieldsK.assign (show _ = (.bool (true) : Value) from rfl) ?_)    -- outright.go:11 t4 := (Op.assign (Operand.const (Value.bool true)))
    refine opsF_end (fun ρ => ρ 0 = (vb : Value) ∧ ρ 1 = (vt : Value) ∧ ρ 4 = (.bool (true) : Value) ∧ ρ 18 = (.bool (true) : Value) ∧ True) ⟨T0, T1, rfl, T18, trivial⟩ fun ρ7 ⟨T0, T1, T4, T18, _⟩ => ?_
    refine thenF_normal (hK6 _ _ ?_)
    refine wpF_ret (thenF_ret ?_)
    refine postF_ret (fn := Try.f7) _ rfl [.bool (true)] (.bool (true)) rfl ⟨T4, trivial⟩ ?_
    exact ⟨rfl, hE⟩
  · by_cases h2 : 5000 < T.length
    · refine thenF_normal (hK1 _ _ ?_)
      refine wpF_seq_k fun K8 hK8 => ?_
      refine wpF_seq_k fun K9 hK9 => ?_
      refine wpF_text ?_
      refine opsF_step rfl (YieldsK.move (show _ = (vb : Value) from T0) ?_)    -- outright.go:10 t11 := (Op.move (Operand.tmp 0))
      refine opsF_step rfl (YieldsK.lenRB del13_ty22 (RB.of (hrb.keep hE) (show _ = (vb : Value) from rfl)) ?_)    -- outright.go:10 t12 := (Op.call { callee := (Callee.builtin Builtin.len), args := #[(Operand.tmp 11)], argTypes := #[22] })
      refine opsF_step rfl (YieldsK.eqI (a := ((B.length : Nat) : Int)) (b := ((5000 : Nat) : Int)) (show _ = (.int .i64 ((B.length : Nat) : Int) : Value) from rfl) (show _ = (.int .i64 ((5000 : Nat) : Int) : Value) from rfl) (k_gtr _ .i64 (B.length) (5000)) ?_)    -- outright.go:10 t13 := (Op.binOp BinOp.gtr 3 (Operand.tmp 12) (Operand.const (Value.int IntKind.i64 5000)) 3)
      refine opsF_step rfl (YieldsK.move (show _ = (.bool (false) : Value) from (congrArg Value.bool (decide_eq_false (h1)))) ?_)    -- outright.go:10 t14 := (Op.move (Operand.tmp 13))
      refine opsF_on (d := 14) rfl rfl (show _ = (.bool (false) : Value) from rfl) (YieldsK.move (show _ = (vt : Value) from T1) ?_)    -- outright.go:10 t15 := (Op.move (Operand.tmp 1))
      refine opsF_on (d := 14) rfl rfl (show _ = (.bool (false) : Value) from rfl) (YieldsK.lenRB del13_ty22 (RB.of (hrt.keep hE) (show _ = (vt : Value) from rfl)) ?_)    -- outright.go:10 t16 := (Op.call { callee := (Callee.builtin Builtin.len), args := #[(Operand.tmp 15)], argTypes := #[22] })
      refine opsF_on (d := 14) rfl rfl (show _ = (.bool (false) : Value) from rfl) (YieldsK.eqI (a := ((T.length : Nat) : Int)) (b := ((5000 : Nat) : Int)) (show _ = (.int .i64 ((T.length : Nat) : Int) : Value) from rfl) (show _ = (.int .i64 ((5000 : Nat) : Int) : Value) from rfl) (k_gtr _ .i64 (T.length) (5000)) ?_)    -- outright.go:10 t17 := (Op.binOp BinOp.gtr 3 (Operand.tmp 16) (Operand.const (Value.int IntKind.i64 5000)) 3)
      refine opsF_step rfl (YieldsK.pickF (show _ = (.bool (false) : Value) from rfl) (show _ = (.bool (true) : Value) from (congrArg Value.bool (decide_eq_true (h2)))) ?_)    -- outright.go:10 t18 := (Op.pick (Operand.tmp 14) (Operand.const (Value.bool true)) (Operand.tmp 17))
      refine opsF_end (fun ρ => ρ 0 = (vb : Value) ∧ ρ 1 = (vt : Value) ∧ ρ 4 = (.bool (false) : Value) ∧ ρ 18 = (.bool (true) : Value) ∧ True) ⟨T0, T1, T4, rfl, trivial⟩ fun ρ10 ⟨T0, T1, T4, T18, _⟩ => ?_
      refine thenF_normal (hK9 _ _ ?_)
      refine wpF_true (show _ = (.bool (true) : Value) from T18) ?_
      refine wpF_seq_k fun K11 hK11 => ?_
      refine wpF_text ?_
      refine opsF_step rfl (YieldsK.assign (show _ = (.bool (true) : Value) from rfl) ?_)    -- outright.go:11 t4 := (Op.assign (Operand.const (Value.bool true)))
      refine opsF_end (fun ρ => ρ 0 = (vb : Value) ∧ ρ 1 = (vt : Value) ∧ ρ 4 = (.bool (true) : Value) ∧ ρ 18 = (.bool (true) : Value) ∧ True) ⟨T0, T1, rfl, T18, trivial⟩ fun ρ12 ⟨T0, T1, T4, T18, _⟩ => ?_
      refine thenF_normal (hK11 _ _ ?_)
      refine wpF_ret (thenF_ret ?_)
      refine postF_ret (fn := Try.f7) _ rfl [.bool (true)] (.bool (true)) rfl ⟨T4, trivial⟩ ?_
      exact ⟨rfl, hE⟩
    · refine thenF_normal (hK1 _ _ ?_)
      refine wpF_seq_k fun K13 hK13 => ?_
      refine wpF_seq_k fun K14 hK14 => ?_
      refine wpF_text ?_
      refine opsF_step rfl (YieldsK.move (show _ = (vb : Value) from T0) ?_)    -- outright.go:10 t11 := (Op.move (Operand.tmp 0))
      refine opsF_step rfl (YieldsK.lenRB del13_ty22 (RB.of (hrb.keep hE) (show _ = (vb : Value) from rfl)) ?_)    -- outright.go:10 t12 := (Op.call { callee := (Callee.builtin Builtin.len), args := #[(Operand.tmp 11)], argTypes := #[22] })
      refine opsF_step rfl (YieldsK.eqI (a := ((B.length : Nat) : Int)) (b := ((5000 : Nat) : Int)) (show _ = (.int .i64 ((B.length : Nat) : Int) : Value) from rfl) (show _ = (.int .i64 ((5000 : Nat) : Int) : Value) from rfl) (k_gtr _ .i64 (B.length) (5000)) ?_)    -- outright.go:10 t13 := (Op.binOp BinOp.gtr 3 (Operand.tmp 12) (Operand.const (Value.int IntKind.i64 5000)) 3)
      refine opsF_step rfl (YieldsK.move (show _ = (.bool (false) : Value) from (congrArg Value.bool (decide_eq_false (h1)))) ?_)    -- outright.go:10 t14 := (Op.move (Operand.tmp 13))
      refine opsF_on (d := 14) rfl rfl (show _ = (.bool (false) : Value) from rfl) (YieldsK.move (show _ = (vt : Value) from T1) ?_)    -- outright.go:10 t15 := (Op.move (Operand.tmp 1))
      refine opsF_on (d := 14) rfl rfl (show _ = (.bool (false) : Value) from rfl) (YieldsK.lenRB del13_ty22 (RB.of (hrt.keep hE) (show _ = (vt : Value) from rfl)) ?_)    -- outright.go:10 t16 := (Op.call { callee := (Callee.builtin Builtin.len), args := #[(Operand.tmp 15)], argTypes := #[22] })
      refine opsF_on (d := 14) rfl rfl (show _ = (.bool (false) : Value) from rfl) (YieldsK.eqI (a := ((T.length : Nat) : Int)) (b := ((5000 : Nat) : Int)) (show _ = (.int .i64 ((T.length : Nat) : Int) : Value) from rfl) (show _ = (.int .i64 ((5000 : Nat) : Int) : Value) from rfl) (k_gtr _ .i64 (T.length) (5000)) ?_)    -- outright.go:10 t17 := (Op.binOp BinOp.gtr 3 (Operand.tmp 16) (Operand.const (Value.int IntKind.i64 5000)) 3)
      refine opsF_step rfl (YieldsK.pickF (show _ = (.bool (false) : Value) from rfl) (show _ = (.bool (false) : Value) from (congrArg Value.bool (decide_eq_false (h2)))) ?_)    -- outright.go:10 t18 := (Op.pick (Operand.tmp 14) (Operand.const (Value.bool true)) (Operand.tmp 17))
      refine opsF_end (fun ρ => ρ 0 = (vb : Value) ∧ ρ 1 = (vt : Value) ∧ ρ 4 = (.bool (false) : Value) ∧ ρ 18 = (.bool (false) : Value) ∧ True) ⟨T0, T1, T4, rfl, trivial⟩ fun ρ15 ⟨T0, T1, T4, T18, _⟩ => ?_
      have hap := apply_make B T (by omega) (by omega)
      have hml := makeP_len B T (by omega) (by omega)
      have hmb := makeP_bound B T (by omega) (by omega)
      refine thenF_normal (hK14 _ _ ?_)
      refine wpF_false (show _ = (.bool (false) : Value) from T18) ?_
      refine wpF_skip ?_
      refine thenF_normal (hK13 _ _ ?_)
      refine wpF_seq_k fun K16 hK16 => ?_
      refine wpF_text ?_
      refine opsF_step rfl (YieldsK.move (show _ = (vb : Value) from T0) ?_)    -- outright.go:13 t19 := (Op.move (Operand.tmp 0))
      refine opsF_step rfl (YieldsK.move (show _ = (vt : Value) from T1) ?_)    -- outright.go:13 t20 := (Op.move (Operand.tmp 1))
      refine opsF_step rfl (YieldsK.callA2 del13_pl8 (show _ = (vb : Value) from rfl) (show _ = (vt : Value) from rfl) ?_)    -- outright.go:13 t21 := (Op.call { callee := (Callee.value (Operand.func 8)), args := #[(Operand.tmp 19), (Operand.tmp 20)], argTypes 
      refine (make_any _ vb vt (B) (T) (hrb.keep hE) (hrt.keep hE) (by omega) (by omega)).mono ?_
      rintro e w21 ⟨v17, rfl, hx18, ho19⟩
      refine ⟨_, rfl, ?_⟩
      have hE : Ext w w21 := (hE.trans hx18)
      have hr20 := RB.ofOwn ho19
      refine opsF_step rfl (YieldsK.assign (show _ = (v17 : Value) from rfl) ?_)    -- outright.go:13 t5 := (Op.assign (Operand.tmp 21))
      refine opsF_end (fun ρ => ρ 0 = (vb : Value) ∧ ρ 1 = (vt : Value) ∧ ρ 4 = (.bool (false) : Value) ∧ ρ 5 = (v17 : Value) ∧ ρ 18 = (.bool (false) : Value) ∧ True) ⟨T0, T1, T4, rfl, T18, trivial⟩ fun ρ22 ⟨T0, T1, T4, T5, T18, _⟩ => ?_
      refine thenF_normal (hK16 _ _ ?_)
      refine wpF_seq_k fun K23 hK23 => ?_
      refine wpF_text ?_
      refine opsF_step rfl (YieldsK.move (show _ = (vb : Value) from T0) ?_)    -- outright.go:14 t23 := (Op.move (Operand.tmp 0))
      refine opsF_step rfl (YieldsK.move (show _ = (v17 : Value) from T5) ?_)    -- outright.go:14 t24 := (Op.move (Operand.tmp 5))
      refine opsF_step rfl (YieldsK.callA2 del13_pl12 (show _ = (vb : Value) from rfl) (show _ = (v17 : Value) from rfl) ?_)    -- outright.go:14 t25 := (Op.call { callee := (Callee.value (Operand.func 12)), args := #[(Operand.tmp 23), (Operand.tmp 24)], argTypes
      refine ((show Calls _ _ _ _ (fun e w2 => ∃ v2, e = .returned (.tuple #[v2, NI (0)]) ∧ RB w2 v2 (T) ∧ Ext _ w2) from by have h := apply_any _ vb v17 (B) (makeP (B) (T)) (hrb.keep hE) hr20 (by omega) (by omega); rw [hap] at h; exact h)).mono ?_
      rintro e w27 ⟨v24, rfl, hr26, hx25⟩
      refine ⟨_, rfl, ?_⟩
      have hE : Ext w w27 := (hE.trans hx25)
      have hr20 : RB w27 v17 (makeP (B) (T)) := (hr20.keep hx25)
      refine opsF_step rfl (YieldsK.move (show _ = (.tuple #[v24, .int .i64 ((0 : Nat) : Int)] : Value) from rfl) ?_)    -- outright.go:14 t22 := (Op.move (Operand.tmp 25))
      refine opsF_step rfl (YieldsK.extract (vs := [v24, .int .i64 ((0 : Nat) : Int)]) (show _ = (.tuple #[v24, .int .i64 ((0 : Nat) : Int)] : Value) from rfl) (show _ = some (v24 : Value) from rfl) ?_)    -- outright.go:14 t26 := (Op.extract (Operand.tmp 22) 0)
      refine opsF_step rfl (YieldsK.extract (vs := [v24, .int .i64 ((0 : Nat) : Int)]) (show _ = (.tuple #[v24, .int .i64 ((0 : Nat) : Int)] : Value) from rfl) (show _ = some (.int .i64 ((0 : Nat) : Int) : Value) from rfl) ?_)    -- outright.go:14 t27 := (Op.extract (Operand.tmp 22) 1)
      refine opsF_step rfl (YieldsK.assign (show _ = (v24 : Value) from rfl) ?_)    -- outright.go:14 t6 := (Op.assign (Operand.tmp 26))
      refine opsF_step rfl (YieldsK.assign (show _ = (.int .i64 ((0 : Nat) : Int) : Value) from rfl) ?_)    -- outright.go:14 t7 := (Op.assign (Operand.tmp 27))
      refine opsF_end (fun ρ => ρ 0 = (vb : Value) ∧ ρ 1 = (vt : Value) ∧ ρ 4 = (.bool (false) : Value) ∧ ρ 5 = (v17 : Value) ∧ ρ 6 = (v24 : Value) ∧ ρ 7 = (.int .i64 ((0 : Nat) : Int) : Value) ∧ ρ 18 = (.bool (false) : Value) ∧ True) ⟨T0, T1, T4, T5, rfl, rfl, T18, trivial⟩ fun ρ28 ⟨T0, T1, T4, T5, T6, T7, T18, _⟩ => ?_
      refine thenF_normal (hK23 _ _ ?_)
      refine wpF_seq_k fun K29 hK29 => ?_
      refine wpF_text ?_
      refine opsF_step rfl (YieldsK.move (show _ = (v17 : Value) from T5) ?_)    -- outright.go:15 t29 := (Op.move (Operand.tmp 5))
      refine opsF_step rfl (YieldsK.callA1 del13_pl14 (show _ = (v17 : Value) from rfl) ?_)    -- outright.go:15 t30 := (Op.call { callee := (Callee.value (Operand.func 14)), args := #[(Operand.tmp 29)], argTypes := #[22] })
      refine ((show Calls _ _ _ _ (fun e w2 => e = .returned (.tuple #[NI B.length, NI T.length, NI 0]) ∧ Ext _ w2) from by have h := Sizes_any _ v17 (makeP (B) (T)) hr20; rw [makeP_sizes B T (by omega) (by omega)] at h; exact h)).mono ?_
      rintro e w31 ⟨rfl, hx30⟩
      refine ⟨_, rfl, ?_⟩
      have hE : Ext w w31 := (hE.trans hx30)
      have hr20 : RB w31 v17 (makeP (B) (T)) := (hr20.keep hx30)
      have hr26 : RB w31 v24 (T) := (hr26.keep hx30)
      refine opsF_step rfl (YieldsK.move (show _ = (.tuple #[.int .i64 ((B.length : Nat) : Int), .int .i64 ((T.length : Nat) : Int), .int .i64 ((0 : Nat) : Int)] : Value) from rfl) ?_)    -- outright.go:15 t28 := (Op.move (Operand.tmp 30))
      refine opsF_step rfl (YieldsK.extract (vs := [.int .i64 ((B.length : Nat) : Int), .int .i64 ((T.length : Nat) : Int), .int .i64 ((0 : Nat) : Int)]) (show _ = (.tuple #[.int .i64 ((B.length : Nat) : Int), .int .i64 ((T.length : Nat) : Int), .int .i64 ((0 : Nat) : Int)] : Value) from rfl) (show _ = some (.int .i64 ((B.length : Nat) : Int) : Value) from rfl) ?_)    -- outright.go:15 t31 := (Op.extract (Operand.tmp 28) 0)
      refine opsF_step rfl (YieldsK.extract (vs := [.int .i64 ((B.length : Nat) : Int), .int .i64 ((T.length : Nat) : Int), .int .i64 ((0 : Nat) : Int)]) (show _ = (.tuple #[.int .i64 ((B.length : Nat) : Int), .int .i64 ((T.length : Nat) : Int), .int .i64 ((0 : Nat) : Int)] : Value) from rfl) (show _ = some (.int .i64 ((T.length : Nat) : Int) : Value) from rfl) ?_)    -- outright.go:15 t32 := (Op.extract (Operand.tmp 28) 1)
      refine opsF_step rfl (YieldsK.extract (vs := [.int .i64 ((B.length : Nat) : Int), .int .i64 ((T.length : Nat) : Int), .int .i64 ((0 : Nat) : Int)]) (show _ = (.tuple #[.int .i64 ((B.length : Nat) : Int), .int .i64 ((T.length : Nat) : Int), .int .i64 ((0 : Nat) : Int)] : Value) from rfl) (show _ = some (.int .i64 ((0 : Nat) : Int) : Value) from rfl) ?_)    -- outright.go:15 t33 := (Op.extract (Operand.tmp 28) 2)
      refine opsF_step rfl (YieldsK.assign (show _ = (.int .i64 ((B.length : Nat) : Int) : Value) from rfl) ?_)    -- outright.go:15 t8 := (Op.assign (Operand.tmp 31))
      refine opsF_step rfl (YieldsK.assign (show _ = (.int .i64 ((T.length : Nat) : Int) : Value) from rfl) ?_)    -- outright.go:15 t9 := (Op.assign (Operand.tmp 32))
      refine opsF_step rfl (YieldsK.assign (show _ = (.int .i64 ((0 : Nat) : Int) : Value) from rfl) ?_)    -- outright.go:15 t10 := (Op.assign (Operand.tmp 33))
      refine opsF_end (fun ρ => ρ 0 = (vb : Value) ∧ ρ 1 = (vt : Value) ∧ ρ 4 = (.bool (false) : Value) ∧ ρ 5 = (v17 : Value) ∧ ρ 6 = (v24 : Value) ∧ ρ 7 = (.int .i64 ((0 : Nat) : Int) : Value) ∧ ρ 8 = (.int .i64 ((B.length : Nat) : Int) : Value) ∧ ρ 9 = (.int .i64 ((T.length : Nat) : Int) : Value) ∧ ρ 10 = (.int .i64 ((0 : Nat) : Int) : Value) ∧ ρ 18 = (.bool (false) : Value) ∧ True) ⟨T0, T1, T4, T5, T6, T7, rfl, rfl, rfl, T18, trivial⟩ fun ρ32 ⟨T0, T1, T4, T5, T6, T7, T8, T9, T10, T18, _⟩ => ?_
      refine thenF_normal (hK29 _ _ ?_)
      refine wpF_seq_k fun K33 hK33 => ?_
      refine wpF_text ?_
      refine opsF_step rfl (YieldsK.move (show _ = (.int .i64 ((0 : Nat) : Int) : Value) from T7) ?_)    -- outright.go:16 t34 := (Op.move (Operand.tmp 7))
      refine opsF_step rfl (YieldsK.eqI (a := ((0 : Nat) : Int)) (b := ((0 : Nat) : Int)) (show _ = (.int .i64 ((0 : Nat) : Int) : Value) from rfl) (show _ = (.int .i64 ((0 : Nat) : Int) : Value) from rfl) (k_eql _ .i64 (0) (0)) ?_)    -- outright.go:16 t35 := (Op.binOp BinOp.eql 28 (Operand.tmp 34) (Operand.const (Value.int IntKind.i64 0)) 28)
      refine opsF_step rfl (YieldsK.move (show _ = (.bool (true) : Value) from (congrArg Value.bool (decide_eq_true (rfl)))) ?_)    -- outright.go:16 t36 := (Op.move (Operand.tmp 35))
      refine opsF_on (d := 36) rfl rfl (show _ = (.bool (true) : Value) from rfl) (YieldsK.move (show _ = (v24 : Value) from T6) ?_)    -- outright.go:16 t37 := (Op.move (Operand.tmp 6))
      refine opsF_on (d := 36) rfl rfl (show _ = (.bool (true) : Value) from rfl) (YieldsK.convRB del13_ty22 del13_ty5 del13_ty9 (RB.of hr26 (show _ = (v24 : Value) from rfl)) ?_)    -- outright.go:16 t38 := (Op.convert 22 9 (Operand.tmp 37))
      refine opsF_on (d := 36) rfl rfl (show _ = (.bool (true) : Value) from rfl) (YieldsK.move (show _ = (vt : Value) from T1) ?_)    -- outright.go:16 t39 := (Op.move (Operand.tmp 1))
      refine opsF_on (d := 36) rfl rfl (show _ = (.bool (true) : Value) from rfl) (YieldsK.convRB del13_ty22 del13_ty5 del13_ty9 (RB.of (hrt.keep hE) (show _ = (vt : Value) from rfl)) ?_)    -- outright.go:16 t40 := (Op.convert 22 9 (Operand.tmp 39))
      refine opsF_on (d := 36) rfl rfl (show _ = (.bool (true) : Value) from rfl) (YieldsK.eqSt (l := T) (m := T) (.inl rfl) (show _ = (.string ⟨(T).toArray⟩ : Value) from rfl) (show _ = (.string ⟨(T).toArray⟩ : Value) from rfl) (decide (T = T)) rfl ?_)    -- outright.go:16 t41 := (Op.binOp BinOp.eql 9 (Operand.tmp 38) (Operand.tmp 40) 9)
      refine opsF_step rfl (YieldsK.pickT (show _ = (.bool (true) : Value) from rfl) (show _ = (.bool (true) : Value) from (congrArg Value.bool (decide_eq_true (rfl)))) ?_)    -- outright.go:16 t42 := (Op.pick (Operand.tmp 36) (Operand.tmp 41) (Operand.const (Value.bool false)))
      refine opsF_step rfl (YieldsK.move (show _ = (.bool (true) : Value) from rfl) ?_)    -- outright.go:16 t43 := (Op.move (Operand.tmp 42))
      refine opsF_on (d := 43) rfl rfl (show _ = (.bool (true) : Value) from rfl) (YieldsK.move (show _ = (.int .i64 ((0 : Nat) : Int) : Value) from T10) ?_)    -- outright.go:16 t44 := (Op.move (Operand.tmp 10))
      refine opsF_on (d := 43) rfl rfl (show _ = (.bool (true) : Value) from rfl) (YieldsK.eqI (a := ((0 : Nat) : Int)) (b := ((0 : Nat) : Int)) (show _ = (.int .i64 ((0 : Nat) : Int) : Value) from rfl) (show _ = (.int .i64 ((0 : Nat) : Int) : Value) from rfl) (k_eql _ .i64 (0) (0)) ?_)    -- outright.go:16 t45 := (Op.binOp BinOp.eql 28 (Operand.tmp 44) (Operand.const (Value.int IntKind.i64 0)) 28)
      refine opsF_step rfl (YieldsK.pickT (show _ = (.bool (true) : Value) from rfl) (show _ = (.bool (true) : Value) from (congrArg Value.bool (decide_eq_true (rfl)))) ?_)    -- outright.go:16 t46 := (Op.pick (Operand.tmp 43) (Operand.tmp 45) (Operand.const (Value.bool false)))
      refine opsF_step rfl (YieldsK.move (show _ = (.bool (true) : Value) from rfl) ?_)    -- outright.go:16 t47 := (Op.move (Operand.tmp 46))
      refine opsF_on (d := 47) rfl rfl (show _ = (.bool (true) : Value) from rfl) (YieldsK.move (show _ = (.int .i64 ((B.length : Nat) : Int) : Value) from T8) ?_)    -- outright.go:16 t48 := (Op.move (Operand.tmp 8))
      refine opsF_on (d := 47) rfl rfl (show _ = (.bool (true) : Value) from rfl) (YieldsK.move (show _ = (vb : Value) from T0) ?_)    -- outright.go:16 t49 := (Op.move (Operand.tmp 0))
      refine opsF_on (d := 47) rfl rfl (show _ = (.bool (true) : Value) from rfl) (YieldsK.lenRB del13_ty22 (RB.of (hrb.keep hE) (show _ = (vb : Value) from rfl)) ?_)    -- outright.go:16 t50 := (Op.call { callee := (Callee.builtin Builtin.len), args := #[(Operand.tmp 49)], argTypes := #[22] })
      refine opsF_on (d := 47) rfl rfl (show _ = (.bool (true) : Value) from rfl) (YieldsK.eqI (a := ((B.length : Nat) : Int)) (b := ((B.length : Nat) : Int)) (show _ = (.int .i64 ((B.length : Nat) : Int) : Value) from rfl) (show _ = (.int .i64 ((B.length : Nat) : Int) : Value) from rfl) (k_eql _ .i64 (B.length) (B.length)) ?_)    -- outright.go:16 t51 := (Op.binOp BinOp.eql 3 (Operand.tmp 48) (Operand.tmp 50) 3)
      refine opsF_step rfl (YieldsK.pickT (show _ = (.bool (true) : Value) from rfl) (show _ = (.bool (true) : Value) from (congrArg Value.bool (decide_eq_true (rfl)))) ?_)    -- outright.go:16 t52 := (Op.pick (Operand.tmp 47) (Operand.tmp 51) (Operand.const (Value.bool false)))
      refine opsF_step rfl (YieldsK.move (show _ = (.bool (true) : Value) from rfl) ?_)    -- outright.go:16 t53 := (Op.move (Operand.tmp 52))
      refine opsF_on (d := 53) rfl rfl (show _ = (.bool (true) : Value) from rfl) (YieldsK.move (show _ = (.int .i64 ((T.length : Nat) : Int) : Value) from T9) ?_)    -- outright.go:16 t54 := (Op.move (Operand.tmp 9))
      refine opsF_on (d := 53) rfl rfl (show _ = (.bool (true) : Value) from rfl) (YieldsK.move (show _ = (vt : Value) from T1) ?_)    -- outright.go:16 t55 := (Op.move (Operand.tmp 1))
      refine opsF_on (d := 53) rfl rfl (show _ = (.bool (true) : Value) from rfl) (YieldsK.lenRB del13_ty22 (RB.of (hrt.keep hE) (show _ = (vt : Value) from rfl)) ?_)    -- outright.go:16 t56 := (Op.call { callee := (Callee.builtin Builtin.len), args := #[(Operand.tmp 55)], argTypes := #[22] })
      refine opsF_on (d := 53) rfl rfl (show _ = (.bool (true) : Value) from rfl) (YieldsK.eqI (a := ((T.length : Nat) : Int)) (b := ((T.length : Nat) : Int)) (show _ = (.int .i64 ((T.length : Nat) : Int) : Value) from rfl) (show _ = (.int .i64 ((T.length : Nat) : Int) : Value) from rfl) (k_eql _ .i64 (T.length) (T.length)) ?_)    -- outright.go:16 t57 := (Op.binOp BinOp.eql 3 (Operand.tmp 54) (Operand.tmp 56) 3)
      refine opsF_step rfl (YieldsK.pickT (show _ = (.bool (true) : Value) from rfl) (show _ = (.bool (true) : Value) from (congrArg Value.bool (decide_eq_true (rfl)))) ?_)    -- outright.go:16 t58 := (Op.pick (Operand.tmp 53) (Operand.tmp 57) (Operand.const (Value.bool false)))
      refine opsF_step rfl (YieldsK.move (show _ = (.bool (true) : Value) from rfl) ?_)    -- outright.go:16 t59 := (Op.move (Operand.tmp 58))
      refine opsF_on (d := 59) rfl rfl (show _ = (.bool (true) : Value) from rfl) (YieldsK.move (show _ = (v17 : Value) from T5) ?_)    -- outright.go:16 t60 := (Op.move (Operand.tmp 5))
      refine opsF_on (d := 59) rfl rfl (show _ = (.bool (true) : Value) from rfl) (YieldsK.lenRB del13_ty22 (RB.of hr20 (show _ = (v17 : Value) from rfl)) ?_)    -- outright.go:16 t61 := (Op.call { callee := (Callee.builtin Builtin.len), args := #[(Operand.tmp 60)], argTypes := #[22] })
      refine opsF_on (d := 59) rfl rfl (show _ = (.bool (true) : Value) from rfl) (YieldsK.move (show _ = (vt : Value) from T1) ?_)    -- outright.go:16 t62 := (Op.move (Operand.tmp 1))
      refine opsF_on (d := 59) rfl rfl (show _ = (.bool (true) : Value) from rfl) (YieldsK.lenRB del13_ty22 (RB.of (hrt.keep hE) (show _ = (vt : Value) from rfl)) ?_)    -- outright.go:16 t63 := (Op.call { callee := (Callee.builtin Builtin.len), args := #[(Operand.tmp 62)], argTypes := #[22] })
      refine opsF_on (d := 59) rfl rfl (show _ = (.bool (true) : Value) from rfl) (YieldsK.bin (xv := .int .i64 ((2 : Nat) : Int)) (yv := .int .i64 ((T.length : Nat) : Int)) (show _ = (.int .i64 ((2 : Nat) : Int) : Value) from rfl) (show _ = (.int .i64 ((T.length : Nat) : Int) : Value) from rfl) rfl (i64_mul _ (2) (T.length) (by omega)) ?_)    -- outright.go:16 t64 := (Op.binOp BinOp.mul 3 (Operand.const (Value.int IntKind.i64 2)) (Operand.tmp 63) 3)
      refine opsF_on (d := 59) rfl rfl (show _ = (.bool (true) : Value) from rfl) (YieldsK.bin (xv := .int .i64 (((2) * (T.length) : Nat) : Int)) (yv := .int .i64 ((18 : Nat) : Int)) (show _ = (.int .i64 (((2) * (T.length) : Nat) : Int) : Value) from rfl) (show _ = (.int .i64 ((18 : Nat) : Int) : Value) from rfl) rfl (i64_add _ ((2) * (T.length)) (18) (by omega)) ?_)    -- outright.go:16 t65 := (Op.binOp BinOp.add 3 (Operand.tmp 64) (Operand.const (Value.int IntKind.i64 18)) 3)
      refine opsF_on (d := 59) rfl rfl (show _ = (.bool (true) : Value) from rfl) (YieldsK.eqI (a := (((makeP (B) (T) : List UInt8).length : Nat) : Int)) (b := ((((2) * (T.length)) + (18) : Nat) : Int)) (show _ = (.int .i64 (((makeP (B) (T) : List UInt8).length : Nat) : Int) : Value) from rfl) (show _ = (.int .i64 ((((2) * (T.length)) + (18) : Nat) : Int) : Value) from rfl) (k_leq _ .i64 ((makeP (B) (T) : List UInt8).length) (((2) * (T.length)) + (18))) ?_)    -- outright.go:16 t66 := (Op.binOp BinOp.leq 3 (Operand.tmp 61) (Operand.tmp 65) 3)
      refine opsF_step rfl (YieldsK.pickT (show _ = (.bool (true) : Value) from rfl) (show _ = (.bool (true) : Value) from (congrArg Value.bool (decide_eq_true (by omega)))) ?_)    -- outright.go:16 t67 := (Op.pick (Operand.tmp 59) (Operand.tmp 66) (Operand.const (Value.bool false)))
      refine opsF_step rfl (YieldsK.move (show _ = (.bool (true) : Value) from rfl) ?_)    -- outright.go:16 t68 := (Op.move (Operand.tmp 67))
      refine opsF_on (d := 68) rfl rfl (show _ = (.bool (true) : Value) from rfl) (YieldsK.callA0 del13_pl11  ?_)    -- outright.go:16 t69 := (Op.call { callee := (Callee.value (Operand.func 11)), args := #[], argTypes := #[] })
      refine (awake10 _).mono ?_
      rintro e w35 ⟨rfl, hx34⟩
      refine ⟨_, rfl, ?_⟩
      have hE : Ext w w35 := (hE.trans hx34)
      have hr20 : RB w35 v17 (makeP (B) (T)) := (hr20.keep hx34)
      have hr26 : RB w35 v24 (T) := (hr26.keep hx34)
      refine opsF_step rfl (YieldsK.pickT (show _ = (.bool (true) : Value) from rfl) (show _ = (.bool (true) : Value) from rfl) ?_)    -- outright.go:16 t70 := (Op.pick (Operand.tmp 68) (Operand.tmp 69) (Operand.const (Value.bool false)))
      refine opsF_step rfl (YieldsK.assign (show _ = (.bool (true) : Value) from rfl) ?_)    -- outright.go:16 t4 := (Op.assign (Operand.tmp 70))
      refine opsF_end (fun ρ => ρ 0 = (vb : Value) ∧ ρ 1 = (vt : Value) ∧ ρ 4 = (.bool (true) : Value) ∧ ρ 5 = (v17 : Value) ∧ ρ 6 = (v24 : Value) ∧ ρ 7 = (.int .i64 ((0 : Nat) : Int) : Value) ∧ ρ 8 = (.int .i64 ((B.length : Nat) : Int) : Value) ∧ ρ 9 = (.int .i64 ((T.length : Nat) : Int) : Value) ∧ ρ 10 = (.int .i64 ((0 : Nat) : Int) : Value) ∧ ρ 18 = (.bool (false) : Value) ∧ True) ⟨T0, T1, rfl, T5, T6, T7, T8, T9, T10, T18, trivial⟩ fun ρ36 ⟨T0, T1, T4, T5, T6, T7, T8, T9, T10, T18, _⟩ => ?_
      refine thenF_normal (hK33 _ _ ?_)
      refine wpF_ret ?_
      refine postF_ret (fn := Try.f7) _ rfl [.bool (true)] (.bool (true)) rfl ⟨T4, trivial⟩ ?_
      exact ⟨rfl, hE⟩
end Go.Proofs.Ytfjmbcjcgdfkfaa
