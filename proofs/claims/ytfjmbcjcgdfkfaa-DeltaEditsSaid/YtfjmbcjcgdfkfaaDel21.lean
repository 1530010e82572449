/- DeltaEdits, walked. -/
import Derived.Test.YtfjmbcjcgdfkfaaDelEdits
import Derived.Test.YtfjmbcjcgdfkfaaDraw2
namespace Go.Proofs.Ytfjmbcjcgdfkfaa
open Go.RowKit
theorem u64_nat (n : Int) : ∃ C : Nat, IntKind.u64.wrap n = (C : Int) := by
  refine ⟨(IntKind.u64.wrap n).toNat, ?_⟩
  have : 0 ≤ IntKind.u64.wrap n := by
    simp only [IntKind.wrap, IntKind.bits, IntKind.signed]
    simp
    omega
  omega
theorem del21_ty22 : Try.prog.underlying 22 = some (.slice 5) := by kernel_rfl
theorem del21_ty3 : Try.prog.underlying 3 = some (.int .i64) := by kernel_rfl
theorem del21_ty27 : Try.prog.underlying 27 = some (.int .u64) := by kernel_rfl
theorem del21_l0_22 (w : World) : (Instr.buildSlice 22 0 #[]).run Try.prog w = .ok (.slice (some ⟨w.heap.size, 0, none⟩) 0 0) (w.alloc (.cells #[] 5)) := by kernel_rfl
theorem del21_sz5 : ∀ w' : World, (sizeOf 5).run Try.prog w' = .ok 1 w' := fun _ => by kernel_rfl
theorem del21_inf5 : (Try.prog.info? 5).map (fun i => (i.zero, i.size, i.bytes)) = some (some (.int .u8 0), 1, 1) := by kernel_rfl
theorem del21_pl8 : Plain Try.prog 8 := fun _ _ => by kernel_rfl
theorem del21_pl12 : Plain Try.prog 12 := fun _ _ => by kernel_rfl
theorem del21_ty5 : Try.prog.underlying 5 = some (.int .u8) := by kernel_rfl
theorem del21_ty9 : Try.prog.underlying 9 = some (.string) := by kernel_rfl
theorem del21_pl11 : Plain Try.prog 11 := fun _ _ => by kernel_rfl
theorem deltaEdits_walk (w : World) (vb vp : Value) (B P : List UInt8) (hrb : RB w vb B) (hrp : RB w vp P) (at_ : Int) :
    Calls Try.prog 4 #[vb, .int .i64 at_, vp] w fun e w' => e = .returned (.bool true) ∧ Ext w w' := by
  obtain ⟨C, hcut⟩ := u64_nat at_
  refine calls_of_wpF (args := [vb, .int .i64 (at_ : Int), vp]) Try.func4 rfl 75 rfl (Nat.le_of_ble_eq_true rfl) ?_
  intro ρ0 hb
  have T0 : ρ0 0 = (vb : Value) := hb.get 0
  have T1 : ρ0 1 = (.int .i64 (at_ : Int) : Value) := hb.get 1
  have T2 : ρ0 2 = (vp : Value) := hb.get 2
  clear hb
  have hE := Ext.refl w
  refine wpF_seq_k fun K1 hK1 => ?_
  refine wpF_text ?_
  refine opsF_step rfl (YieldsK.assign (show _ = (.bool (false) : Value) from rfl) ?_)    -- outright.go:20 t6 := (Op.assign (Operand.const (Value.bool false)))
  refine opsF_end (fun ρ => ρ 0 = (vb : Value) ∧ ρ 1 = (.int .i64 (at_ : Int) : Value) ∧ ρ 2 = (vp : Value) ∧ ρ 6 = (.bool (false) : Value) ∧ True) ⟨T0, T1, T2, rfl, trivial⟩ fun ρ2 ⟨T0, T1, T2, T6, _⟩ => ?_
  by_cases h1 : B.length < 100
  · refine thenF_normal (hK1 _ _ ?_)
    refine wpF_seq_k fun K3 hK3 => ?_
    refine wpF_seq_k fun K4 hK4 => ?_
    refine wpF_text ?_
    refine opsF_step rfl (YieldsK.move (show _ = (vb : Value) from T0) ?_)    -- outright.go:21 t12 := (Op.move (Operand.tmp 0))
    refine opsF_step rfl (YieldsK.lenRB del21_ty22 (RB.of (hrb.keep hE) (show _ = (vb : Value) from rfl)) ?_)    -- outright.go:21 t13 := (Op.call { callee := (Callee.builtin Builtin.len), args := #[(Operand.tmp 12)], argTypes := #[22] })
    refine opsF_step rfl (YieldsK.eqI (a := ((B.length : Nat) : Int)) (b := ((100 : Nat) : Int)) (show _ = (.int .i64 ((B.length : Nat) : Int) : Value) from rfl) (show _ = (.int .i64 ((100 : Nat) : Int) : Value) from rfl) (k_lss _ .i64 (B.length) (100)) ?_)    -- outright.go:21 t14 := (Op.binOp BinOp.lss 3 (Operand.tmp 13) (Operand.const (Value.int IntKind.i64 100)) 3)
    refine opsF_step rfl (YieldsK.move (show _ = (.bool (true) : Value) from (congrArg Value.bool (decide_eq_true (h1)))) ?_)    -- outright.go:21 t15 := (Op.move (Operand.tmp 14))
    refine opsF_off (d := 15) rfl rfl rfl (show _ = (.bool (true) : Value) from rfl) rfl ?_    -- outright.go:21 t16 := (Op.move (Operand.tmp 0))
    refine opsF_off (d := 15) rfl rfl rfl (show _ = (.bool (true) : Value) from rfl) rfl ?_    -- outright.go:21 t17 := (Op.call { callee := (Callee.builtin Builtin.len), args := #[(Operand.tmp 16)], argTypes := #[22] })
    refine opsF_off (d := 15) rfl rfl rfl (show _ = (.bool (true) : Value) from rfl) rfl ?_    -- outright.go:21 t18 := (Op.binOp BinOp.gtr 3 (Operand.tmp 17) (Operand.const (Value.int IntKind.i64 3000)) 3)
    refine opsF_step rfl (YieldsK.pickT (show _ = (.bool (true) : Value) from rfl) (show _ = (.bool (true) : Value) from rfl) ?_)    -- outright.go:21 t19 := (Op.pick (Operand.tmp 15) (Operand.const (Value.bool true)) (Operand.tmp 18))
    refine opsF_step rfl (YieldsK.move (show _ = (.bool (true) : Value) from rfl) ?_)    -- outright.go:21 t20 := (Op.move (Operand.tmp 19))
    refine opsF_off (d := 20) rfl rfl rfl (show _ = (.bool (true) : Value) from rfl) rfl ?_    -- outright.go:21 t21 := (Op.move (Operand.tmp 2))
    refine opsF_off (d := 20) rfl rfl rfl (show _ = (.bool (true) : Value) from rfl) rfl ?_    -- outright.go:21 t22 := (Op.call { callee := (Callee.builtin Builtin.len), args := #[(Operand.tmp 21)], argTypes := #[22] })
    refine opsF_off (d := 20) rfl rfl rfl (show _ = (.bool (true) : Value) from rfl) rfl ?_    -- outright.go:21 t23 := (Op.binOp BinOp.gtr 3 (Operand.tmp 22) (Operand.const (Value.int IntKind.i64 200)) 3)
    refine opsF_step rfl (YieldsK.pickT (show _ = (.bool (true) : Value) from rfl) (show _ = (.bool (true) : Value) from rfl) ?_)    -- outright.go:21 t24 := (Op.pick (Operand.tmp 20) (Operand.const (Value.bool true)) (Operand.tmp 23))
    refine opsF_end (fun ρ => ρ 0 = (vb : Value) ∧ ρ 1 = (.int .i64 (at_ : Int) : Value) ∧ ρ 2 = (vp : Value) ∧ ρ 6 = (.bool (false) : Value) ∧ ρ 24 = (.bool (true) : Value) ∧ True) ⟨T0, T1, T2, T6, rfl, trivial⟩ fun ρ5 ⟨T0, T1, T2, T6, T24, _⟩ => ?_
    refine thenF_normal (hK4 _ _ ?_)
    refine wpF_true (show _ = (.bool (true) : Value) from T24) ?_
    refine wpF_seq_k fun K6 hK6 => ?_
    refine wpF_text ?_
    refine opsF_step rfl (YieldsK.assign (show _ = (.bool (true) : Value) from rfl) ?_)    -- outright.go:22 t6 := (Op.assign (Operand.const (Value.bool true)))
    refine opsF_end (fun ρ => ρ 0 = (vb : Value) ∧ ρ 1 = (.int .i64 (at_ : Int) : Value) ∧ ρ 2 = (vp : Value) ∧ ρ 6 = (.bool (true) : Value) ∧ ρ 24 = (.bool (true) : Value) ∧ True) ⟨T0, T1, T2, rfl, T24, trivial⟩ fun ρ7 ⟨T0, T1, T2, T6, T24, _⟩ => ?_
    refine thenF_normal (hK6 _ _ ?_)
    refine wpF_ret (thenF_ret ?_)
    refine postF_ret (fn := Try.f4) _ rfl [.bool (true)] (.bool (true)) rfl ⟨T6, trivial⟩ ?_
    exact ⟨rfl, hE⟩
  · by_cases h2 : 3000 < B.length
    · refine thenF_normal (hK1 _ _ ?_)
      refine wpF_seq_k fun K8 hK8 => ?_
      refine wpF_seq_k fun K9 hK9 => ?_
      refine wpF_text ?_
      refine opsF_step rfl (YieldsK.move (show _ = (vb : Value) from T0) ?_)    -- outright.go:21 t12 := (Op.move (Operand.tmp 0))
      refine opsF_step rfl (YieldsK.lenRB del21_ty22 (RB.of (hrb.keep hE) (show _ = (vb : Value) from rfl)) ?_)    -- outright.go:21 t13 := (Op.call { callee := (Callee.builtin Builtin.len), args := #[(Operand.tmp 12)], argTypes := #[22] })
      refine opsF_step rfl (YieldsK.eqI (a := ((B.length : Nat) : Int)) (b := ((100 : Nat) : Int)) (show _ = (.int .i64 ((B.length : Nat) : Int) : Value) from rfl) (show _ = (.int .i64 ((100 : Nat) : Int) : Value) from rfl) (k_lss _ .i64 (B.length) (100)) ?_)    -- outright.go:21 t14 := (Op.binOp BinOp.lss 3 (Operand.tmp 13) (Operand.const (Value.int IntKind.i64 100)) 3)
      refine opsF_step rfl (YieldsK.move (show _ = (.bool (false) : Value) from (congrArg Value.bool (decide_eq_false (h1)))) ?_)    -- outright.go:21 t15 := (Op.move (Operand.tmp 14))
      refine opsF_on (d := 15) rfl rfl (show _ = (.bool (false) : Value) from rfl) (YieldsK.move (show _ = (vb : Value) from T0) ?_)    -- outright.go:21 t16 := (Op.move (Operand.tmp 0))
      refine opsF_on (d := 15) rfl rfl (show _ = (.bool (false) : Value) from rfl) (YieldsK.lenRB del21_ty22 (RB.of (hrb.keep hE) (show _ = (vb : Value) from rfl)) ?_)    -- outright.go:21 t17 := (Op.call { callee := (Callee.builtin Builtin.len), args := #[(Operand.tmp 16)], argTypes := #[22] })
      refine opsF_on (d := 15) rfl rfl (show _ = (.bool (false) : Value) from rfl) (YieldsK.eqI (a := ((B.length : Nat) : Int)) (b := ((3000 : Nat) : Int)) (show _ = (.int .i64 ((B.length : Nat) : Int) : Value) from rfl) (show _ = (.int .i64 ((3000 : Nat) : Int) : Value) from rfl) (k_gtr _ .i64 (B.length) (3000)) ?_)    -- outright.go:21 t18 := (Op.binOp BinOp.gtr 3 (Operand.tmp 17) (Operand.const (Value.int IntKind.i64 3000)) 3)
      refine opsF_step rfl (YieldsK.pickF (show _ = (.bool (false) : Value) from rfl) (show _ = (.bool (true) : Value) from (congrArg Value.bool (decide_eq_true (h2)))) ?_)    -- outright.go:21 t19 := (Op.pick (Operand.tmp 15) (Operand.const (Value.bool true)) (Operand.tmp 18))
      refine opsF_step rfl (YieldsK.move (show _ = (.bool (true) : Value) from rfl) ?_)    -- outright.go:21 t20 := (Op.move (Operand.tmp 19))
      refine opsF_off (d := 20) rfl rfl rfl (show _ = (.bool (true) : Value) from rfl) rfl ?_    -- outright.go:21 t21 := (Op.move (Operand.tmp 2))
      refine opsF_off (d := 20) rfl rfl rfl (show _ = (.bool (true) : Value) from rfl) rfl ?_    -- outright.go:21 t22 := (Op.call { callee := (Callee.builtin Builtin.len), args := #[(Operand.tmp 21)], argTypes := #[22] })
      refine opsF_off (d := 20) rfl rfl rfl (show _ = (.bool (true) : Value) from rfl) rfl ?_    -- outright.go:21 t23 := (Op.binOp BinOp.gtr 3 (Operand.tmp 22) (Operand.const (Value.int IntKind.i64 200)) 3)
      refine opsF_step rfl (YieldsK.pickT (show _ = (.bool (true) : Value) from rfl) (show _ = (.bool (true) : Value) from rfl) ?_)    -- outright.go:21 t24 := (Op.pick (Operand.tmp 20) (Operand.const (Value.bool true)) (Operand.tmp 23))
      refine opsF_end (fun ρ => ρ 0 = (vb : Value) ∧ ρ 1 = (.int .i64 (at_ : Int) : Value) ∧ ρ 2 = (vp : Value) ∧ ρ 6 = (.bool (false) : Value) ∧ ρ 24 = (.bool (true) : Value) ∧ True) ⟨T0, T1, T2, T6, rfl, trivial⟩ fun ρ10 ⟨T0, T1, T2, T6, T24, _⟩ => ?_
      refine thenF_normal (hK9 _ _ ?_)
      refine wpF_true (show _ = (.bool (true) : Value) from T24) ?_
      refine wpF_seq_k fun K11 hK11 => ?_
      refine wpF_text ?_
      refine opsF_step rfl (YieldsK.assign (show _ = (.bool (true) : Value) from rfl) ?_)    -- outright.go:22 t6 := (Op.assign (Operand.const (Value.bool true)))
      refine opsF_end (fun ρ => ρ 0 = (vb : Value) ∧ ρ 1 = (.int .i64 (at_ : Int) : Value) ∧ ρ 2 = (vp : Value) ∧ ρ 6 = (.bool (true) : Value) ∧ ρ 24 = (.bool (true) : Value) ∧ True) ⟨T0, T1, T2, rfl, T24, trivial⟩ fun ρ12 ⟨T0, T1, T2, T6, T24, _⟩ => ?_
      refine thenF_normal (hK11 _ _ ?_)
      refine wpF_ret (thenF_ret ?_)
      refine postF_ret (fn := Try.f4) _ rfl [.bool (true)] (.bool (true)) rfl ⟨T6, trivial⟩ ?_
      exact ⟨rfl, hE⟩
    · by_cases h3 : 200 < P.length
      · refine thenF_normal (hK1 _ _ ?_)
        refine wpF_seq_k fun K13 hK13 => ?_
        refine wpF_seq_k fun K14 hK14 => ?_
        refine wpF_text ?_
        refine opsF_step rfl (YieldsK.move (show _ = (vb : Value) from T0) ?_)    -- outright.go:21 t12 := (Op.move (Operand.tmp 0))
        refine opsF_step rfl (YieldsK.lenRB del21_ty22 (RB.of (hrb.keep hE) (show _ = (vb : Value) from rfl)) ?_)    -- outright.go:21 t13 := (Op.call { callee := (Callee.builtin Builtin.len), args := #[(Operand.tmp 12)], argTypes := #[22] })
        refine opsF_step rfl (YieldsK.eqI (a := ((B.length : Nat) : Int)) (b := ((100 : Nat) : Int)) (show _ = (.int .i64 ((B.length : Nat) : Int) : Value) from rfl) (show _ = (.int .i64 ((100 : Nat) : Int) : Value) from rfl) (k_lss _ .i64 (B.length) (100)) ?_)    -- outright.go:21 t14 := (Op.binOp BinOp.lss 3 (Operand.tmp 13) (Operand.const (Value.int IntKind.i64 100)) 3)
        refine opsF_step rfl (YieldsK.move (show _ = (.bool (false) : Value) from (congrArg Value.bool (decide_eq_false (h1)))) ?_)    -- outright.go:21 t15 := (Op.move (Operand.tmp 14))
        refine opsF_on (d := 15) rfl rfl (show _ = (.bool (false) : Value) from rfl) (YieldsK.move (show _ = (vb : Value) from T0) ?_)    -- outright.go:21 t16 := (Op.move (Operand.tmp 0))
        refine opsF_on (d := 15) rfl rfl (show _ = (.bool (false) : Value) from rfl) (YieldsK.lenRB del21_ty22 (RB.of (hrb.keep hE) (show _ = (vb : Value) from rfl)) ?_)    -- outright.go:21 t17 := (Op.call { callee := (Callee.builtin Builtin.len), args := #[(Operand.tmp 16)], argTypes := #[22] })
        refine opsF_on (d := 15) rfl rfl (show _ = (.bool (false) : Value) from rfl) (YieldsK.eqI (a := ((B.length : Nat) : Int)) (b := ((3000 : Nat) : Int)) (show _ = (.int .i64 ((B.length : Nat) : Int) : Value) from rfl) (show _ = (.int .i64 ((3000 : Nat) : Int) : Value) from rfl) (k_gtr _ .i64 (B.length) (3000)) ?_)    -- outright.go:21 t18 := (Op.binOp BinOp.gtr 3 (Operand.tmp 17) (Operand.const (Value.int IntKind.i64 3000)) 3)
        refine opsF_step rfl (YieldsK.pickF (show _ = (.bool (false) : Value) from rfl) (show _ = (.bool (false) : Value) from (congrArg Value.bool (decide_eq_false (h2)))) ?_)    -- outright.go:21 t19 := (Op.pick (Operand.tmp 15) (Operand.const (Value.bool true)) (Operand.tmp 18))
        refine opsF_step rfl (YieldsK.move (show _ = (.bool (false) : Value) from rfl) ?_)    -- outright.go:21 t20 := (Op.move (Operand.tmp 19))
        refine opsF_on (d := 20) rfl rfl (show _ = (.bool (false) : Value) from rfl) (YieldsK.move (show _ = (vp : Value) from T2) ?_)    -- outright.go:21 t21 := (Op.move (Operand.tmp 2))
        refine opsF_on (d := 20) rfl rfl (show _ = (.bool (false) : Value) from rfl) (YieldsK.lenRB del21_ty22 (RB.of (hrp.keep hE) (show _ = (vp : Value) from rfl)) ?_)    -- outright.go:21 t22 := (Op.call { callee := (Callee.builtin Builtin.len), args := #[(Operand.tmp 21)], argTypes := #[22] })
        refine opsF_on (d := 20) rfl rfl (show _ = (.bool (false) : Value) from rfl) (YieldsK.eqI (a := ((P.length : Nat) : Int)) (b := ((200 : Nat) : Int)) (show _ = (.int .i64 ((P.length : Nat) : Int) : Value) from rfl) (show _ = (.int .i64 ((200 : Nat) : Int) : Value) from rfl) (k_gtr _ .i64 (P.length) (200)) ?_)    -- outright.go:21 t23 := (Op.binOp BinOp.gtr 3 (Operand.tmp 22) (Operand.const (Value.int IntKind.i64 200)) 3)
        refine opsF_step rfl (YieldsK.pickF (show _ = (.bool (false) : Value) from rfl) (show _ = (.bool (true) : Value) from (congrArg Value.bool (decide_eq_true (h3)))) ?_)    -- outright.go:21 t24 := (Op.pick (Operand.tmp 20) (Operand.const (Value.bool true)) (Operand.tmp 23))
        refine opsF_end (fun ρ => ρ 0 = (vb : Value) ∧ ρ 1 = (.int .i64 (at_ : Int) : Value) ∧ ρ 2 = (vp : Value) ∧ ρ 6 = (.bool (false) : Value) ∧ ρ 24 = (.bool (true) : Value) ∧ True) ⟨T0, T1, T2, T6, rfl, trivial⟩ fun ρ15 ⟨T0, T1, T2, T6, T24, _⟩ => ?_
        refine thenF_normal (hK14 _ _ ?_)
        refine wpF_true (show _ = (.bool (true) : Value) from T24) ?_
        refine wpF_seq_k fun K16 hK16 => ?_
        refine wpF_text ?_
        refine opsF_step rfl (YieldsK.assign (show _ = (.bool (true) : Value) from rfl) ?_)    -- outright.go:22 t6 := (Op.assign (Operand.const (Value.bool true)))
        refine opsF_end (fun ρ => ρ 0 = (vb : Value) ∧ ρ 1 = (.int .i64 (at_ : Int) : Value) ∧ ρ 2 = (vp : Value) ∧ ρ 6 = (.bool (true) : Value) ∧ ρ 24 = (.bool (true) : Value) ∧ True) ⟨T0, T1, T2, rfl, T24, trivial⟩ fun ρ17 ⟨T0, T1, T2, T6, T24, _⟩ => ?_
        refine thenF_normal (hK16 _ _ ?_)
        refine wpF_ret (thenF_ret ?_)
        refine postF_ret (fn := Try.f4) _ rfl [.bool (true)] (.bool (true)) rfl ⟨T6, trivial⟩ ?_
        exact ⟨rfl, hE⟩
      · refine thenF_normal (hK1 _ _ ?_)
        refine wpF_seq_k fun K18 hK18 => ?_
        refine wpF_seq_k fun K19 hK19 => ?_
        refine wpF_text ?_
        refine opsF_step rfl (YieldsK.move (show _ = (vb : Value) from T0) ?_)    -- outright.go:21 t12 := (Op.move (Operand.tmp 0))
        refine opsF_step rfl (YieldsK.lenRB del21_ty22 (RB.of (hrb.keep hE) (show _ = (vb : Value) from rfl)) ?_)    -- outright.go:21 t13 := (Op.call { callee := (Callee.builtin Builtin.len), args := #[(Operand.tmp 12)], argTypes := #[22] })
        refine opsF_step rfl (YieldsK.eqI (a := ((B.length : Nat) : Int)) (b := ((100 : Nat) : Int)) (show _ = (.int .i64 ((B.length : Nat) : Int) : Value) from rfl) (show _ = (.int .i64 ((100 : Nat) : Int) : Value) from rfl) (k_lss _ .i64 (B.length) (100)) ?_)    -- outright.go:21 t14 := (Op.binOp BinOp.lss 3 (Operand.tmp 13) (Operand.const (Value.int IntKind.i64 100)) 3)
        refine opsF_step rfl (YieldsK.move (show _ = (.bool (false) : Value) from (congrArg Value.bool (decide_eq_false (h1)))) ?_)    -- outright.go:21 t15 := (Op.move (Operand.tmp 14))
        refine opsF_on (d := 15) rfl rfl (show _ = (.bool (false) : Value) from rfl) (YieldsK.move (show _ = (vb : Value) from T0) ?_)    -- outright.go:21 t16 := (Op.move (Operand.tmp 0))
        refine opsF_on (d := 15) rfl rfl (show _ = (.bool (false) : Value) from rfl) (YieldsK.lenRB del21_ty22 (RB.of (hrb.keep hE) (show _ = (vb : Value) from rfl)) ?_)    -- outright.go:21 t17 := (Op.call { callee := (Callee.builtin Builtin.len), args := #[(Operand.tmp 16)], argTypes := #[22] })
        refine opsF_on (d := 15) rfl rfl (show _ = (.bool (false) : Value) from rfl) (YieldsK.eqI (a := ((B.length : Nat) : Int)) (b := ((3000 : Nat) : Int)) (show _ = (.int .i64 ((B.length : Nat) : Int) : Value) from rfl) (show _ = (.int .i64 ((3000 : Nat) : Int) : Value) from rfl) (k_gtr _ .i64 (B.length) (3000)) ?_)    -- outright.go:21 t18 := (Op.binOp BinOp.gtr 3 (Operand.tmp 17) (Operand.const (Value.int IntKind.i64 3000)) 3)
        refine opsF_step rfl (YieldsK.pickF (show _ = (.bool (false) : Value) from rfl) (show _ = (.bool (false) : Value) from (congrArg Value.bool (decide_eq_false (h2)))) ?_)    -- outright.go:21 t19 := (Op.pick (Operand.tmp 15) (Operand.const (Value.bool true)) (Operand.tmp 18))
        refine opsF_step rfl (YieldsK.move (show _ = (.bool (false) : Value) from rfl) ?_)    -- outright.go:21 t20 := (Op.move (Operand.tmp 19))
        refine opsF_on (d := 20) rfl rfl (show _ = (.bool (false) : Value) from rfl) (YieldsK.move (show _ = (vp : Value) from T2) ?_)    -- outright.go:21 t21 := (Op.move (Operand.tmp 2))
        refine opsF_on (d := 20) rfl rfl (show _ = (.bool (false) : Value) from rfl) (YieldsK.lenRB del21_ty22 (RB.of (hrp.keep hE) (show _ = (vp : Value) from rfl)) ?_)    -- outright.go:21 t22 := (Op.call { callee := (Callee.builtin Builtin.len), args := #[(Operand.tmp 21)], argTypes := #[22] })
        refine opsF_on (d := 20) rfl rfl (show _ = (.bool (false) : Value) from rfl) (YieldsK.eqI (a := ((P.length : Nat) : Int)) (b := ((200 : Nat) : Int)) (show _ = (.int .i64 ((P.length : Nat) : Int) : Value) from rfl) (show _ = (.int .i64 ((200 : Nat) : Int) : Value) from rfl) (k_gtr _ .i64 (P.length) (200)) ?_)    -- outright.go:21 t23 := (Op.binOp BinOp.gtr 3 (Operand.tmp 22) (Operand.const (Value.int IntKind.i64 200)) 3)
        refine opsF_step rfl (YieldsK.pickF (show _ = (.bool (false) : Value) from rfl) (show _ = (.bool (false) : Value) from (congrArg Value.bool (decide_eq_false (h3)))) ?_)    -- outright.go:21 t24 := (Op.pick (Operand.tmp 20) (Operand.const (Value.bool true)) (Operand.tmp 23))
        refine opsF_end (fun ρ => ρ 0 = (vb : Value) ∧ ρ 1 = (.int .i64 (at_ : Int) : Value) ∧ ρ 2 = (vp : Value) ∧ ρ 6 = (.bool (false) : Value) ∧ ρ 24 = (.bool (false) : Value) ∧ True) ⟨T0, T1, T2, T6, rfl, trivial⟩ fun ρ20 ⟨T0, T1, T2, T6, T24, _⟩ => ?_
        refine thenF_normal (hK19 _ _ ?_)
        refine wpF_false (show _ = (.bool (false) : Value) from T24) ?_
        refine wpF_skip ?_
        refine thenF_normal (hK18 _ _ ?_)
        refine wpF_seq_k fun K21 hK21 => ?_
        refine wpF_text ?_
        refine opsF_step rfl (YieldsK.move (show _ = (.int .i64 (at_ : Int) : Value) from T1) ?_)    -- outright.go:24 t25 := (Op.move (Operand.tmp 1))
        refine opsF_step rfl (YieldsK.convI del21_ty3 del21_ty27 (show _ = (.int .i64 (at_ : Int) : Value) from rfl) hcut ?_)    -- outright.go:24 t26 := (Op.convert 3 27 (Operand.tmp 25))
        refine opsF_step rfl (YieldsK.move (show _ = (vb : Value) from T0) ?_)    -- outright.go:24 t27 := (Op.move (Operand.tmp 0))
        refine opsF_step rfl (YieldsK.lenRB del21_ty22 (RB.of (hrb.keep hE) (show _ = (vb : Value) from rfl)) ?_)    -- outright.go:24 t28 := (Op.call { callee := (Callee.builtin Builtin.len), args := #[(Operand.tmp 27)], argTypes := #[22] })
        refine opsF_step rfl (YieldsK.bin (xv := .int .i64 ((B.length : Nat) : Int)) (yv := .int .i64 ((20 : Nat) : Int)) (show _ = (.int .i64 ((B.length : Nat) : Int) : Value) from rfl) (show _ = (.int .i64 ((20 : Nat) : Int) : Value) from rfl) rfl (i64_sub _ (B.length) (20) (by omega) (by omega)) ?_)    -- outright.go:24 t29 := (Op.binOp BinOp.sub 3 (Operand.tmp 28) (Operand.const (Value.int IntKind.i64 20)) 3)
        refine opsF_step rfl (YieldsK.convI del21_ty3 del21_ty27 (show _ = (.int .i64 (((B.length) - (20) : Nat) : Int) : Value) from rfl) (wrap_u64 ((B.length) - (20)) (by omega)) ?_)    -- outright.go:24 t30 := (Op.convert 3 27 (Operand.tmp 29))
        refine opsF_step rfl (YieldsK.bin (xv := .int .u64 ((C : Nat) : Int)) (yv := .int .u64 (((B.length) - (20) : Nat) : Int)) (show _ = (.int .u64 ((C : Nat) : Int) : Value) from rfl) (show _ = (.int .u64 (((B.length) - (20) : Nat) : Int) : Value) from rfl) rfl (u64_rem _ (C) ((B.length) - (20)) (by omega)) ?_)    -- outright.go:24 t31 := (Op.binOp BinOp.rem 27 (Operand.tmp 26) (Operand.tmp 30) 27)
        refine opsF_step rfl (YieldsK.convI del21_ty27 del21_ty3 (show _ = (.int .u64 (((C) % ((B.length) - (20)) : Nat) : Int) : Value) from rfl) (wrap_i64 ((C) % ((B.length) - (20))) (by have := Nat.mod_lt C (show 0 < B.length - 20 by omega); omega)) ?_)    -- outright.go:24 t32 := (Op.convert 27 3 (Operand.tmp 31))
        refine opsF_step rfl (YieldsK.assign (show _ = (.int .i64 (((C) % ((B.length) - (20)) : Nat) : Int) : Value) from rfl) ?_)    -- outright.go:24 t7 := (Op.assign (Operand.tmp 32))
        refine opsF_end (fun ρ => ρ 0 = (vb : Value) ∧ ρ 1 = (.int .i64 (at_ : Int) : Value) ∧ ρ 2 = (vp : Value) ∧ ρ 6 = (.bool (false) : Value) ∧ ρ 7 = (.int .i64 (((C) % ((B.length) - (20)) : Nat) : Int) : Value) ∧ ρ 24 = (.bool (false) : Value) ∧ True) ⟨T0, T1, T2, T6, rfl, T24, trivial⟩ fun ρ22 ⟨T0, T1, T2, T6, T7, T24, _⟩ => ?_
        obtain ⟨K, hK⟩ : ∃ K, K = C % (B.length - 20) := ⟨_, rfl⟩
        have hKl : K + 21 ≤ B.length := by have := Nat.mod_lt C (show 0 < B.length - 20 by omega); omega
        rw [← hK] at T7
        refine thenF_normal (hK21 _ _ ?_)
        refine wpF_seq_k fun K23 hK23 => ?_
        refine wpF_draw_rowsB w.heap.size (Nat.le_refl _) [4, 6, 11] (fun m => if m = 4 then [0] else if m = 6 then [0, 4] else if m = 11 then [0, 4, 6] else []) (fun m => if m = 4 then [0, 4, 6, 11, 12] else if m = 6 then [0, 4, 6, 11, 12] else if m = 11 then [0, 4, 6, 11, 12] else []) [fun x w' => w'.ownsRow w.heap.size 5 1 x ([] : List UInt8).length (Lib.byteCells (([] : List UInt8))), Is (vb), Is (.int .i64 ((K : Nat) : Int)), fun x _ => RB w x (B.take (K)), fun x w' => w'.ownsRow w.heap.size 5 1 x (([] : List UInt8) ++ (B.take (K) : List UInt8) : List UInt8).length (Lib.byteCells (([] : List UInt8) ++ (B.take (K) : List UInt8))), Is (vp), fun x w' => w'.ownsRow w.heap.size 5 1 x (([] : List UInt8) ++ (B.take (K) : List UInt8) ++ P : List UInt8).length (Lib.byteCells (([] : List UInt8) ++ (B.take (K) : List UInt8) ++ P)), Is (vb), Is (.int .i64 ((K : Nat) : Int)), Is (.int .i64 (((K) + (10) : Nat) : Int)), fun x _ => RB w x (B.drop ((K) + (10))), fun x w' => w'.ownsRow w.heap.size 5 1 x (([] : List UInt8) ++ (B.take (K) : List UInt8) ++ P ++ (B.drop ((K) + (10)) : List UInt8) : List UInt8).length (Lib.byteCells (([] : List UInt8) ++ (B.take (K) : List UInt8) ++ P ++ (B.drop ((K) + (10)) : List UInt8))), fun x w' => w'.ownsRow w.heap.size 5 1 x (([] : List UInt8) ++ (B.take (K) : List UInt8) ++ P ++ (B.drop ((K) + (10)) : List UInt8) : List UInt8).length (Lib.byteCells (([] : List UInt8) ++ (B.take (K) : List UInt8) ++ P ++ (B.drop ((K) + (10)) : List UInt8)))] (by kernel_rfl) [33, 34, 35, 36, 37, 38, 39, 40, 41, 42, 43, 44, 8] (by kernel_rfl) (by kernel_rfl) (by kernel_rfl) (by kernel_rfl) rfl ⟨(Stab.own _ _ _ _ _), Stab.is _, Stab.is _, (fun _ _ _ h _ => h), (Stab.own _ _ _ _ _), Stab.is _, (Stab.own _ _ _ _ _), Stab.is _, Stab.is _, Stab.is _, (fun _ _ _ h _ => h), (Stab.own _ _ _ _ _), (Stab.own _ _ _ _ _), trivial⟩ ⟨⟨.inl rfl, .inr (Stab.is _), .inr (Stab.is _), .inr ((fun _ _ _ h _ => h)), .inl rfl, .inr (Stab.is _), .inl rfl, .inr (Stab.is _), .inr (Stab.is _), .inr (Stab.is _), .inr ((fun _ _ _ h _ => h)), .inl rfl, .inl rfl, trivial⟩, ⟨.inl rfl, .inr (Stab.is _), .inr (Stab.is _), .inr ((fun _ _ _ h _ => h)), .inl rfl, .inr (Stab.is _), .inl rfl, .inr (Stab.is _), .inr (Stab.is _), .inr (Stab.is _), .inr ((fun _ _ _ h _ => h)), .inl rfl, .inl rfl, trivial⟩, ⟨.inl rfl, .inr (Stab.is _), .inr (Stab.is _), .inr ((fun _ _ _ h _ => h)), .inl rfl, .inr (Stab.is _), .inl rfl, .inr (Stab.is _), .inr (Stab.is _), .inr (Stab.is _), .inr ((fun _ _ _ h _ => h)), .inl rfl, .inl rfl, trivial⟩, trivial⟩ ?hs1004 ?hQ1004
        case hs1004 =>
          refine ⟨?_, ?_, ?_, ?_, ?_, ?_, ?_, ?_, ?_, ?_, ?_, ?_, ?_, trivial⟩
          · refine stepN rfl fun σ w1 hC h => ?_    -- t33 := (Op.buildSlice 22 0 #[])
            have hC : Ext w w1 := hC
            exact YieldsK.lit0 del21_l0_22 fun v w2 hN => ⟨hN.ext, ownsRow_base hN.own hC.size⟩
          · refine stepN rfl fun σ w1 hC h => ?_    -- t34 := (Op.move (Operand.tmp 0))
            have hC : Ext w w1 := hC
            have e0 : σ 0 = vb := (show _ = _ from h 0 (by decide)).trans T0
            exact YieldsK.move e0 ⟨Ext.refl _, rfl⟩
          · refine stepN rfl fun σ w1 hC h => ?_    -- t35 := (Op.move (Operand.tmp 7))
            have hC : Ext w w1 := hC
            have e7 : σ 7 = .int .i64 ((K : Nat) : Int) := (show _ = _ from h 7 (by decide)).trans T7
            exact YieldsK.move e7 ⟨Ext.refl _, rfl⟩
          · refine stepN rfl fun σ w1 hC h => ?_    -- t36 := (Op.slice 22 (Operand.tmp 34) none (some (Operand.tmp 35)) none)
            have hC : Ext w w1 := hC
            have e34 : σ 34 = vb := h 34 (by decide)
            have e35 : σ 35 = .int .i64 ((K : Nat) : Int) := h 35 (by decide)
            exact YieldsK.sliceHi (xs := B) (n := K) del21_ty22 del21_sz5 rfl (RB.of (hrb.keep (hE.trans hC)) e34) e35 (by omega) fun v hr hb => ⟨Ext.refl _, RB.back hr hC (hrb.keep hE) (hb.trans (congrArg Value.ownBlock (show _ = (vb : Value) from e34))) (by first | (simp; done) | (simp; omega))⟩
          · refine stepN rfl fun σ w1 hC h => ?_    -- t37 := (Op.call { callee := (Callee.builtin Builtin.append), args := #[(Operand.tmp 33), (Operand.tmp 36)], argTypes 
            have hC : Ext w w1 := hC
            have e33 : (fun x w' => w'.ownsRow w.heap.size 5 1 x ([] : List UInt8).length (Lib.byteCells (([] : List UInt8)))) (σ 33) w1 := h 33 (by decide)
            have f36 : RB w (σ 36) (B.take (K)) := h 36 (by decide)
            have e36 : RB w1 (σ 36) (B.take (K)) := RB.keep f36 hC
            exact YieldsK.appendRB _ _ w.heap.size (.int .u8 0) del21_ty22 del21_inf5 rfl del21_ty22 (([] : List UInt8)) (B.take (K)) e33 e36 (by simp; omega) hC.size fun v w2 ho hg => ⟨hg.below hC.size (fun k hk => (e33.lt k hk).1), ho⟩
          · refine stepN rfl fun σ w1 hC h => ?_    -- t38 := (Op.move (Operand.tmp 2))
            have hC : Ext w w1 := hC
            have e2 : σ 2 = vp := (show _ = _ from h 2 (by decide)).trans T2
            exact YieldsK.move e2 ⟨Ext.refl _, rfl⟩
          · refine stepN rfl fun σ w1 hC h => ?_    -- t39 := (Op.call { callee := (Callee.builtin Builtin.append), args := #[(Operand.tmp 37), (Operand.tmp 38)], argTypes 
            have hC : Ext w w1 := hC
            have e37 : (fun x w' => w'.ownsRow w.heap.size 5 1 x (([] : List UInt8) ++ (B.take (K) : List UInt8) : List UInt8).length (Lib.byteCells (([] : List UInt8) ++ (B.take (K) : List UInt8)))) (σ 37) w1 := h 37 (by decide)
            have e38 : σ 38 = vp := h 38 (by decide)
            exact YieldsK.appendRB _ _ w.heap.size (.int .u8 0) del21_ty22 del21_inf5 rfl del21_ty22 (([] : List UInt8) ++ (B.take (K) : List UInt8)) (P) e37 (RB.of (hrp.keep (hE.trans hC)) e38) (by simp; omega) hC.size fun v w2 ho hg => ⟨hg.below hC.size (fun k hk => (e37.lt k hk).1), ho⟩
          · refine stepN rfl fun σ w1 hC h => ?_    -- t40 := (Op.move (Operand.tmp 0))
            have hC : Ext w w1 := hC
            have e0 : σ 0 = vb := (show _ = _ from h 0 (by decide)).trans T0
            exact YieldsK.move e0 ⟨Ext.refl _, rfl⟩
          · refine stepN rfl fun σ w1 hC h => ?_    -- t41 := (Op.move (Operand.tmp 7))
            have hC : Ext w w1 := hC
            have e7 : σ 7 = .int .i64 ((K : Nat) : Int) := (show _ = _ from h 7 (by decide)).trans T7
            exact YieldsK.move e7 ⟨Ext.refl _, rfl⟩
          · refine stepN rfl fun σ w1 hC h => ?_    -- t42 := (Op.binOp BinOp.add 3 (Operand.tmp 41) (Operand.const (Value.int IntKind.i64 10)) 3)
            have hC : Ext w w1 := hC
            have e41 : σ 41 = .int .i64 ((K : Nat) : Int) := h 41 (by decide)
            exact YieldsK.bin (xv := .int .i64 ((K : Nat) : Int)) (yv := .int .i64 ((10 : Nat) : Int)) e41 (show _ = (.int .i64 ((10 : Nat) : Int) : Value) from rfl) rfl (i64_add _ (K) (10) (by omega)) ⟨Ext.refl _, rfl⟩
          · refine stepN rfl fun σ w1 hC h => ?_    -- t43 := (Op.slice 22 (Operand.tmp 40) (some (Operand.tmp 42)) none none)
            have hC : Ext w w1 := hC
            have e40 : σ 40 = vb := h 40 (by decide)
            have e42 : σ 42 = .int .i64 (((K) + (10) : Nat) : Int) := h 42 (by decide)
            exact YieldsK.sliceLo (xs := B) (l := (K) + (10)) del21_ty22 del21_sz5 rfl (RB.of (hrb.keep (hE.trans hC)) e40) e42 (by omega) fun v hr hb => ⟨Ext.refl _, RB.back hr hC (hrb.keep hE) (hb.trans (congrArg Value.ownBlock (show _ = (vb : Value) from e40))) (by first | (simp; done) | (simp; omega))⟩
          · refine stepN rfl fun σ w1 hC h => ?_    -- t44 := (Op.call { callee := (Callee.builtin Builtin.append), args := #[(Operand.tmp 39), (Operand.tmp 43)], argTypes 
            have hC : Ext w w1 := hC
            have e39 : (fun x w' => w'.ownsRow w.heap.size 5 1 x (([] : List UInt8) ++ (B.take (K) : List UInt8) ++ P : List UInt8).length (Lib.byteCells (([] : List UInt8) ++ (B.take (K) : List UInt8) ++ P))) (σ 39) w1 := h 39 (by decide)
            have f43 : RB w (σ 43) (B.drop ((K) + (10))) := h 43 (by decide)
            have e43 : RB w1 (σ 43) (B.drop ((K) + (10))) := RB.keep f43 hC
            exact YieldsK.appendRB _ _ w.heap.size (.int .u8 0) del21_ty22 del21_inf5 rfl del21_ty22 (([] : List UInt8) ++ (B.take (K) : List UInt8) ++ P) (B.drop ((K) + (10))) e39 e43 (by simp; omega) hC.size fun v w2 ho hg => ⟨hg.below hC.size (fun k hk => (e39.lt k hk).1), ho⟩
          · refine stepN rfl fun σ w1 hC h => ?_    -- t8 := (Op.assign (Operand.tmp 44))
            have hC : Ext w w1 := hC
            have e44 : (fun x w' => w'.ownsRow w.heap.size 5 1 x (([] : List UInt8) ++ (B.take (K) : List UInt8) ++ P ++ (B.drop ((K) + (10)) : List UInt8) : List UInt8).length (Lib.byteCells (([] : List UInt8) ++ (B.take (K) : List UInt8) ++ P ++ (B.drop ((K) + (10)) : List UInt8)))) (σ 44) w1 := h 44 (by decide)
            exact YieldsK.assign rfl ⟨Ext.refl _, e44⟩
        intro ρ24 w25 hx26 he hf
        obtain ⟨-, -, -, -, -, -, -, -, -, -, -, -, k8, -⟩ := hf
        have T0 : ρ24 0 = vb := he.at_ T0 rfl
        have T1 : ρ24 1 = .int .i64 (at_ : Int) := he.at_ T1 rfl
        have T2 : ρ24 2 = vp := he.at_ T2 rfl
        have T6 : ρ24 6 = .bool (false) := he.at_ T6 rfl
        have T7 : ρ24 7 = .int .i64 ((K : Nat) : Int) := he.at_ T7 rfl
        have T24 : ρ24 24 = .bool (false) := he.at_ T24 rfl
        clear he
        have hx26 : Ext w w25 := hx26
        have hE : Ext w w25 := (hE.trans hx26)
        have k8 : (fun x w' => w'.ownsRow w.heap.size 5 1 x (([] : List UInt8) ++ (B.take (K) : List UInt8) ++ P ++ (B.drop ((K) + (10)) : List UInt8) : List UInt8).length (Lib.byteCells (([] : List UInt8) ++ (B.take (K) : List UInt8) ++ P ++ (B.drop ((K) + (10)) : List UInt8)))) (ρ24 8) w25 := k8
        obtain ⟨v27, T8⟩ : ∃ v, ρ24 8 = v := ⟨_, rfl⟩
        rw [T8] at k8
        have hk28 := k8; clear k8
        obtain ⟨T, hT⟩ : ∃ T, T = B.take K ++ P ++ B.drop (K + 10) := ⟨_, rfl⟩
        have hk28 : w25.ownsRow w.heap.size 5 1 v27 (T : List UInt8).length (Lib.byteCells (T)) := (by rw [hT]; simp : ([] : List UInt8) ++ (B.take (K) : List UInt8) ++ P ++ (B.drop ((K) + (10)) : List UInt8) = T) ▸ hk28
        have hTl : T.length ≤ 3200 := by rw [hT]; simp; omega
        have hed := edits_len B P K (by omega) (by omega) (by omega)
        rw [← hT] at hed
        have hap := apply_make B T (by omega) (by omega)
        have hmb := makeP_bound B T (by omega) (by omega)
        refine thenF_normal (hK23 _ _ ?_)
        refine wpF_seq_k fun K29 hK29 => ?_
        refine wpF_text ?_
        refine opsF_step rfl (YieldsK.move (show _ = (vb : Value) from T0) ?_)    -- outright.go:26 t45 := (Op.move (Operand.tmp 0))
        refine opsF_step rfl (YieldsK.move (show _ = (v27 : Value) from T8) ?_)    -- outright.go:26 t46 := (Op.move (Operand.tmp 8))
        refine opsF_step rfl (YieldsK.callA2 del21_pl8 (show _ = (vb : Value) from rfl) (show _ = (v27 : Value) from rfl) ?_)    -- outright.go:26 t47 := (Op.call { callee := (Callee.value (Operand.func 8)), args := #[(Operand.tmp 45), (Operand.tmp 46)], argTypes 
        refine (make_any _ vb v27 (B) (T) (hrb.keep hE) (RB.ofOwn hk28) (by omega) (by omega)).mono ?_
        rintro e w34 ⟨v30, rfl, hx31, ho32⟩
        refine ⟨_, rfl, ?_⟩
        have hE : Ext w w34 := (hE.trans hx31)
        have hk28 : w34.ownsRow w.heap.size 5 1 v27 (T : List UInt8).length (Lib.byteCells (T)) := (Stab.own _ _ _ _ _ _ _ _ hk28 hx31)
        have hr33 := RB.ofOwn ho32
        refine opsF_step rfl (YieldsK.assign (show _ = (v30 : Value) from rfl) ?_)    -- outright.go:26 t9 := (Op.assign (Operand.tmp 47))
        refine opsF_end (fun ρ => ρ 0 = (vb : Value) ∧ ρ 1 = (.int .i64 (at_ : Int) : Value) ∧ ρ 2 = (vp : Value) ∧ ρ 6 = (.bool (false) : Value) ∧ ρ 7 = (.int .i64 ((K : Nat) : Int) : Value) ∧ ρ 8 = (v27 : Value) ∧ ρ 9 = (v30 : Value) ∧ ρ 24 = (.bool (false) : Value) ∧ True) ⟨T0, T1, T2, T6, T7, T8, rfl, T24, trivial⟩ fun ρ35 ⟨T0, T1, T2, T6, T7, T8, T9, T24, _⟩ => ?_
        refine thenF_normal (hK29 _ _ ?_)
        refine wpF_seq_k fun K36 hK36 => ?_
        refine wpF_text ?_
        refine opsF_step rfl (YieldsK.move (show _ = (vb : Value) from T0) ?_)    -- outright.go:27 t49 := (Op.move (Operand.tmp 0))
        refine opsF_step rfl (YieldsK.move (show _ = (v30 : Value) from T9) ?_)    -- outright.go:27 t50 := (Op.move (Operand.tmp 9))
        refine opsF_step rfl (YieldsK.callA2 del21_pl12 (show _ = (vb : Value) from rfl) (show _ = (v30 : Value) from rfl) ?_)    -- outright.go:27 t51 := (Op.call { callee := (Callee.value (Operand.func 12)), args := #[(Operand.tmp 49), (Operand.tmp 50)], argTypes
        refine ((show Calls _ _ _ _ (fun e w2 => ∃ v2, e = .returned (.tuple #[v2, NI (0)]) ∧ RB w2 v2 (T) ∧ Ext _ w2) from by have h := apply_any _ vb v30 (B) (makeP (B) (T)) (hrb.keep hE) hr33 (by omega) (by omega); rw [hap] at h; exact h)).mono ?_
        rintro e w40 ⟨v37, rfl, hr39, hx38⟩
        refine ⟨_, rfl, ?_⟩
        have hE : Ext w w40 := (hE.trans hx38)
        have hk28 : w40.ownsRow w.heap.size 5 1 v27 (T : List UInt8).length (Lib.byteCells (T)) := (Stab.own _ _ _ _ _ _ _ _ hk28 hx38)
        have hr33 : RB w40 v30 (makeP (B) (T)) := (hr33.keep hx38)
        refine opsF_step rfl (YieldsK.move (show _ = (.tuple #[v37, .int .i64 ((0 : Nat) : Int)] : Value) from rfl) ?_)    -- outright.go:27 t48 := (Op.move (Operand.tmp 51))
        refine opsF_step rfl (YieldsK.extract (vs := [v37, .int .i64 ((0 : Nat) : Int)]) (show _ = (.tuple #[v37, .int .i64 ((0 : Nat) : Int)] : Value) from rfl) (show _ = some (v37 : Value) from rfl) ?_)    -- outright.go:27 t52 := (Op.extract (Operand.tmp 48) 0)
        refine opsF_step rfl (YieldsK.extract (vs := [v37, .int .i64 ((0 : Nat) : Int)]) (show _ = (.tuple #[v37, .int .i64 ((0 : Nat) : Int)] : Value) from rfl) (show _ = some (.int .i64 ((0 : Nat) : Int) : Value) from rfl) ?_)    -- outright.go:27 t53 := (Op.extract (Operand.tmp 48) 1)
        refine opsF_step rfl (YieldsK.assign (show _ = (v37 : Value) from rfl) ?_)    -- outright.go:27 t10 := (Op.assign (Operand.tmp 52))
        refine opsF_step rfl (YieldsK.assign (show _ = (.int .i64 ((0 : Nat) : Int) : Value) from rfl) ?_)    -- outright.go:27 t11 := (Op.assign (Operand.tmp 53))
        refine opsF_end (fun ρ => ρ 0 = (vb : Value) ∧ ρ 1 = (.int .i64 (at_ : Int) : Value) ∧ ρ 2 = (vp : Value) ∧ ρ 6 = (.bool (false) : Value) ∧ ρ 7 = (.int .i64 ((K : Nat) : Int) : Value) ∧ ρ 8 = (v27 : Value) ∧ ρ 9 = (v30 : Value) ∧ ρ 10 = (v37 : Value) ∧ ρ 11 = (.int .i64 ((0 : Nat) : Int) : Value) ∧ ρ 24 = (.bool (false) : Value) ∧ True) ⟨T0, T1, T2, T6, T7, T8, T9, rfl, rfl, T24, trivial⟩ fun ρ41 ⟨T0, T1, T2, T6, T7, T8, T9, T10, T11, T24, _⟩ => ?_
        refine thenF_normal (hK36 _ _ ?_)
        refine wpF_seq_k fun K42 hK42 => ?_
        refine wpF_text ?_
        refine opsF_step rfl (YieldsK.move (show _ = (.int .i64 ((0 : Nat) : Int) : Value) from T11) ?_)    -- outright.go:28 t54 := (Op.move (Operand.tmp 11))
        refine opsF_step rfl (YieldsK.eqI (a := ((0 : Nat) : Int)) (b := ((0 : Nat) : Int)) (show _ = (.int .i64 ((0 : Nat) : Int) : Value) from rfl) (show _ = (.int .i64 ((0 : Nat) : Int) : Value) from rfl) (k_eql _ .i64 (0) (0)) ?_)    -- outright.go:28 t55 := (Op.binOp BinOp.eql 28 (Operand.tmp 54) (Operand.const (Value.int IntKind.i64 0)) 28)
        refine opsF_step rfl (YieldsK.move (show _ = (.bool (true) : Value) from (congrArg Value.bool (decide_eq_true (rfl)))) ?_)    -- outright.go:28 t56 := (Op.move (Operand.tmp 55))
        refine opsF_on (d := 56) rfl rfl (show _ = (.bool (true) : Value) from rfl) (YieldsK.move (show _ = (v37 : Value) from T10) ?_)    -- outright.go:28 t57 := (Op.move (Operand.tmp 10))
        refine opsF_on (d := 56) rfl rfl (show _ = (.bool (true) : Value) from rfl) (YieldsK.convRB del21_ty22 del21_ty5 del21_ty9 (RB.of hr39 (show _ = (v37 : Value) from rfl)) ?_)    -- outright.go:28 t58 := (Op.convert 22 9 (Operand.tmp 57))
        refine opsF_on (d := 56) rfl rfl (show _ = (.bool (true) : Value) from rfl) (YieldsK.move (show _ = (v27 : Value) from T8) ?_)    -- outright.go:28 t59 := (Op.move (Operand.tmp 8))
        refine opsF_on (d := 56) rfl rfl (show _ = (.bool (true) : Value) from rfl) (YieldsK.convRB del21_ty22 del21_ty5 del21_ty9 (RB.of (RB.ofOwn hk28) (show _ = (v27 : Value) from rfl)) ?_)    -- outright.go:28 t60 := (Op.convert 22 9 (Operand.tmp 59))
        refine opsF_on (d := 56) rfl rfl (show _ = (.bool (true) : Value) from rfl) (YieldsK.eqSt (l := T) (m := T) (.inl rfl) (show _ = (.string ⟨(T).toArray⟩ : Value) from rfl) (show _ = (.string ⟨(T).toArray⟩ : Value) from rfl) (decide (T = T)) rfl ?_)    -- outright.go:28 t61 := (Op.binOp BinOp.eql 9 (Operand.tmp 58) (Operand.tmp 60) 9)
        refine opsF_step rfl (YieldsK.pickT (show _ = (.bool (true) : Value) from rfl) (show _ = (.bool (true) : Value) from (congrArg Value.bool (decide_eq_true (rfl)))) ?_)    -- outright.go:28 t62 := (Op.pick (Operand.tmp 56) (Operand.tmp 61) (Operand.const (Value.bool false)))
        refine opsF_step rfl (YieldsK.move (show _ = (.bool (true) : Value) from rfl) ?_)    -- outright.go:28 t63 := (Op.move (Operand.tmp 62))
        refine opsF_on (d := 63) rfl rfl (show _ = (.bool (true) : Value) from rfl) (YieldsK.move (show _ = (v30 : Value) from T9) ?_)    -- outright.go:28 t64 := (Op.move (Operand.tmp 9))
        refine opsF_on (d := 63) rfl rfl (show _ = (.bool (true) : Value) from rfl) (YieldsK.lenRB del21_ty22 (RB.of hr33 (show _ = (v30 : Value) from rfl)) ?_)    -- outright.go:28 t65 := (Op.call { callee := (Callee.builtin Builtin.len), args := #[(Operand.tmp 64)], argTypes := #[22] })
        refine opsF_on (d := 63) rfl rfl (show _ = (.bool (true) : Value) from rfl) (YieldsK.move (show _ = (vp : Value) from T2) ?_)    -- outright.go:28 t66 := (Op.move (Operand.tmp 2))
        refine opsF_on (d := 63) rfl rfl (show _ = (.bool (true) : Value) from rfl) (YieldsK.lenRB del21_ty22 (RB.of (hrp.keep hE) (show _ = (vp : Value) from rfl)) ?_)    -- outright.go:28 t67 := (Op.call { callee := (Callee.builtin Builtin.len), args := #[(Operand.tmp 66)], argTypes := #[22] })
        refine opsF_on (d := 63) rfl rfl (show _ = (.bool (true) : Value) from rfl) (YieldsK.bin (xv := .int .i64 ((4 : Nat) : Int)) (yv := .int .i64 ((P.length : Nat) : Int)) (show _ = (.int .i64 ((4 : Nat) : Int) : Value) from rfl) (show _ = (.int .i64 ((P.length : Nat) : Int) : Value) from rfl) rfl (i64_mul _ (4) (P.length) (by omega)) ?_)    -- outright.go:28 t68 := (Op.binOp BinOp.mul 3 (Operand.const (Value.int IntKind.i64 4)) (Operand.tmp 67) 3)
        refine opsF_on (d := 63) rfl rfl (show _ = (.bool (true) : Value) from rfl) (YieldsK.bin (xv := .int .i64 (((4) * (P.length) : Nat) : Int)) (yv := .int .i64 ((60 : Nat) : Int)) (show _ = (.int .i64 (((4) * (P.length) : Nat) : Int) : Value) from rfl) (show _ = (.int .i64 ((60 : Nat) : Int) : Value) from rfl) rfl (i64_add _ ((4) * (P.length)) (60) (by omega)) ?_)    -- outright.go:28 t69 := (Op.binOp BinOp.add 3 (Operand.tmp 68) (Operand.const (Value.int IntKind.i64 60)) 3)
        refine opsF_on (d := 63) rfl rfl (show _ = (.bool (true) : Value) from rfl) (YieldsK.eqI (a := (((makeP (B) (T) : List UInt8).length : Nat) : Int)) (b := ((((4) * (P.length)) + (60) : Nat) : Int)) (show _ = (.int .i64 (((makeP (B) (T) : List UInt8).length : Nat) : Int) : Value) from rfl) (show _ = (.int .i64 ((((4) * (P.length)) + (60) : Nat) : Int) : Value) from rfl) (k_leq _ .i64 ((makeP (B) (T) : List UInt8).length) (((4) * (P.length)) + (60))) ?_)    -- outright.go:28 t70 := (Op.binOp BinOp.leq 3 (Operand.tmp 65) (Operand.tmp 69) 3)
        refine opsF_step rfl (YieldsK.pickT (show _ = (.bool (true) : Value) from rfl) (show _ = (.bool (true) : Value) from (congrArg Value.bool (decide_eq_true (by omega)))) ?_)    -- outright.go:28 t71 := (Op.pick (Operand.tmp 63) (Operand.tmp 70) (Operand.const (Value.bool false)))
        refine opsF_step rfl (YieldsK.move (show _ = (.bool (true) : Value) from rfl) ?_)    -- outright.go:28 t72 := (Op.move (Operand.tmp 71))
        refine opsF_on (d := 72) rfl rfl (show _ = (.bool (true) : Value) from rfl) (YieldsK.callA0 del21_pl11  ?_)    -- outright.go:28 t73 := (Op.call { callee := (Callee.value (Operand.func 11)), args := #[], argTypes := #[] })
        refine (awake10 _).mono ?_
        rintro e w44 ⟨rfl, hx43⟩
        refine ⟨_, rfl, ?_⟩
        have hE : Ext w w44 := (hE.trans hx43)
        have hk28 : w44.ownsRow w.heap.size 5 1 v27 (T : List UInt8).length (Lib.byteCells (T)) := (Stab.own _ _ _ _ _ _ _ _ hk28 hx43)
        have hr33 : RB w44 v30 (makeP (B) (T)) := (hr33.keep hx43)
        have hr39 : RB w44 v37 (T) := (hr39.keep hx43)
        refine opsF_step rfl (YieldsK.pickT (show _ = (.bool (true) : Value) from rfl) (show _ = (.bool (true) : Value) from rfl) ?_)    -- outright.go:28 t74 := (Op.pick (Operand.tmp 72) (Operand.tmp 73) (Operand.const (Value.bool false)))
        refine opsF_step rfl (YieldsK.assign (show _ = (.bool (true) : Value) from rfl) ?_)    -- outright.go:28 t6 := (Op.assign (Operand.tmp 74))
        refine opsF_end (fun ρ => ρ 0 = (vb : Value) ∧ ρ 1 = (.int .i64 (at_ : Int) : Value) ∧ ρ 2 = (vp : Value) ∧ ρ 6 = (.bool (true) : Value) ∧ ρ 7 = (.int .i64 ((K : Nat) : Int) : Value) ∧ ρ 8 = (v27 : Value) ∧ ρ 9 = (v30 : Value) ∧ ρ 10 = (v37 : Value) ∧ ρ 11 = (.int .i64 ((0 : Nat) : Int) : Value) ∧ ρ 24 = (.bool (false) : Value) ∧ True) ⟨T0, T1, T2, rfl, T7, T8, T9, T10, T11, T24, trivial⟩ fun ρ45 ⟨T0, T1, T2, T6, T7, T8, T9, T10, T11, T24, _⟩ => ?_
        refine thenF_normal (hK42 _ _ ?_)
        refine wpF_ret ?_
        refine postF_ret (fn := Try.f4) _ rfl [.bool (true)] (.bool (true)) rfl ⟨T6, trivial⟩ ?_
        exact ⟨rfl, hE⟩
end Go.Proofs.Ytfjmbcjcgdfkfaa
