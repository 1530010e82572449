/- DeltaApplies, walked. -/
import Derived.Test.YtfjmbcjcgdfkfaaDel19
namespace Go.Proofs.Ytfjmbcjcgdfkfaa
open Go.RowKit
theorem del20_ty22 : Try.prog.underlying 22 = some (.slice 5) := by kernel_rfl
theorem del20_pl9 : Plain Try.prog 9 := fun _ _ => by kernel_rfl
theorem del20_pl12 : Plain Try.prog 12 := fun _ _ => by kernel_rfl
theorem del20_pl13 : Plain Try.prog 13 := fun _ _ => by kernel_rfl
theorem del20_pl14 : Plain Try.prog 14 := fun _ _ => by kernel_rfl
theorem del20_pl15 : Plain Try.prog 15 := fun _ _ => by kernel_rfl
theorem del20_ty5 : Try.prog.underlying 5 = some (.int .u8) := by kernel_rfl
theorem del20_ty9 : Try.prog.underlying 9 = some (.string) := by kernel_rfl
theorem del20_pl11 : Plain Try.prog 11 := fun _ _ => by kernel_rfl
theorem deltaApplies_walk (w : World) (vb vd : Value) (B D : List UInt8) (hrb : RB w vb B) (hrd : RB w vd D) :
    Calls Try.prog 6 #[vb, vd] w fun e w' => e = .returned (.bool true) ∧ Ext w w' := by
  refine calls_of_wpF (args := [vb, vd]) Try.func6 rfl 80 rfl (Nat.le_of_ble_eq_true rfl) ?_
  intro ρ0 hb
  have T0 : ρ0 0 = (vb : Value) := hb.get 0
  have T1 : ρ0 1 = (vd : Value) := hb.get 1
  clear hb
  have hE := Ext.refl w
  refine wpF_seq_k fun K1 hK1 => ?_
  refine wpF_text ?_
  refine opsF_step rfl (YieldsK.assign (show _ = (.bool (false) : Value) from rfl) ?_)    -- law.go:27 t4 := (Op.assign (Operand.const (Value.bool false)))
  refine opsF_end (fun ρ => ρ 0 = (vb : Value) ∧ ρ 1 = (vd : Value) ∧ ρ 4 = (.bool (false) : Value) ∧ True) ⟨T0, T1, rfl, trivial⟩ fun ρ2 ⟨T0, T1, T4, _⟩ => ?_
  by_cases h1 : 2000 < B.length
  · refine thenF_normal (hK1 _ _ ?_)
    refine wpF_seq_k fun K3 hK3 => ?_
    refine wpF_seq_k fun K4 hK4 => ?_
    refine wpF_text ?_
    refine opsF_step rfl (YieldsK.move (show _ = (vb : Value) from T0) ?_)    -- law.go:28 t16 := (Op.move (Operand.tmp 0))
    refine opsF_step rfl (YieldsK.lenRB del20_ty22 (RB.of (hrb.keep hE) (show _ = (vb : Value) from rfl)) ?_)    -- law.go:28 t17 := (Op.call { callee := (Callee.builtin Builtin.len), args := #[(Operand.tmp 16)], argTypes := #[22] })
    refine opsF_step rfl (YieldsK.eqI (a := ((B.length : Nat) : Int)) (b := ((2000 : Nat) : Int)) (show _ = (.int .i64 ((B.length : Nat) : Int) : Value) from rfl) (show _ = (.int .i64 ((2000 : Nat) : Int) : Value) from rfl) (k_gtr _ .i64 (B.length) (2000)) ?_)    -- law.go:28 t18 := (Op.binOp BinOp.gtr 3 (Operand.tmp 17) (Operand.const (Value.int IntKind.i64 2000)) 3)
    refine opsF_step rfl (YieldsK.move (show _ = (.bool (true) : Value) from (congrArg Value.bool (decide_eq_true (h1)))) ?_)    -- law.go:28 t19 := (Op.move (Operand.tmp 18))
    refine opsF_off (d := 19) rfl rfl rfl (show _ = (.bool (true) : Value) from rfl) rfl ?_    -- law.go:28 t20 := (Op.move (Operand.tmp 1))
    refine opsF_off (d := 19) rfl rfl rfl (show _ = (.bool (true) : Value) from rfl) rfl ?_    -- law.go:28 t21 := (Op.call { callee := (Callee.builtin Builtin.len), args := #[(Operand.tmp 20)], argTypes := #[22] })
    refine opsF_off (d := 19) rfl rfl rfl (show _ = (.bool (true) : Value) from rfl) rfl ?_    -- law.go:28 t22 := (Op.binOp BinOp.gtr 3 (Operand.tmp 21) (Operand.const (Value.int IntKind.i64 2000)) 3)
    refine opsF_step rfl (YieldsK.pickT (show _ = (.bool (true) : Value) from rfl) (show _ = (.bool (true) : Value) from rfl) ?_)    -- law.go:28 t23 := (Op.pick (Operand.tmp 19) (Operand.const (Value.bool true)) (Operand.tmp 22))
    refine opsF_end (fun ρ => ρ 0 = (vb : Value) ∧ ρ 1 = (vd : Value) ∧ ρ 4 = (.bool (false) : Value) ∧ ρ 23 = (.bool (true) : Value) ∧ True) ⟨T0, T1, T4, rfl, trivial⟩ fun ρ5 ⟨T0, T1, T4, T23, _⟩ => ?_
    refine thenF_normal (hK4 _ _ ?_)
    refine wpF_true (show _ = (.bool (true) : Value) from T23) ?_
    refine wpF_seq_k fun K6 hK6 => ?_
    refine wpF_text ?_
    refine opsF_step rfl (YieldsK.assign (show _ = (.bool (true) : Value) from rfl) ?_)    -- law.go:29 t4 := (Op.assign (Operand.const (Value.bool true)))
    refine opsF_end (fun ρ => ρ 0 = (vb : Value) ∧ ρ 1 = (vd : Value) ∧ ρ 4 = (.bool (true) : Value) ∧ ρ 23 = (.bool (true) : Value) ∧ True) ⟨T0, T1, rfl, T23, trivial⟩ fun ρ7 ⟨T0, T1, T4, T23, _⟩ => ?_
    refine thenF_normal (hK6 _ _ ?_)
    refine wpF_ret (thenF_ret ?_)
    refine postF_ret (fn := Try.f6) _ rfl [.bool (true)] (.bool (true)) rfl ⟨T4, trivial⟩ ?_
    exact ⟨rfl, hE⟩
  · by_cases h2 : 2000 < D.length
    · refine thenF_normal (hK1 _ _ ?_)
      refine wpF_seq_k fun K8 hK8 => ?_
      refine wpF_seq_k fun K9 hK9 => ?_
      refine wpF_text ?_
      refine opsF_step rfl (YieldsK.move (show _ = (vb : Value) from T0) ?_)    -- law.go:28 t16 := (Op.move (Operand.tmp 0))
      refine opsF_step rfl (YieldsK.lenRB del20_ty22 (RB.of (hrb.keep hE) (show _ = (vb : Value) from rfl)) ?_)    -- law.go:28 t17 := (Op.call { callee := (Callee.builtin Builtin.len), args := #[(Operand.tmp 16)], argTypes := #[22] })
      refine opsF_step rfl (YieldsK.eqI (a := ((B.length : Nat) : Int)) (b := ((2000 : Nat) : Int)) (show _ = (.int .i64 ((B.length : Nat) : Int) : Value) from rfl) (show _ = (.int .i64 ((2000 : Nat) : Int) : Value) from rfl) (k_gtr _ .i64 (B.length) (2000)) ?_)    -- law.go:28 t18 := (Op.binOp BinOp.gtr 3 (Operand.tmp 17) (Operand.const (Value.int IntKind.i64 2000)) 3)
      refine opsF_step rfl (YieldsK.move (show _ = (.bool (false) : Value) from (congrArg Value.bool (decide_eq_false (h1)))) ?_)    -- law.go:28 t19 := (Op.move (Operand.tmp 18))
      refine opsF_on (d := 19) rfl rfl (show _ = (.bool (false) : Value) from rfl) (YieldsK.move (show _ = (vd : Value) from T1) ?_)    -- law.go:28 t20 := (Op.move (Operand.tmp 1))
      refine opsF_on (d := 19) rfl rfl (show _ = (.bool (false) : Value) from rfl) (YieldsK.lenRB del20_ty22 (RB.of (hrd.keep hE) (show _ = (vd : Value) from rfl)) ?_)    -- law.go:28 t21 := (Op.call { callee := (Callee.builtin Builtin.len), args := #[(Operand.tmp 20)], argTypes := #[22] })
      refine opsF_on (d := 19) rfl rfl (show _ = (.bool (false) : Value) from rfl) (YieldsK.eqI (a := ((D.length : Nat) : Int)) (b := ((2000 : Nat) : Int)) (show _ = (.int .i64 ((D.length : Nat) : Int) : Value) from rfl) (show _ = (.int .i64 ((2000 : Nat) : Int) : Value) from rfl) (k_gtr _ .i64 (D.length) (2000)) ?_)    -- law.go:28 t22 := (Op.binOp BinOp.gtr 3 (Operand.tmp 21) (Operand.const (Value.int IntKind.i64 2000)) 3)
      refine opsF_step rfl (YieldsK.pickF (show _ = (.bool (false) : Value) from rfl) (show _ = (.bool (true) : Value) from (congrArg Value.bool (decide_eq_true (h2)))) ?_)    -- law.go:28 t23 := (Op.pick (Operand.tmp 19) (Operand.const (Value.bool true)) (Operand.tmp 22))
      refine opsF_end (fun ρ => ρ 0 = (vb : Value) ∧ ρ 1 = (vd : Value) ∧ ρ 4 = (.bool (false) : Value) ∧ ρ 23 = (.bool (true) : Value) ∧ True) ⟨T0, T1, T4, rfl, trivial⟩ fun ρ10 ⟨T0, T1, T4, T23, _⟩ => ?_
      refine thenF_normal (hK9 _ _ ?_)
      refine wpF_true (show _ = (.bool (true) : Value) from T23) ?_
      refine wpF_seq_k fun K11 hK11 => ?_
      refine wpF_text ?_
      refine opsF_step rfl (YieldsK.assign (show _ = (.bool (true) : Value) from rfl) ?_)    -- law.go:29 t4 := (Op.assign (Operand.const (Value.bool true)))
      refine opsF_end (fun ρ => ρ 0 = (vb : Value) ∧ ρ 1 = (vd : Value) ∧ ρ 4 = (.bool (true) : Value) ∧ ρ 23 = (.bool (true) : Value) ∧ True) ⟨T0, T1, rfl, T23, trivial⟩ fun ρ12 ⟨T0, T1, T4, T23, _⟩ => ?_
      refine thenF_normal (hK11 _ _ ?_)
      refine wpF_ret (thenF_ret ?_)
      refine postF_ret (fn := Try.f6) _ rfl [.bool (true)] (.bool (true)) rfl ⟨T4, trivial⟩ ?_
      exact ⟨rfl, hE⟩
    · rcases hsz : sizesP D with _ | ⟨sa, sb, sn⟩
      · refine thenF_normal (hK1 _ _ ?_)
        refine wpF_seq_k fun K13 hK13 => ?_
        refine wpF_seq_k fun K14 hK14 => ?_
        refine wpF_text ?_
        refine opsF_step rfl (YieldsK.move (show _ = (vb : Value) from T0) ?_)    -- law.go:28 t16 := (Op.move (Operand.tmp 0))
        refine opsF_step rfl (YieldsK.lenRB del20_ty22 (RB.of (hrb.keep hE) (show _ = (vb : Value) from rfl)) ?_)    -- law.go:28 t17 := (Op.call { callee := (Callee.builtin Builtin.len), args := #[(Operand.tmp 16)], argTypes := #[22] })
        refine opsF_step rfl (YieldsK.eqI (a := ((B.length : Nat) : Int)) (b := ((2000 : Nat) : Int)) (show _ = (.int .i64 ((B.length : Nat) : Int) : Value) from rfl) (show _ = (.int .i64 ((2000 : Nat) : Int) : Value) from rfl) (k_gtr _ .i64 (B.length) (2000)) ?_)    -- law.go:28 t18 := (Op.binOp BinOp.gtr 3 (Operand.tmp 17) (Operand.const (Value.int IntKind.i64 2000)) 3)
        refine opsF_step rfl (YieldsK.move (show _ = (.bool (false) : Value) from (congrArg Value.bool (decide_eq_false (h1)))) ?_)    -- law.go:28 t19 := (Op.move (Operand.tmp 18))
        refine opsF_on (d := 19) rfl rfl (show _ = (.bool (false) : Value) from rfl) (YieldsK.move (show _ = (vd : Value) from T1) ?_)    -- law.go:28 t20 := (Op.move (Operand.tmp 1))
        refine opsF_on (d := 19) rfl rfl (show _ = (.bool (false) : Value) from rfl) (YieldsK.lenRB del20_ty22 (RB.of (hrd.keep hE) (show _ = (vd : Value) from rfl)) ?_)    -- law.go:28 t21 := (Op.call { callee := (Callee.builtin Builtin.len), args := #[(Operand.tmp 20)], argTypes := #[22] })
        refine opsF_on (d := 19) rfl rfl (show _ = (.bool (false) : Value) from rfl) (YieldsK.eqI (a := ((D.length : Nat) : Int)) (b := ((2000 : Nat) : Int)) (show _ = (.int .i64 ((D.length : Nat) : Int) : Value) from rfl) (show _ = (.int .i64 ((2000 : Nat) : Int) : Value) from rfl) (k_gtr _ .i64 (D.length) (2000)) ?_)    -- law.go:28 t22 := (Op.binOp BinOp.gtr 3 (Operand.tmp 21) (Operand.const (Value.int IntKind.i64 2000)) 3)
        refine opsF_step rfl (YieldsK.pickF (show _ = (.bool (false) : Value) from rfl) (show _ = (.bool (false) : Value) from (congrArg Value.bool (decide_eq_false (h2)))) ?_)    -- law.go:28 t23 := (Op.pick (Operand.tmp 19) (Operand.const (Value.bool true)) (Operand.tmp 22))
        refine opsF_end (fun ρ => ρ 0 = (vb : Value) ∧ ρ 1 = (vd : Value) ∧ ρ 4 = (.bool (false) : Value) ∧ ρ 23 = (.bool (false) : Value) ∧ True) ⟨T0, T1, T4, rfl, trivial⟩ fun ρ15 ⟨T0, T1, T4, T23, _⟩ => ?_
        refine thenF_normal (hK14 _ _ ?_)
        refine wpF_false (show _ = (.bool (false) : Value) from T23) ?_
        refine wpF_skip ?_
        refine thenF_normal (hK13 _ _ ?_)
        refine wpF_seq_k fun K16 hK16 => ?_
        refine wpF_text ?_
        refine opsF_step rfl (YieldsK.move (show _ = (vb : Value) from T0) ?_)    -- law.go:31 t25 := (Op.move (Operand.tmp 0))
        refine opsF_step rfl (YieldsK.callA1 del20_pl9 (show _ = (vb : Value) from rfl) ?_)    -- law.go:31 t26 := (Op.call { callee := (Callee.value (Operand.func 9)), args := #[(Operand.tmp 25)], argTypes := #[22] })
        refine (copy_any _ vb (B) (hrb.keep hE) (by omega)).mono ?_
        rintro e w19 ⟨v17, rfl, hN18⟩
        refine ⟨_, rfl, ?_⟩
        have hE : Ext w w19 := (hE.trans hN18.ext)
        have ho20 := hN18.own; clear hN18
        refine opsF_step rfl (YieldsK.move (show _ = (vd : Value) from T1) ?_)    -- law.go:31 t27 := (Op.move (Operand.tmp 1))
        refine opsF_step rfl (YieldsK.callA1 del20_pl9 (show _ = (vd : Value) from rfl) ?_)    -- law.go:31 t28 := (Op.call { callee := (Callee.value (Operand.func 9)), args := #[(Operand.tmp 27)], argTypes := #[22] })
        refine (copy_any _ vd (D) (hrd.keep hE) (by omega)).mono ?_
        rintro e w23 ⟨v21, rfl, hN22⟩
        refine ⟨_, rfl, ?_⟩
        have hA24 := Ext.refl w19
        have hea25 := hE
        have hz26 : w.heap.size ≤ w19.heap.size := hE.size
        have hE : Ext w w23 := (hE.trans hN22.ext)
        have ho20 : w23.ownsRow w.heap.size 5 1 v17 B.length (Lib.byteCells (B)) := (Stab.own _ _ _ _ _ _ _ _ ho20 hN22.ext)
        have hA24 : Ext w19 w23 := (hA24.trans hN22.ext)
        have ho27 := hN22.own; clear hN22
        refine opsF_step rfl (YieldsK.callA2 del20_pl12 (show _ = (v17 : Value) from rfl) (show _ = (v21 : Value) from rfl) ?_)    -- law.go:31 t29 := (Op.call { callee := (Callee.value (Operand.func 12)), args := #[(Operand.tmp 26), (Operand.tmp 28)], argTypes
        refine (apply_any _ v17 v21 B D (RB.ofOwn ho20) (RB.ofOwn ho27) (by omega) (by omega)).mono ?_
        rintro e w31 ⟨v28, rfl, hr30, hx29⟩
        refine ⟨_, rfl, ?_⟩
        have hE : Ext w w31 := (hE.trans hx29)
        have ho20 : w31.ownsRow w.heap.size 5 1 v17 B.length (Lib.byteCells (B)) := (Stab.own _ _ _ _ _ _ _ _ ho20 hx29)
        have hA24 : Ext w19 w31 := (hA24.trans hx29)
        have ho27 : w31.ownsRow w19.heap.size 5 1 v21 D.length (Lib.byteCells (D)) := (Stab.own _ _ _ _ _ _ _ _ ho27 hx29)
        refine opsF_step rfl (YieldsK.move (show _ = (.tuple #[v28, .int .i64 (((applyP B D).2 : Nat) : Int)] : Value) from rfl) ?_)    -- law.go:31 t24 := (Op.move (Operand.tmp 29))
        refine opsF_step rfl (YieldsK.extract (vs := [v28, .int .i64 (((applyP B D).2 : Nat) : Int)]) (show _ = (.tuple #[v28, .int .i64 (((applyP B D).2 : Nat) : Int)] : Value) from rfl) (show _ = some (v28 : Value) from rfl) ?_)    -- law.go:31 t30 := (Op.extract (Operand.tmp 24) 0)
        refine opsF_step rfl (YieldsK.extract (vs := [v28, .int .i64 (((applyP B D).2 : Nat) : Int)]) (show _ = (.tuple #[v28, .int .i64 (((applyP B D).2 : Nat) : Int)] : Value) from rfl) (show _ = some (.int .i64 (((applyP B D).2 : Nat) : Int) : Value) from rfl) ?_)    -- law.go:31 t31 := (Op.extract (Operand.tmp 24) 1)
        refine opsF_step rfl (YieldsK.assign (show _ = (v28 : Value) from rfl) ?_)    -- law.go:31 t5 := (Op.assign (Operand.tmp 30))
        refine opsF_step rfl (YieldsK.assign (show _ = (.int .i64 (((applyP B D).2 : Nat) : Int) : Value) from rfl) ?_)    -- law.go:31 t6 := (Op.assign (Operand.tmp 31))
        refine opsF_end (fun ρ => ρ 0 = (vb : Value) ∧ ρ 1 = (vd : Value) ∧ ρ 4 = (.bool (false) : Value) ∧ ρ 5 = (v28 : Value) ∧ ρ 6 = (.int .i64 (((applyP B D).2 : Nat) : Int) : Value) ∧ ρ 23 = (.bool (false) : Value) ∧ True) ⟨T0, T1, T4, rfl, rfl, T23, trivial⟩ fun ρ32 ⟨T0, T1, T4, T5, T6, T23, _⟩ => ?_
        refine thenF_normal (hK16 _ _ ?_)
        refine wpF_seq_k fun K33 hK33 => ?_
        refine wpF_text ?_
        refine opsF_step rfl (YieldsK.move (show _ = (vb : Value) from T0) ?_)    -- law.go:32 t33 := (Op.move (Operand.tmp 0))
        refine opsF_step rfl (YieldsK.move (show _ = (vd : Value) from T1) ?_)    -- law.go:32 t34 := (Op.move (Operand.tmp 1))
        refine opsF_step rfl (YieldsK.callA2 del20_pl13 (show _ = (vb : Value) from rfl) (show _ = (vd : Value) from rfl) ?_)    -- law.go:32 t35 := (Op.call { callee := (Callee.value (Operand.func 13)), args := #[(Operand.tmp 33), (Operand.tmp 34)], argTypes
        refine (refApply_any _ vb vd B D (hrb.keep hE) (hrd.keep hE) (by omega) (by omega)).mono ?_
        rintro e w37 ⟨v34, rfl, hr36, hx35⟩
        refine ⟨_, rfl, ?_⟩
        have hE : Ext w w37 := (hE.trans hx35)
        have ho20 : w37.ownsRow w.heap.size 5 1 v17 B.length (Lib.byteCells (B)) := (Stab.own _ _ _ _ _ _ _ _ ho20 hx35)
        have hA24 : Ext w19 w37 := (hA24.trans hx35)
        have ho27 : w37.ownsRow w19.heap.size 5 1 v21 D.length (Lib.byteCells (D)) := (Stab.own _ _ _ _ _ _ _ _ ho27 hx35)
        have hr30 : RB w37 v28 (applyP B D).1 := (hr30.keep hx35)
        refine opsF_step rfl (YieldsK.move (show _ = (.tuple #[v34, .int .i64 (((applyP B D).2 : Nat) : Int)] : Value) from rfl) ?_)    -- law.go:32 t32 := (Op.move (Operand.tmp 35))
        refine opsF_step rfl (YieldsK.extract (vs := [v34, .int .i64 (((applyP B D).2 : Nat) : Int)]) (show _ = (.tuple #[v34, .int .i64 (((applyP B D).2 : Nat) : Int)] : Value) from rfl) (show _ = some (v34 : Value) from rfl) ?_)    -- law.go:32 t36 := (Op.extract (Operand.tmp 32) 0)
        refine opsF_step rfl (YieldsK.extract (vs := [v34, .int .i64 (((applyP B D).2 : Nat) : Int)]) (show _ = (.tuple #[v34, .int .i64 (((applyP B D).2 : Nat) : Int)] : Value) from rfl) (show _ = some (.int .i64 (((applyP B D).2 : Nat) : Int) : Value) from rfl) ?_)    -- law.go:32 t37 := (Op.extract (Operand.tmp 32) 1)
        refine opsF_step rfl (YieldsK.assign (show _ = (v34 : Value) from rfl) ?_)    -- law.go:32 t7 := (Op.assign (Operand.tmp 36))
        refine opsF_step rfl (YieldsK.assign (show _ = (.int .i64 (((applyP B D).2 : Nat) : Int) : Value) from rfl) ?_)    -- law.go:32 t8 := (Op.assign (Operand.tmp 37))
        refine opsF_end (fun ρ => ρ 0 = (vb : Value) ∧ ρ 1 = (vd : Value) ∧ ρ 4 = (.bool (false) : Value) ∧ ρ 5 = (v28 : Value) ∧ ρ 6 = (.int .i64 (((applyP B D).2 : Nat) : Int) : Value) ∧ ρ 7 = (v34 : Value) ∧ ρ 8 = (.int .i64 (((applyP B D).2 : Nat) : Int) : Value) ∧ ρ 23 = (.bool (false) : Value) ∧ True) ⟨T0, T1, T4, T5, T6, rfl, rfl, T23, trivial⟩ fun ρ38 ⟨T0, T1, T4, T5, T6, T7, T8, T23, _⟩ => ?_
        refine thenF_normal (hK33 _ _ ?_)
        refine wpF_seq_k fun K39 hK39 => ?_
        refine wpF_text ?_
        refine opsF_step rfl (YieldsK.move (show _ = (vd : Value) from T1) ?_)    -- law.go:33 t39 := (Op.move (Operand.tmp 1))
        refine opsF_step rfl (YieldsK.callA1 del20_pl9 (show _ = (vd : Value) from rfl) ?_)    -- law.go:33 t40 := (Op.call { callee := (Callee.value (Operand.func 9)), args := #[(Operand.tmp 39)], argTypes := #[22] })
        refine (copy_any _ vd (D) (hrd.keep hE) (by omega)).mono ?_
        rintro e w42 ⟨v40, rfl, hN41⟩
        refine ⟨_, rfl, ?_⟩
        have hA43 := Ext.refl w37
        have hea44 := hE
        have hea45 := hA24
        have hz46 : w.heap.size ≤ w37.heap.size := hE.size
        have hz47 : w19.heap.size ≤ w37.heap.size := hA24.size
        have hE : Ext w w42 := (hE.trans hN41.ext)
        have ho20 : w42.ownsRow w.heap.size 5 1 v17 B.length (Lib.byteCells (B)) := (Stab.own _ _ _ _ _ _ _ _ ho20 hN41.ext)
        have hA24 : Ext w19 w42 := (hA24.trans hN41.ext)
        have ho27 : w42.ownsRow w19.heap.size 5 1 v21 D.length (Lib.byteCells (D)) := (Stab.own _ _ _ _ _ _ _ _ ho27 hN41.ext)
        have hA43 : Ext w37 w42 := (hA43.trans hN41.ext)
        have ho48 := hN41.own; clear hN41
        refine opsF_step rfl (YieldsK.callA1 del20_pl14 (show _ = (v40 : Value) from rfl) ?_)    -- law.go:33 t41 := (Op.call { callee := (Callee.value (Operand.func 14)), args := #[(Operand.tmp 40)], argTypes := #[22] })
        refine ((show Calls _ _ _ _ (fun e w2 => e = .returned (.tuple #[NI 0, NI 0, NI 6]) ∧ Ext _ w2) from by have h := Sizes_any _ v40 D (RB.ofOwn ho48); rw [hsz] at h; exact h)).mono ?_
        rintro e w50 ⟨rfl, hx49⟩
        refine ⟨_, rfl, ?_⟩
        have hE : Ext w w50 := (hE.trans hx49)
        have ho20 : w50.ownsRow w.heap.size 5 1 v17 B.length (Lib.byteCells (B)) := (Stab.own _ _ _ _ _ _ _ _ ho20 hx49)
        have hA24 : Ext w19 w50 := (hA24.trans hx49)
        have ho27 : w50.ownsRow w19.heap.size 5 1 v21 D.length (Lib.byteCells (D)) := (Stab.own _ _ _ _ _ _ _ _ ho27 hx49)
        have hA43 : Ext w37 w50 := (hA43.trans hx49)
        have ho48 : w50.ownsRow w37.heap.size 5 1 v40 D.length (Lib.byteCells (D)) := (Stab.own _ _ _ _ _ _ _ _ ho48 hx49)
        refine opsF_step rfl (YieldsK.move (show _ = (.tuple #[.int .i64 ((0 : Nat) : Int), .int .i64 ((0 : Nat) : Int), .int .i64 ((6 : Nat) : Int)] : Value) from rfl) ?_)    -- law.go:33 t38 := (Op.move (Operand.tmp 41))
        refine opsF_step rfl (YieldsK.extract (vs := [.int .i64 ((0 : Nat) : Int), .int .i64 ((0 : Nat) : Int), .int .i64 ((6 : Nat) : Int)]) (show _ = (.tuple #[.int .i64 ((0 : Nat) : Int), .int .i64 ((0 : Nat) : Int), .int .i64 ((6 : Nat) : Int)] : Value) from rfl) (show _ = some (.int .i64 ((0 : Nat) : Int) : Value) from rfl) ?_)    -- law.go:33 t42 := (Op.extract (Operand.tmp 38) 0)
        refine opsF_step rfl (YieldsK.extract (vs := [.int .i64 ((0 : Nat) : Int), .int .i64 ((0 : Nat) : Int), .int .i64 ((6 : Nat) : Int)]) (show _ = (.tuple #[.int .i64 ((0 : Nat) : Int), .int .i64 ((0 : Nat) : Int), .int .i64 ((6 : Nat) : Int)] : Value) from rfl) (show _ = some (.int .i64 ((0 : Nat) : Int) : Value) from rfl) ?_)    -- law.go:33 t43 := (Op.extract (Operand.tmp 38) 1)
        refine opsF_step rfl (YieldsK.extract (vs := [.int .i64 ((0 : Nat) : Int), .int .i64 ((0 : Nat) : Int), .int .i64 ((6 : Nat) : Int)]) (show _ = (.tuple #[.int .i64 ((0 : Nat) : Int), .int .i64 ((0 : Nat) : Int), .int .i64 ((6 : Nat) : Int)] : Value) from rfl) (show _ = some (.int .i64 ((6 : Nat) : Int) : Value) from rfl) ?_)    -- law.go:33 t44 := (Op.extract (Operand.tmp 38) 2)
        refine opsF_step rfl (YieldsK.assign (show _ = (.int .i64 ((0 : Nat) : Int) : Value) from rfl) ?_)    -- law.go:33 t9 := (Op.assign (Operand.tmp 42))
        refine opsF_step rfl (YieldsK.assign (show _ = (.int .i64 ((0 : Nat) : Int) : Value) from rfl) ?_)    -- law.go:33 t10 := (Op.assign (Operand.tmp 43))
        refine opsF_step rfl (YieldsK.assign (show _ = (.int .i64 ((6 : Nat) : Int) : Value) from rfl) ?_)    -- law.go:33 t11 := (Op.assign (Operand.tmp 44))
        refine opsF_end (fun ρ => ρ 0 = (vb : Value) ∧ ρ 1 = (vd : Value) ∧ ρ 4 = (.bool (false) : Value) ∧ ρ 5 = (v28 : Value) ∧ ρ 6 = (.int .i64 (((applyP B D).2 : Nat) : Int) : Value) ∧ ρ 7 = (v34 : Value) ∧ ρ 8 = (.int .i64 (((applyP B D).2 : Nat) : Int) : Value) ∧ ρ 9 = (.int .i64 ((0 : Nat) : Int) : Value) ∧ ρ 10 = (.int .i64 ((0 : Nat) : Int) : Value) ∧ ρ 11 = (.int .i64 ((6 : Nat) : Int) : Value) ∧ ρ 23 = (.bool (false) : Value) ∧ True) ⟨T0, T1, T4, T5, T6, T7, T8, rfl, rfl, rfl, T23, trivial⟩ fun ρ51 ⟨T0, T1, T4, T5, T6, T7, T8, T9, T10, T11, T23, _⟩ => ?_
        refine thenF_normal (hK39 _ _ ?_)
        refine wpF_seq_k fun K52 hK52 => ?_
        refine wpF_text ?_
        refine opsF_step rfl (YieldsK.move (show _ = (vd : Value) from T1) ?_)    -- law.go:34 t46 := (Op.move (Operand.tmp 1))
        refine opsF_step rfl (YieldsK.callA1 del20_pl15 (show _ = (vd : Value) from rfl) ?_)    -- law.go:34 t47 := (Op.call { callee := (Callee.value (Operand.func 15)), args := #[(Operand.tmp 46)], argTypes := #[22] })
        refine (refSizes_no _ vd D (hrd.keep hE) (by omega) hsz).mono ?_
        rintro e w54 ⟨rfl, hx53⟩
        refine ⟨_, rfl, ?_⟩
        have hE : Ext w w54 := (hE.trans hx53)
        have ho20 : w54.ownsRow w.heap.size 5 1 v17 B.length (Lib.byteCells (B)) := (Stab.own _ _ _ _ _ _ _ _ ho20 hx53)
        have hA24 : Ext w19 w54 := (hA24.trans hx53)
        have ho27 : w54.ownsRow w19.heap.size 5 1 v21 D.length (Lib.byteCells (D)) := (Stab.own _ _ _ _ _ _ _ _ ho27 hx53)
        have hA43 : Ext w37 w54 := (hA43.trans hx53)
        have ho48 : w54.ownsRow w37.heap.size 5 1 v40 D.length (Lib.byteCells (D)) := (Stab.own _ _ _ _ _ _ _ _ ho48 hx53)
        refine opsF_step rfl (YieldsK.move (show _ = (.tuple #[.int .i64 ((0 : Nat) : Int), .int .i64 ((0 : Nat) : Int), .int .i64 ((0 : Nat) : Int), .int .i64 ((6 : Nat) : Int)] : Value) from rfl) ?_)    -- law.go:34 t45 := (Op.move (Operand.tmp 47))
        refine opsF_step rfl (YieldsK.extract (vs := [.int .i64 ((0 : Nat) : Int), .int .i64 ((0 : Nat) : Int), .int .i64 ((0 : Nat) : Int), .int .i64 ((6 : Nat) : Int)]) (show _ = (.tuple #[.int .i64 ((0 : Nat) : Int), .int .i64 ((0 : Nat) : Int), .int .i64 ((0 : Nat) : Int), .int .i64 ((6 : Nat) : Int)] : Value) from rfl) (show _ = some (.int .i64 ((0 : Nat) : Int) : Value) from rfl) ?_)    -- law.go:34 t48 := (Op.extract (Operand.tmp 45) 0)
        refine opsF_step rfl (YieldsK.extract (vs := [.int .i64 ((0 : Nat) : Int), .int .i64 ((0 : Nat) : Int), .int .i64 ((0 : Nat) : Int), .int .i64 ((6 : Nat) : Int)]) (show _ = (.tuple #[.int .i64 ((0 : Nat) : Int), .int .i64 ((0 : Nat) : Int), .int .i64 ((0 : Nat) : Int), .int .i64 ((6 : Nat) : Int)] : Value) from rfl) (show _ = some (.int .i64 ((0 : Nat) : Int) : Value) from rfl) ?_)    -- law.go:34 t49 := (Op.extract (Operand.tmp 45) 1)
        refine opsF_step rfl (YieldsK.extract (vs := [.int .i64 ((0 : Nat) : Int), .int .i64 ((0 : Nat) : Int), .int .i64 ((0 : Nat) : Int), .int .i64 ((6 : Nat) : Int)]) (show _ = (.tuple #[.int .i64 ((0 : Nat) : Int), .int .i64 ((0 : Nat) : Int), .int .i64 ((0 : Nat) : Int), .int .i64 ((6 : Nat) : Int)] : Value) from rfl) (show _ = some (.int .i64 ((0 : Nat) : Int) : Value) from rfl) ?_)    -- law.go:34 t50 := (Op.extract (Operand.tmp 45) 2)
        refine opsF_step rfl (YieldsK.extract (vs := [.int .i64 ((0 : Nat) : Int), .int .i64 ((0 : Nat) : Int), .int .i64 ((0 : Nat) : Int), .int .i64 ((6 : Nat) : Int)]) (show _ = (.tuple #[.int .i64 ((0 : Nat) : Int), .int .i64 ((0 : Nat) : Int), .int .i64 ((0 : Nat) : Int), .int .i64 ((6 : Nat) : Int)] : Value) from rfl) (show _ = some (.int .i64 ((6 : Nat) : Int) : Value) from rfl) ?_)    -- law.go:34 t51 := (Op.extract (Operand.tmp 45) 3)
        refine opsF_step rfl (YieldsK.assign (show _ = (.int .i64 ((0 : Nat) : Int) : Value) from rfl) ?_)    -- law.go:34 t12 := (Op.assign (Operand.tmp 48))
        refine opsF_step rfl (YieldsK.assign (show _ = (.int .i64 ((0 : Nat) : Int) : Value) from rfl) ?_)    -- law.go:34 t13 := (Op.assign (Operand.tmp 49))
        refine opsF_step rfl (YieldsK.assign (show _ = (.int .i64 ((0 : Nat) : Int) : Value) from rfl) ?_)    -- law.go:34 t14 := (Op.assign (Operand.tmp 50))
        refine opsF_step rfl (YieldsK.assign (show _ = (.int .i64 ((6 : Nat) : Int) : Value) from rfl) ?_)    -- law.go:34 t15 := (Op.assign (Operand.tmp 51))
        refine opsF_end (fun ρ => ρ 0 = (vb : Value) ∧ ρ 1 = (vd : Value) ∧ ρ 4 = (.bool (false) : Value) ∧ ρ 5 = (v28 : Value) ∧ ρ 6 = (.int .i64 (((applyP B D).2 : Nat) : Int) : Value) ∧ ρ 7 = (v34 : Value) ∧ ρ 8 = (.int .i64 (((applyP B D).2 : Nat) : Int) : Value) ∧ ρ 9 = (.int .i64 ((0 : Nat) : Int) : Value) ∧ ρ 10 = (.int .i64 ((0 : Nat) : Int) : Value) ∧ ρ 11 = (.int .i64 ((6 : Nat) : Int) : Value) ∧ ρ 12 = (.int .i64 ((0 : Nat) : Int) : Value) ∧ ρ 13 = (.int .i64 ((0 : Nat) : Int) : Value) ∧ ρ 15 = (.int .i64 ((6 : Nat) : Int) : Value) ∧ ρ 23 = (.bool (false) : Value) ∧ True) ⟨T0, T1, T4, T5, T6, T7, T8, T9, T10, T11, rfl, rfl, rfl, T23, trivial⟩ fun ρ55 ⟨T0, T1, T4, T5, T6, T7, T8, T9, T10, T11, T12, T13, T15, T23, _⟩ => ?_
        refine thenF_normal (hK52 _ _ ?_)
        refine wpF_seq_k fun K56 hK56 => ?_
        refine wpF_text ?_
        refine opsF_step rfl (YieldsK.move (show _ = (v28 : Value) from T5) ?_)    -- law.go:35 t52 := (Op.move (Operand.tmp 5))
        refine opsF_step rfl (YieldsK.convRB del20_ty22 del20_ty5 del20_ty9 (RB.of (hr30.keep hA43) (show _ = (v28 : Value) from rfl)) ?_)    -- law.go:35 t53 := (Op.convert 22 9 (Operand.tmp 52))
        refine opsF_step rfl (YieldsK.move (show _ = (v34 : Value) from T7) ?_)    -- law.go:35 t54 := (Op.move (Operand.tmp 7))
        refine opsF_step rfl (YieldsK.convRB del20_ty22 del20_ty5 del20_ty9 (RB.of (hr36.keep hA43) (show _ = (v34 : Value) from rfl)) ?_)    -- law.go:35 t55 := (Op.convert 22 9 (Operand.tmp 54))
        refine opsF_step rfl (YieldsK.eqSt (l := (applyP B D).1) (m := (applyP B D).1) (.inl rfl) (show _ = (.string ⟨((applyP B D).1).toArray⟩ : Value) from rfl) (show _ = (.string ⟨((applyP B D).1).toArray⟩ : Value) from rfl) (decide ((applyP B D).1 = ((applyP B D).1 : List UInt8))) rfl ?_)    -- law.go:35 t56 := (Op.binOp BinOp.eql 9 (Operand.tmp 53) (Operand.tmp 55) 9)
        refine opsF_step rfl (YieldsK.move (show _ = (.bool (true) : Value) from (congrArg Value.bool (decide_eq_true (rfl)))) ?_)    -- law.go:35 t57 := (Op.move (Operand.tmp 56))
        refine opsF_on (d := 57) rfl rfl (show _ = (.bool (true) : Value) from rfl) (YieldsK.move (show _ = (.int .i64 (((applyP B D).2 : Nat) : Int) : Value) from T6) ?_)    -- law.go:35 t58 := (Op.move (Operand.tmp 6))
        refine opsF_on (d := 57) rfl rfl (show _ = (.bool (true) : Value) from rfl) (YieldsK.move (show _ = (.int .i64 (((applyP B D).2 : Nat) : Int) : Value) from T8) ?_)    -- law.go:35 t59 := (Op.move (Operand.tmp 8))
        refine opsF_on (d := 57) rfl rfl (show _ = (.bool (true) : Value) from rfl) (YieldsK.eqI (a := (((applyP B D).2 : Nat) : Int)) (b := (((applyP B D).2 : Nat) : Int)) (show _ = (.int .i64 (((applyP B D).2 : Nat) : Int) : Value) from rfl) (show _ = (.int .i64 (((applyP B D).2 : Nat) : Int) : Value) from rfl) (k_eql _ .i64 ((applyP B D).2) ((applyP B D).2)) ?_)    -- law.go:35 t60 := (Op.binOp BinOp.eql 3 (Operand.tmp 58) (Operand.tmp 59) 3)
        refine opsF_step rfl (YieldsK.pickT (show _ = (.bool (true) : Value) from rfl) (show _ = (.bool (true) : Value) from (congrArg Value.bool (decide_eq_true (rfl)))) ?_)    -- law.go:35 t61 := (Op.pick (Operand.tmp 57) (Operand.tmp 60) (Operand.const (Value.bool false)))
        refine opsF_step rfl (YieldsK.move (show _ = (.bool (true) : Value) from rfl) ?_)    -- law.go:35 t62 := (Op.move (Operand.tmp 61))
        refine opsF_on (d := 62) rfl rfl (show _ = (.bool (true) : Value) from rfl) (YieldsK.move (show _ = (.int .i64 ((0 : Nat) : Int) : Value) from T9) ?_)    -- law.go:35 t63 := (Op.move (Operand.tmp 9))
        refine opsF_on (d := 62) rfl rfl (show _ = (.bool (true) : Value) from rfl) (YieldsK.move (show _ = (.int .i64 ((0 : Nat) : Int) : Value) from T12) ?_)    -- law.go:35 t64 := (Op.move (Operand.tmp 12))
        refine opsF_on (d := 62) rfl rfl (show _ = (.bool (true) : Value) from rfl) (YieldsK.eqI (a := ((0 : Nat) : Int)) (b := ((0 : Nat) : Int)) (show _ = (.int .i64 ((0 : Nat) : Int) : Value) from rfl) (show _ = (.int .i64 ((0 : Nat) : Int) : Value) from rfl) (k_eql _ .i64 (0) (0)) ?_)    -- law.go:35 t65 := (Op.binOp BinOp.eql 3 (Operand.tmp 63) (Operand.tmp 64) 3)
        refine opsF_step rfl (YieldsK.pickT (show _ = (.bool (true) : Value) from rfl) (show _ = (.bool (true) : Value) from (congrArg Value.bool (decide_eq_true (rfl)))) ?_)    -- law.go:35 t66 := (Op.pick (Operand.tmp 62) (Operand.tmp 65) (Operand.const (Value.bool false)))
        refine opsF_step rfl (YieldsK.move (show _ = (.bool (true) : Value) from rfl) ?_)    -- law.go:35 t67 := (Op.move (Operand.tmp 66))
        refine opsF_on (d := 67) rfl rfl (show _ = (.bool (true) : Value) from rfl) (YieldsK.move (show _ = (.int .i64 ((0 : Nat) : Int) : Value) from T10) ?_)    -- law.go:35 t68 := (Op.move (Operand.tmp 10))
        refine opsF_on (d := 67) rfl rfl (show _ = (.bool (true) : Value) from rfl) (YieldsK.move (show _ = (.int .i64 ((0 : Nat) : Int) : Value) from T13) ?_)    -- law.go:35 t69 := (Op.move (Operand.tmp 13))
        refine opsF_on (d := 67) rfl rfl (show _ = (.bool (true) : Value) from rfl) (YieldsK.eqI (a := ((0 : Nat) : Int)) (b := ((0 : Nat) : Int)) (show _ = (.int .i64 ((0 : Nat) : Int) : Value) from rfl) (show _ = (.int .i64 ((0 : Nat) : Int) : Value) from rfl) (k_eql _ .i64 (0) (0)) ?_)    -- law.go:35 t70 := (Op.binOp BinOp.eql 3 (Operand.tmp 68) (Operand.tmp 69) 3)
        refine opsF_step rfl (YieldsK.pickT (show _ = (.bool (true) : Value) from rfl) (show _ = (.bool (true) : Value) from (congrArg Value.bool (decide_eq_true (rfl)))) ?_)    -- law.go:35 t71 := (Op.pick (Operand.tmp 67) (Operand.tmp 70) (Operand.const (Value.bool false)))
        refine opsF_step rfl (YieldsK.move (show _ = (.bool (true) : Value) from rfl) ?_)    -- law.go:35 t72 := (Op.move (Operand.tmp 71))
        refine opsF_on (d := 72) rfl rfl (show _ = (.bool (true) : Value) from rfl) (YieldsK.move (show _ = (.int .i64 ((6 : Nat) : Int) : Value) from T11) ?_)    -- law.go:35 t73 := (Op.move (Operand.tmp 11))
        refine opsF_on (d := 72) rfl rfl (show _ = (.bool (true) : Value) from rfl) (YieldsK.move (show _ = (.int .i64 ((6 : Nat) : Int) : Value) from T15) ?_)    -- law.go:35 t74 := (Op.move (Operand.tmp 15))
        refine opsF_on (d := 72) rfl rfl (show _ = (.bool (true) : Value) from rfl) (YieldsK.eqI (a := ((6 : Nat) : Int)) (b := ((6 : Nat) : Int)) (show _ = (.int .i64 ((6 : Nat) : Int) : Value) from rfl) (show _ = (.int .i64 ((6 : Nat) : Int) : Value) from rfl) (k_eql _ .i64 (6) (6)) ?_)    -- law.go:35 t75 := (Op.binOp BinOp.eql 3 (Operand.tmp 73) (Operand.tmp 74) 3)
        refine opsF_step rfl (YieldsK.pickT (show _ = (.bool (true) : Value) from rfl) (show _ = (.bool (true) : Value) from (congrArg Value.bool (decide_eq_true (rfl)))) ?_)    -- law.go:35 t76 := (Op.pick (Operand.tmp 72) (Operand.tmp 75) (Operand.const (Value.bool false)))
        refine opsF_step rfl (YieldsK.move (show _ = (.bool (true) : Value) from rfl) ?_)    -- law.go:35 t77 := (Op.move (Operand.tmp 76))
        refine opsF_on (d := 77) rfl rfl (show _ = (.bool (true) : Value) from rfl) (YieldsK.callA0 del20_pl11  ?_)    -- law.go:35 t78 := (Op.call { callee := (Callee.value (Operand.func 11)), args := #[], argTypes := #[] })
        refine (awake10 _).mono ?_
        rintro e w58 ⟨rfl, hx57⟩
        refine ⟨_, rfl, ?_⟩
        have hE : Ext w w58 := (hE.trans hx57)
        have ho20 : w58.ownsRow w.heap.size 5 1 v17 B.length (Lib.byteCells (B)) := (Stab.own _ _ _ _ _ _ _ _ ho20 hx57)
        have hA24 : Ext w19 w58 := (hA24.trans hx57)
        have ho27 : w58.ownsRow w19.heap.size 5 1 v21 D.length (Lib.byteCells (D)) := (Stab.own _ _ _ _ _ _ _ _ ho27 hx57)
        have hA43 : Ext w37 w58 := (hA43.trans hx57)
        have ho48 : w58.ownsRow w37.heap.size 5 1 v40 D.length (Lib.byteCells (D)) := (Stab.own _ _ _ _ _ _ _ _ ho48 hx57)
        refine opsF_step rfl (YieldsK.pickT (show _ = (.bool (true) : Value) from rfl) (show _ = (.bool (true) : Value) from rfl) ?_)    -- law.go:35 t79 := (Op.pick (Operand.tmp 77) (Operand.tmp 78) (Operand.const (Value.bool false)))
        refine opsF_step rfl (YieldsK.assign (show _ = (.bool (true) : Value) from rfl) ?_)    -- law.go:35 t4 := (Op.assign (Operand.tmp 79))
        refine opsF_end (fun ρ => ρ 0 = (vb : Value) ∧ ρ 1 = (vd : Value) ∧ ρ 4 = (.bool (true) : Value) ∧ ρ 5 = (v28 : Value) ∧ ρ 6 = (.int .i64 (((applyP B D).2 : Nat) : Int) : Value) ∧ ρ 7 = (v34 : Value) ∧ ρ 8 = (.int .i64 (((applyP B D).2 : Nat) : Int) : Value) ∧ ρ 9 = (.int .i64 ((0 : Nat) : Int) : Value) ∧ ρ 10 = (.int .i64 ((0 : Nat) : Int) : Value) ∧ ρ 11 = (.int .i64 ((6 : Nat) : Int) : Value) ∧ ρ 12 = (.int .i64 ((0 : Nat) : Int) : Value) ∧ ρ 13 = (.int .i64 ((0 : Nat) : Int) : Value) ∧ ρ 15 = (.int .i64 ((6 : Nat) : Int) : Value) ∧ ρ 23 = (.bool (false) : Value) ∧ True) ⟨T0, T1, rfl, T5, T6, T7, T8, T9, T10, T11, T12, T13, T15, T23, trivial⟩ fun ρ59 ⟨T0, T1, T4, T5, T6, T7, T8, T9, T10, T11, T12, T13, T15, T23, _⟩ => ?_
        refine thenF_normal (hK56 _ _ ?_)
        refine wpF_ret ?_
        refine postF_ret (fn := Try.f6) _ rfl [.bool (true)] (.bool (true)) rfl ⟨T4, trivial⟩ ?_
        exact ⟨rfl, hE⟩
      · refine thenF_normal (hK1 _ _ ?_)
        refine wpF_seq_k fun K60 hK60 => ?_
        refine wpF_seq_k fun K61 hK61 => ?_
        refine wpF_text ?_
        refine opsF_step rfl (YieldsK.move (show _ = (vb : Value) from T0) ?_)    -- law.go:28 t16 := (Op.move (Operand.tmp 0))
        refine opsF_step rfl (YieldsK.lenRB del20_ty22 (RB.of (hrb.keep hE) (show _ = (vb : Value) from rfl)) ?_)    -- law.go:28 t17 := (Op.call { callee := (Callee.builtin Builtin.len), args := #[(Operand.tmp 16)], argTypes := #[22] })
        refine opsF_step rfl (YieldsK.eqI (a := ((B.length : Nat) : Int)) (b := ((2000 : Nat) : Int)) (show _ = (.int .i64 ((B.length : Nat) : Int) : Value) from rfl) (show _ = (.int .i64 ((2000 : Nat) : Int) : Value) from rfl) (k_gtr _ .i64 (B.length) (2000)) ?_)    -- law.go:28 t18 := (Op.binOp BinOp.gtr 3 (Operand.tmp 17) (Operand.const (Value.int IntKind.i64 2000)) 3)
        refine opsF_step rfl (YieldsK.move (show _ = (.bool (false) : Value) from (congrArg Value.bool (decide_eq_false (h1)))) ?_)    -- law.go:28 t19 := (Op.move (Operand.tmp 18))
        refine opsF_on (d := 19) rfl rfl (show _ = (.bool (false) : Value) from rfl) (YieldsK.move (show _ = (vd : Value) from T1) ?_)    -- law.go:28 t20 := (Op.move (Operand.tmp 1))
        refine opsF_on (d := 19) rfl rfl (show _ = (.bool (false) : Value) from rfl) (YieldsK.lenRB del20_ty22 (RB.of (hrd.keep hE) (show _ = (vd : Value) from rfl)) ?_)    -- law.go:28 t21 := (Op.call { callee := (Callee.builtin Builtin.len), args := #[(Operand.tmp 20)], argTypes := #[22] })
        refine opsF_on (d := 19) rfl rfl (show _ = (.bool (false) : Value) from rfl) (YieldsK.eqI (a := ((D.length : Nat) : Int)) (b := ((2000 : Nat) : Int)) (show _ = (.int .i64 ((D.length : Nat) : Int) : Value) from rfl) (show _ = (.int .i64 ((2000 : Nat) : Int) : Value) from rfl) (k_gtr _ .i64 (D.length) (2000)) ?_)    -- law.go:28 t22 := (Op.binOp BinOp.gtr 3 (Operand.tmp 21) (Operand.const (Value.int IntKind.i64 2000)) 3)
        refine opsF_step rfl (YieldsK.pickF (show _ = (.bool (false) : Value) from rfl) (show _ = (.bool (false) : Value) from (congrArg Value.bool (decide_eq_false (h2)))) ?_)    -- law.go:28 t23 := (Op.pick (Operand.tmp 19) (Operand.const (Value.bool true)) (Operand.tmp 22))
        refine opsF_end (fun ρ => ρ 0 = (vb : Value) ∧ ρ 1 = (vd : Value) ∧ ρ 4 = (.bool (false) : Value) ∧ ρ 23 = (.bool (false) : Value) ∧ True) ⟨T0, T1, T4, rfl, trivial⟩ fun ρ62 ⟨T0, T1, T4, T23, _⟩ => ?_
        refine thenF_normal (hK61 _ _ ?_)
        refine wpF_false (show _ = (.bool (false) : Value) from T23) ?_
        refine wpF_skip ?_
        refine thenF_normal (hK60 _ _ ?_)
        refine wpF_seq_k fun K63 hK63 => ?_
        refine wpF_text ?_
        refine opsF_step rfl (YieldsK.move (show _ = (vb : Value) from T0) ?_)    -- law.go:31 t25 := (Op.move (Operand.tmp 0))
        refine opsF_step rfl (YieldsK.callA1 del20_pl9 (show _ = (vb : Value) from rfl) ?_)    -- law.go:31 t26 := (Op.call { callee := (Callee.value (Operand.func 9)), args := #[(Operand.tmp 25)], argTypes := #[22] })
        refine (copy_any _ vb (B) (hrb.keep hE) (by omega)).mono ?_
        rintro e w66 ⟨v64, rfl, hN65⟩
        refine ⟨_, rfl, ?_⟩
        have hE : Ext w w66 := (hE.trans hN65.ext)
        have ho67 := hN65.own; clear hN65
        refine opsF_step rfl (YieldsK.move (show _ = (vd : Value) from T1) ?_)    -- law.go:31 t27 := (Op.move (Operand.tmp 1))
        refine opsF_step rfl (YieldsK.callA1 del20_pl9 (show _ = (vd : Value) from rfl) ?_)    -- law.go:31 t28 := (Op.call { callee := (Callee.value (Operand.func 9)), args := #[(Operand.tmp 27)], argTypes := #[22] })
        refine (copy_any _ vd (D) (hrd.keep hE) (by omega)).mono ?_
        rintro e w70 ⟨v68, rfl, hN69⟩
        refine ⟨_, rfl, ?_⟩
        have hA71 := Ext.refl w66
        have hea72 := hE
        have hz73 : w.heap.size ≤ w66.heap.size := hE.size
        have hE : Ext w w70 := (hE.trans hN69.ext)
        have ho67 : w70.ownsRow w.heap.size 5 1 v64 B.length (Lib.byteCells (B)) := (Stab.own _ _ _ _ _ _ _ _ ho67 hN69.ext)
        have hA71 : Ext w66 w70 := (hA71.trans hN69.ext)
        have ho74 := hN69.own; clear hN69
        refine opsF_step rfl (YieldsK.callA2 del20_pl12 (show _ = (v64 : Value) from rfl) (show _ = (v68 : Value) from rfl) ?_)    -- law.go:31 t29 := (Op.call { callee := (Callee.value (Operand.func 12)), args := #[(Operand.tmp 26), (Operand.tmp 28)], argTypes
        refine (apply_any _ v64 v68 B D (RB.ofOwn ho67) (RB.ofOwn ho74) (by omega) (by omega)).mono ?_
        rintro e w78 ⟨v75, rfl, hr77, hx76⟩
        refine ⟨_, rfl, ?_⟩
        have hE : Ext w w78 := (hE.trans hx76)
        have ho67 : w78.ownsRow w.heap.size 5 1 v64 B.length (Lib.byteCells (B)) := (Stab.own _ _ _ _ _ _ _ _ ho67 hx76)
        have hA71 : Ext w66 w78 := (hA71.trans hx76)
        have ho74 : w78.ownsRow w66.heap.size 5 1 v68 D.length (Lib.byteCells (D)) := (Stab.own _ _ _ _ _ _ _ _ ho74 hx76)
        refine opsF_step rfl (YieldsK.move (show _ = (.tuple #[v75, .int .i64 (((applyP B D).2 : Nat) : Int)] : Value) from rfl) ?_)    -- law.go:31 t24 := (Op.move (Operand.tmp 29))
        refine opsF_step rfl (YieldsK.extract (vs := [v75, .int .i64 (((applyP B D).2 : Nat) : Int)]) (show _ = (.tuple #[v75, .int .i64 (((applyP B D).2 : Nat) : Int)] : Value) from rfl) (show _ = some (v75 : Value) from rfl) ?_)    -- law.go:31 t30 := (Op.extract (Operand.tmp 24) 0)
        refine opsF_step rfl (YieldsK.extract (vs := [v75, .int .i64 (((applyP B D).2 : Nat) : Int)]) (show _ = (.tuple #[v75, .int .i64 (((applyP B D).2 : Nat) : Int)] : Value) from rfl) (show _ = some (.int .i64 (((applyP B D).2 : Nat) : Int) : Value) from rfl) ?_)    -- law.go:31 t31 := (Op.extract (Operand.tmp 24) 1)
        refine opsF_step rfl (YieldsK.assign (show _ = (v75 : Value) from rfl) ?_)    -- law.go:31 t5 := (Op.assign (Operand.tmp 30))
        refine opsF_step rfl (YieldsK.assign (show _ = (.int .i64 (((applyP B D).2 : Nat) : Int) : Value) from rfl) ?_)    -- law.go:31 t6 := (Op.assign (Operand.tmp 31))
        refine opsF_end (fun ρ => ρ 0 = (vb : Value) ∧ ρ 1 = (vd : Value) ∧ ρ 4 = (.bool (false) : Value) ∧ ρ 5 = (v75 : Value) ∧ ρ 6 = (.int .i64 (((applyP B D).2 : Nat) : Int) : Value) ∧ ρ 23 = (.bool (false) : Value) ∧ True) ⟨T0, T1, T4, rfl, rfl, T23, trivial⟩ fun ρ79 ⟨T0, T1, T4, T5, T6, T23, _⟩ => ?_
        refine thenF_normal (hK63 _ _ ?_)
        refine wpF_seq_k fun K80 hK80 => ?_
        refine wpF_text ?_
        refine opsF_step rfl (YieldsK.move (show _ = (vb : Value) from T0) ?_)    -- law.go:32 t33 := (Op.move (Operand.tmp 0))
        refine opsF_step rfl (YieldsK.move (show _ = (vd : Value) from T1) ?_)    -- law.go:32 t34 := (Op.move (Operand.tmp 1))
        refine opsF_step rfl (YieldsK.callA2 del20_pl13 (show _ = (vb : Value) from rfl) (show _ = (vd : Value) from rfl) ?_)    -- law.go:32 t35 := (Op.call { callee := (Callee.value (Operand.func 13)), args := #[(Operand.tmp 33), (Operand.tmp 34)], argTypes
        refine (refApply_any _ vb vd B D (hrb.keep hE) (hrd.keep hE) (by omega) (by omega)).mono ?_
        rintro e w84 ⟨v81, rfl, hr83, hx82⟩
        refine ⟨_, rfl, ?_⟩
        have hE : Ext w w84 := (hE.trans hx82)
        have ho67 : w84.ownsRow w.heap.size 5 1 v64 B.length (Lib.byteCells (B)) := (Stab.own _ _ _ _ _ _ _ _ ho67 hx82)
        have hA71 : Ext w66 w84 := (hA71.trans hx82)
        have ho74 : w84.ownsRow w66.heap.size 5 1 v68 D.length (Lib.byteCells (D)) := (Stab.own _ _ _ _ _ _ _ _ ho74 hx82)
        have hr77 : RB w84 v75 (applyP B D).1 := (hr77.keep hx82)
        refine opsF_step rfl (YieldsK.move (show _ = (.tuple #[v81, .int .i64 (((applyP B D).2 : Nat) : Int)] : Value) from rfl) ?_)    -- law.go:32 t32 := (Op.move (Operand.tmp 35))
        refine opsF_step rfl (YieldsK.extract (vs := [v81, .int .i64 (((applyP B D).2 : Nat) : Int)]) (show _ = (.tuple #[v81, .int .i64 (((applyP B D).2 : Nat) : Int)] : Value) from rfl) (show _ = some (v81 : Value) from rfl) ?_)    -- law.go:32 t36 := (Op.extract (Operand.tmp 32) 0)
        refine opsF_step rfl (YieldsK.extract (vs := [v81, .int .i64 (((applyP B D).2 : Nat) : Int)]) (show _ = (.tuple #[v81, .int .i64 (((applyP B D).2 : Nat) : Int)] : Value) from rfl) (show _ = some (.int .i64 (((applyP B D).2 : Nat) : Int) : Value) from rfl) ?_)    -- law.go:32 t37 := (Op.extract (Operand.tmp 32) 1)
        refine opsF_step rfl (YieldsK.assign (show _ = (v81 : Value) from rfl) ?_)    -- law.go:32 t7 := (Op.assign (Operand.tmp 36))
        refine opsF_step rfl (YieldsK.assign (show _ = (.int .i64 (((applyP B D).2 : Nat) : Int) : Value) from rfl) ?_)    -- law.go:32 t8 := (Op.assign (Operand.tmp 37))
        refine opsF_end (fun ρ => ρ 0 = (vb : Value) ∧ ρ 1 = (vd : Value) ∧ ρ 4 = (.bool (false) : Value) ∧ ρ 5 = (v75 : Value) ∧ ρ 6 = (.int .i64 (((applyP B D).2 : Nat) : Int) : Value) ∧ ρ 7 = (v81 : Value) ∧ ρ 8 = (.int .i64 (((applyP B D).2 : Nat) : Int) : Value) ∧ ρ 23 = (.bool (false) : Value) ∧ True) ⟨T0, T1, T4, T5, T6, rfl, rfl, T23, trivial⟩ fun ρ85 ⟨T0, T1, T4, T5, T6, T7, T8, T23, _⟩ => ?_
        refine thenF_normal (hK80 _ _ ?_)
        refine wpF_seq_k fun K86 hK86 => ?_
        refine wpF_text ?_
        refine opsF_step rfl (YieldsK.move (show _ = (vd : Value) from T1) ?_)    -- law.go:33 t39 := (Op.move (Operand.tmp 1))
        refine opsF_step rfl (YieldsK.callA1 del20_pl9 (show _ = (vd : Value) from rfl) ?_)    -- law.go:33 t40 := (Op.call { callee := (Callee.value (Operand.func 9)), args := #[(Operand.tmp 39)], argTypes := #[22] })
        refine (copy_any _ vd (D) (hrd.keep hE) (by omega)).mono ?_
        rintro e w89 ⟨v87, rfl, hN88⟩
        refine ⟨_, rfl, ?_⟩
        have hA90 := Ext.refl w84
        have hea91 := hE
        have hea92 := hA71
        have hz93 : w.heap.size ≤ w84.heap.size := hE.size
        have hz94 : w66.heap.size ≤ w84.heap.size := hA71.size
        have hE : Ext w w89 := (hE.trans hN88.ext)
        have ho67 : w89.ownsRow w.heap.size 5 1 v64 B.length (Lib.byteCells (B)) := (Stab.own _ _ _ _ _ _ _ _ ho67 hN88.ext)
        have hA71 : Ext w66 w89 := (hA71.trans hN88.ext)
        have ho74 : w89.ownsRow w66.heap.size 5 1 v68 D.length (Lib.byteCells (D)) := (Stab.own _ _ _ _ _ _ _ _ ho74 hN88.ext)
        have hA90 : Ext w84 w89 := (hA90.trans hN88.ext)
        have ho95 := hN88.own; clear hN88
        refine opsF_step rfl (YieldsK.callA1 del20_pl14 (show _ = (v87 : Value) from rfl) ?_)    -- law.go:33 t41 := (Op.call { callee := (Callee.value (Operand.func 14)), args := #[(Operand.tmp 40)], argTypes := #[22] })
        refine ((show Calls _ _ _ _ (fun e w2 => e = .returned (.tuple #[NI sa, NI sb, NI 0]) ∧ Ext _ w2) from by have h := Sizes_any _ v87 D (RB.ofOwn ho95); rw [hsz] at h; exact h)).mono ?_
        rintro e w97 ⟨rfl, hx96⟩
        refine ⟨_, rfl, ?_⟩
        have hE : Ext w w97 := (hE.trans hx96)
        have ho67 : w97.ownsRow w.heap.size 5 1 v64 B.length (Lib.byteCells (B)) := (Stab.own _ _ _ _ _ _ _ _ ho67 hx96)
        have hA71 : Ext w66 w97 := (hA71.trans hx96)
        have ho74 : w97.ownsRow w66.heap.size 5 1 v68 D.length (Lib.byteCells (D)) := (Stab.own _ _ _ _ _ _ _ _ ho74 hx96)
        have hA90 : Ext w84 w97 := (hA90.trans hx96)
        have ho95 : w97.ownsRow w84.heap.size 5 1 v87 D.length (Lib.byteCells (D)) := (Stab.own _ _ _ _ _ _ _ _ ho95 hx96)
        refine opsF_step rfl (YieldsK.move (show _ = (.tuple #[.int .i64 ((sa : Nat) : Int), .int .i64 ((sb : Nat) : Int), .int .i64 ((0 : Nat) : Int)] : Value) from rfl) ?_)    -- law.go:33 t38 := (Op.move (Operand.tmp 41))
        refine opsF_step rfl (YieldsK.extract (vs := [.int .i64 ((sa : Nat) : Int), .int .i64 ((sb : Nat) : Int), .int .i64 ((0 : Nat) : Int)]) (show _ = (.tuple #[.int .i64 ((sa : Nat) : Int), .int .i64 ((sb : Nat) : Int), .int .i64 ((0 : Nat) : Int)] : Value) from rfl) (show _ = some (.int .i64 ((sa : Nat) : Int) : Value) from rfl) ?_)    -- law.go:33 t42 := (Op.extract (Operand.tmp 38) 0)
        refine opsF_step rfl (YieldsK.extract (vs := [.int .i64 ((sa : Nat) : Int), .int .i64 ((sb : Nat) : Int), .int .i64 ((0 : Nat) : Int)]) (show _ = (.tuple #[.int .i64 ((sa : Nat) : Int), .int .i64 ((sb : Nat) : Int), .int .i64 ((0 : Nat) : Int)] : Value) from rfl) (show _ = some (.int .i64 ((sb : Nat) : Int) : Value) from rfl) ?_)    -- law.go:33 t43 := (Op.extract (Operand.tmp 38) 1)
        refine opsF_step rfl (YieldsK.extract (vs := [.int .i64 ((sa : Nat) : Int), .int .i64 ((sb : Nat) : Int), .int .i64 ((0 : Nat) : Int)]) (show _ = (.tuple #[.int .i64 ((sa : Nat) : Int), .int .i64 ((sb : Nat) : Int), .int .i64 ((0 : Nat) : Int)] : Value) from rfl) (show _ = some (.int .i64 ((0 : Nat) : Int) : Value) from rfl) ?_)    -- law.go:33 t44 := (Op.extract (Operand.tmp 38) 2)
        refine opsF_step rfl (YieldsK.assign (show _ = (.int .i64 ((sa : Nat) : Int) : Value) from rfl) ?_)    -- law.go:33 t9 := (Op.assign (Operand.tmp 42))
        refine opsF_step rfl (YieldsK.assign (show _ = (.int .i64 ((sb : Nat) : Int) : Value) from rfl) ?_)    -- law.go:33 t10 := (Op.assign (Operand.tmp 43))
        refine opsF_step rfl (YieldsK.assign (show _ = (.int .i64 ((0 : Nat) : Int) : Value) from rfl) ?_)    -- law.go:33 t11 := (Op.assign (Operand.tmp 44))
        refine opsF_end (fun ρ => ρ 0 = (vb : Value) ∧ ρ 1 = (vd : Value) ∧ ρ 4 = (.bool (false) : Value) ∧ ρ 5 = (v75 : Value) ∧ ρ 6 = (.int .i64 (((applyP B D).2 : Nat) : Int) : Value) ∧ ρ 7 = (v81 : Value) ∧ ρ 8 = (.int .i64 (((applyP B D).2 : Nat) : Int) : Value) ∧ ρ 9 = (.int .i64 ((sa : Nat) : Int) : Value) ∧ ρ 10 = (.int .i64 ((sb : Nat) : Int) : Value) ∧ ρ 11 = (.int .i64 ((0 : Nat) : Int) : Value) ∧ ρ 23 = (.bool (false) : Value) ∧ True) ⟨T0, T1, T4, T5, T6, T7, T8, rfl, rfl, rfl, T23, trivial⟩ fun ρ98 ⟨T0, T1, T4, T5, T6, T7, T8, T9, T10, T11, T23, _⟩ => ?_
        refine thenF_normal (hK86 _ _ ?_)
        refine wpF_seq_k fun K99 hK99 => ?_
        refine wpF_text ?_
        refine opsF_step rfl (YieldsK.move (show _ = (vd : Value) from T1) ?_)    -- law.go:34 t46 := (Op.move (Operand.tmp 1))
        refine opsF_step rfl (YieldsK.callA1 del20_pl15 (show _ = (vd : Value) from rfl) ?_)    -- law.go:34 t47 := (Op.call { callee := (Callee.value (Operand.func 15)), args := #[(Operand.tmp 46)], argTypes := #[22] })
        refine (refSizes_yes _ vd D (hrd.keep hE) (by omega) sa sb sn hsz).mono ?_
        rintro e w101 ⟨rfl, hx100⟩
        refine ⟨_, rfl, ?_⟩
        have hE : Ext w w101 := (hE.trans hx100)
        have ho67 : w101.ownsRow w.heap.size 5 1 v64 B.length (Lib.byteCells (B)) := (Stab.own _ _ _ _ _ _ _ _ ho67 hx100)
        have hA71 : Ext w66 w101 := (hA71.trans hx100)
        have ho74 : w101.ownsRow w66.heap.size 5 1 v68 D.length (Lib.byteCells (D)) := (Stab.own _ _ _ _ _ _ _ _ ho74 hx100)
        have hA90 : Ext w84 w101 := (hA90.trans hx100)
        have ho95 : w101.ownsRow w84.heap.size 5 1 v87 D.length (Lib.byteCells (D)) := (Stab.own _ _ _ _ _ _ _ _ ho95 hx100)
        refine opsF_step rfl (YieldsK.move (show _ = (.tuple #[.int .i64 ((sa : Nat) : Int), .int .i64 ((sb : Nat) : Int), .int .i64 ((sn : Nat) : Int), .int .i64 ((0 : Nat) : Int)] : Value) from rfl) ?_)    -- law.go:34 t45 := (Op.move (Operand.tmp 47))
        refine opsF_step rfl (YieldsK.extract (vs := [.int .i64 ((sa : Nat) : Int), .int .i64 ((sb : Nat) : Int), .int .i64 ((sn : Nat) : Int), .int .i64 ((0 : Nat) : Int)]) (show _ = (.tuple #[.int .i64 ((sa : Nat) : Int), .int .i64 ((sb : Nat) : Int), .int .i64 ((sn : Nat) : Int), .int .i64 ((0 : Nat) : Int)] : Value) from rfl) (show _ = some (.int .i64 ((sa : Nat) : Int) : Value) from rfl) ?_)    -- law.go:34 t48 := (Op.extract (Operand.tmp 45) 0)
        refine opsF_step rfl (YieldsK.extract (vs := [.int .i64 ((sa : Nat) : Int), .int .i64 ((sb : Nat) : Int), .int .i64 ((sn : Nat) : Int), .int .i64 ((0 : Nat) : Int)]) (show _ = (.tuple #[.int .i64 ((sa : Nat) : Int), .int .i64 ((sb : Nat) : Int), .int .i64 ((sn : Nat) : Int), .int .i64 ((0 : Nat) : Int)] : Value) from rfl) (show _ = some (.int .i64 ((sb : Nat) : Int) : Value) from rfl) ?_)    -- law.go:34 t49 := (Op.extract (Operand.tmp 45) 1)
        refine opsF_step rfl (YieldsK.extract (vs := [.int .i64 ((sa : Nat) : Int), .int .i64 ((sb : Nat) : Int), .int .i64 ((sn : Nat) : Int), .int .i64 ((0 : Nat) : Int)]) (show _ = (.tuple #[.int .i64 ((sa : Nat) : Int), .int .i64 ((sb : Nat) : Int), .int .i64 ((sn : Nat) : Int), .int .i64 ((0 : Nat) : Int)] : Value) from rfl) (show _ = some (.int .i64 ((sn : Nat) : Int) : Value) from rfl) ?_)    -- law.go:34 t50 := (Op.extract (Operand.tmp 45) 2)
        refine opsF_step rfl (YieldsK.extract (vs := [.int .i64 ((sa : Nat) : Int), .int .i64 ((sb : Nat) : Int), .int .i64 ((sn : Nat) : Int), .int .i64 ((0 : Nat) : Int)]) (show _ = (.tuple #[.int .i64 ((sa : Nat) : Int), .int .i64 ((sb : Nat) : Int), .int .i64 ((sn : Nat) : Int), .int .i64 ((0 : Nat) : Int)] : Value) from rfl) (show _ = some (.int .i64 ((0 : Nat) : Int) : Value) from rfl) ?_)    -- law.go:34 t51 := (Op.extract (Operand.tmp 45) 3)
        refine opsF_step rfl (YieldsK.assign (show _ = (.int .i64 ((sa : Nat) : Int) : Value) from rfl) ?_)    -- law.go:34 t12 := (Op.assign (Operand.tmp 48))
        refine opsF_step rfl (YieldsK.assign (show _ = (.int .i64 ((sb : Nat) : Int) : Value) from rfl) ?_)    -- law.go:34 t13 := (Op.assign (Operand.tmp 49))
        refine opsF_step rfl (YieldsK.assign (show _ = (.int .i64 ((sn : Nat) : Int) : Value) from rfl) ?_)    -- law.go:34 t14 := (Op.assign (Operand.tmp 50))
        refine opsF_step rfl (YieldsK.assign (show _ = (.int .i64 ((0 : Nat) : Int) : Value) from rfl) ?_)    -- law.go:34 t15 := (Op.assign (Operand.tmp 51))
        refine opsF_end (fun ρ => ρ 0 = (vb : Value) ∧ ρ 1 = (vd : Value) ∧ ρ 4 = (.bool (false) : Value) ∧ ρ 5 = (v75 : Value) ∧ ρ 6 = (.int .i64 (((applyP B D).2 : Nat) : Int) : Value) ∧ ρ 7 = (v81 : Value) ∧ ρ 8 = (.int .i64 (((applyP B D).2 : Nat) : Int) : Value) ∧ ρ 9 = (.int .i64 ((sa : Nat) : Int) : Value) ∧ ρ 10 = (.int .i64 ((sb : Nat) : Int) : Value) ∧ ρ 11 = (.int .i64 ((0 : Nat) : Int) : Value) ∧ ρ 12 = (.int .i64 ((sa : Nat) : Int) : Value) ∧ ρ 13 = (.int .i64 ((sb : Nat) : Int) : Value) ∧ ρ 15 = (.int .i64 ((0 : Nat) : Int) : Value) ∧ ρ 23 = (.bool (false) : Value) ∧ True) ⟨T0, T1, T4, T5, T6, T7, T8, T9, T10, T11, rfl, rfl, rfl, T23, trivial⟩ fun ρ102 ⟨T0, T1, T4, T5, T6, T7, T8, T9, T10, T11, T12, T13, T15, T23, _⟩ => ?_
        refine thenF_normal (hK99 _ _ ?_)
        refine wpF_seq_k fun K103 hK103 => ?_
        refine wpF_text ?_
        refine opsF_step rfl (YieldsK.move (show _ = (v75 : Value) from T5) ?_)    -- law.go:35 t52 := (Op.move (Operand.tmp 5))
        refine opsF_step rfl (YieldsK.convRB del20_ty22 del20_ty5 del20_ty9 (RB.of (hr77.keep hA90) (show _ = (v75 : Value) from rfl)) ?_)    -- law.go:35 t53 := (Op.convert 22 9 (Operand.tmp 52))
        refine opsF_step rfl (YieldsK.move (show _ = (v81 : Value) from T7) ?_)    -- law.go:35 t54 := (Op.move (Operand.tmp 7))
        refine opsF_step rfl (YieldsK.convRB del20_ty22 del20_ty5 del20_ty9 (RB.of (hr83.keep hA90) (show _ = (v81 : Value) from rfl)) ?_)    -- law.go:35 t55 := (Op.convert 22 9 (Operand.tmp 54))
        refine opsF_step rfl (YieldsK.eqSt (l := (applyP B D).1) (m := (applyP B D).1) (.inl rfl) (show _ = (.string ⟨((applyP B D).1).toArray⟩ : Value) from rfl) (show _ = (.string ⟨((applyP B D).1).toArray⟩ : Value) from rfl) (decide ((applyP B D).1 = ((applyP B D).1 : List UInt8))) rfl ?_)    -- law.go:35 t56 := (Op.binOp BinOp.eql 9 (Operand.tmp 53) (Operand.tmp 55) 9)
        refine opsF_step rfl (YieldsK.move (show _ = (.bool (true) : Value) from (congrArg Value.bool (decide_eq_true (rfl)))) ?_)    -- law.go:35 t57 := (Op.move (Operand.tmp 56))
        refine opsF_on (d := 57) rfl rfl (show _ = (.bool (true) : Value) from rfl) (YieldsK.move (show _ = (.int .i64 (((applyP B D).2 : Nat) : Int) : Value) from T6) ?_)    -- law.go:35 t58 := (Op.move (Operand.tmp 6))
        refine opsF_on (d := 57) rfl rfl (show _ = (.bool (true) : Value) from rfl) (YieldsK.move (show _ = (.int .i64 (((applyP B D).2 : Nat) : Int) : Value) from T8) ?_)    -- law.go:35 t59 := (Op.move (Operand.tmp 8))
        refine opsF_on (d := 57) rfl rfl (show _ = (.bool (true) : Value) from rfl) (YieldsK.eqI (a := (((applyP B D).2 : Nat) : Int)) (b := (((applyP B D).2 : Nat) : Int)) (show _ = (.int .i64 (((applyP B D).2 : Nat) : Int) : Value) from rfl) (show _ = (.int .i64 (((applyP B D).2 : Nat) : Int) : Value) from rfl) (k_eql _ .i64 ((applyP B D).2) ((applyP B D).2)) ?_)    -- law.go:35 t60 := (Op.binOp BinOp.eql 3 (Operand.tmp 58) (Operand.tmp 59) 3)
        refine opsF_step rfl (YieldsK.pickT (show _ = (.bool (true) : Value) from rfl) (show _ = (.bool (true) : Value) from (congrArg Value.bool (decide_eq_true (rfl)))) ?_)    -- law.go:35 t61 := (Op.pick (Operand.tmp 57) (Operand.tmp 60) (Operand.const (Value.bool false)))
        refine opsF_step rfl (YieldsK.move (show _ = (.bool (true) : Value) from rfl) ?_)    -- law.go:35 t62 := (Op.move (Operand.tmp 61))
        refine opsF_on (d := 62) rfl rfl (show _ = (.bool (true) : Value) from rfl) (YieldsK.move (show _ = (.int .i64 ((sa : Nat) : Int) : Value) from T9) ?_)    -- law.go:35 t63 := (Op.move (Operand.tmp 9))
        refine opsF_on (d := 62) rfl rfl (show _ = (.bool (true) : Value) from rfl) (YieldsK.move (show _ = (.int .i64 ((sa : Nat) : Int) : Value) from T12) ?_)    -- law.go:35 t64 := (Op.move (Operand.tmp 12))
        refine opsF_on (d := 62) rfl rfl (show _ = (.bool (true) : Value) from rfl) (YieldsK.eqI (a := ((sa : Nat) : Int)) (b := ((sa : Nat) : Int)) (show _ = (.int .i64 ((sa : Nat) : Int) : Value) from rfl) (show _ = (.int .i64 ((sa : Nat) : Int) : Value) from rfl) (k_eql _ .i64 (sa) (sa)) ?_)    -- law.go:35 t65 := (Op.binOp BinOp.eql 3 (Operand.tmp 63) (Operand.tmp 64) 3)
        refine opsF_step rfl (YieldsK.pickT (show _ = (.bool (true) : Value) from rfl) (show _ = (.bool (true) : Value) from (congrArg Value.bool (decide_eq_true (rfl)))) ?_)    -- law.go:35 t66 := (Op.pick (Operand.tmp 62) (Operand.tmp 65) (Operand.const (Value.bool false)))
        refine opsF_step rfl (YieldsK.move (show _ = (.bool (true) : Value) from rfl) ?_)    -- law.go:35 t67 := (Op.move (Operand.tmp 66))
        refine opsF_on (d := 67) rfl rfl (show _ = (.bool (true) : Value) from rfl) (YieldsK.move (show _ = (.int .i64 ((sb : Nat) : Int) : Value) from T10) ?_)    -- law.go:35 t68 := (Op.move (Operand.tmp 10))
        refine opsF_on (d := 67) rfl rfl (show _ = (.bool (true) : Value) from rfl) (YieldsK.move (show _ = (.int .i64 ((sb : Nat) : Int) : Value) from T13) ?_)    -- law.go:35 t69 := (Op.move (Operand.tmp 13))
        refine opsF_on (d := 67) rfl rfl (show _ = (.bool (true) : Value) from rfl) (YieldsK.eqI (a := ((sb : Nat) : Int)) (b := ((sb : Nat) : Int)) (show _ = (.int .i64 ((sb : Nat) : Int) : Value) from rfl) (show _ = (.int .i64 ((sb : Nat) : Int) : Value) from rfl) (k_eql _ .i64 (sb) (sb)) ?_)    -- law.go:35 t70 := (Op.binOp BinOp.eql 3 (Operand.tmp 68) (Operand.tmp 69) 3)
        refine opsF_step rfl (YieldsK.pickT (show _ = (.bool (true) : Value) from rfl) (show _ = (.bool (true) : Value) from (congrArg Value.bool (decide_eq_true (rfl)))) ?_)    -- law.go:35 t71 := (Op.pick (Operand.tmp 67) (Operand.tmp 70) (Operand.const (Value.bool false)))
        refine opsF_step rfl (YieldsK.move (show _ = (.bool (true) : Value) from rfl) ?_)    -- law.go:35 t72 := (Op.move (Operand.tmp 71))
        refine opsF_on (d := 72) rfl rfl (show _ = (.bool (true) : Value) from rfl) (YieldsK.move (show _ = (.int .i64 ((0 : Nat) : Int) : Value) from T11) ?_)    -- law.go:35 t73 := (Op.move (Operand.tmp 11))
        refine opsF_on (d := 72) rfl rfl (show _ = (.bool (true) : Value) from rfl) (YieldsK.move (show _ = (.int .i64 ((0 : Nat) : Int) : Value) from T15) ?_)    -- law.go:35 t74 := (Op.move (Operand.tmp 15))
        refine opsF_on (d := 72) rfl rfl (show _ = (.bool (true) : Value) from rfl) (YieldsK.eqI (a := ((0 : Nat) : Int)) (b := ((0 : Nat) : Int)) (show _ = (.int .i64 ((0 : Nat) : Int) : Value) from rfl) (show _ = (.int .i64 ((0 : Nat) : Int) : Value) from rfl) (k_eql _ .i64 (0) (0)) ?_)    -- law.go:35 t75 := (Op.binOp BinOp.eql 3 (Operand.tmp 73) (Operand.tmp 74) 3)
        refine opsF_step rfl (YieldsK.pickT (show _ = (.bool (true) : Value) from rfl) (show _ = (.bool (true) : Value) from (congrArg Value.bool (decide_eq_true (rfl)))) ?_)    -- law.go:35 t76 := (Op.pick (Operand.tmp 72) (Operand.tmp 75) (Operand.const (Value.bool false)))
        refine opsF_step rfl (YieldsK.move (show _ = (.bool (true) : Value) from rfl) ?_)    -- law.go:35 t77 := (Op.move (Operand.tmp 76))
        refine opsF_on (d := 77) rfl rfl (show _ = (.bool (true) : Value) from rfl) (YieldsK.callA0 del20_pl11  ?_)    -- law.go:35 t78 := (Op.call { callee := (Callee.value (Operand.func 11)), args := #[], argTypes := #[] })
        refine (awake10 _).mono ?_
        rintro e w105 ⟨rfl, hx104⟩
        refine ⟨_, rfl, ?_⟩
        have hE : Ext w w105 := (hE.trans hx104)
        have ho67 : w105.ownsRow w.heap.size 5 1 v64 B.length (Lib.byteCells (B)) := (Stab.own _ _ _ _ _ _ _ _ ho67 hx104)
        have hA71 : Ext w66 w105 := (hA71.trans hx104)
        have ho74 : w105.ownsRow w66.heap.size 5 1 v68 D.length (Lib.byteCells (D)) := (Stab.own _ _ _ _ _ _ _ _ ho74 hx104)
        have hA90 : Ext w84 w105 := (hA90.trans hx104)
        have ho95 : w105.ownsRow w84.heap.size 5 1 v87 D.length (Lib.byteCells (D)) := (Stab.own _ _ _ _ _ _ _ _ ho95 hx104)
        refine opsF_step rfl (YieldsK.pickT (show _ = (.bool (true) : Value) from rfl) (show _ = (.bool (true) : Value) from rfl) ?_)    -- law.go:35 t79 := (Op.pick (Operand.tmp 77) (Operand.tmp 78) (Operand.const (Value.bool false)))
        refine opsF_step rfl (YieldsK.assign (show _ = (.bool (true) : Value) from rfl) ?_)    -- law.go:35 t4 := (Op.assign (Operand.tmp 79))
        refine opsF_end (fun ρ => ρ 0 = (vb : Value) ∧ ρ 1 = (vd : Value) ∧ ρ 4 = (.bool (true) : Value) ∧ ρ 5 = (v75 : Value) ∧ ρ 6 = (.int .i64 (((applyP B D).2 : Nat) : Int) : Value) ∧ ρ 7 = (v81 : Value) ∧ ρ 8 = (.int .i64 (((applyP B D).2 : Nat) : Int) : Value) ∧ ρ 9 = (.int .i64 ((sa : Nat) : Int) : Value) ∧ ρ 10 = (.int .i64 ((sb : Nat) : Int) : Value) ∧ ρ 11 = (.int .i64 ((0 : Nat) : Int) : Value) ∧ ρ 12 = (.int .i64 ((sa : Nat) : Int) : Value) ∧ ρ 13 = (.int .i64 ((sb : Nat) : Int) : Value) ∧ ρ 15 = (.int .i64 ((0 : Nat) : Int) : Value) ∧ ρ 23 = (.bool (false) : Value) ∧ True) ⟨T0, T1, rfl, T5, T6, T7, T8, T9, T10, T11, T12, T13, T15, T23, trivial⟩ fun ρ106 ⟨T0, T1, T4, T5, T6, T7, T8, T9, T10, T11, T12, T13, T15, T23, _⟩ => ?_
        refine thenF_normal (hK103 _ _ ?_)
        refine wpF_ret ?_
        refine postF_ret (fn := Try.f6) _ rfl [.bool (true)] (.bool (true)) rfl ⟨T4, trivial⟩ ?_
        exact ⟨rfl, hE⟩
end Go.Proofs.Ytfjmbcjcgdfkfaa
