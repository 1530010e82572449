/- DeltaMakes, walked. -/
import Derived.Test.YtfjmbcjcgdfkfaaDel15
namespace Go.Proofs.Ytfjmbcjcgdfkfaa
open Go.RowKit
theorem del16_ty22 : Try.prog.underlying 22 = some (.slice 5) := by kernel_rfl
theorem del16_pl9 : Plain Try.prog 9 := fun _ _ => by kernel_rfl
theorem del16_pl8 : Plain Try.prog 8 := fun _ _ => by kernel_rfl
theorem del16_ty5 : Try.prog.underlying 5 = some (.int .u8) := by kernel_rfl
theorem del16_ty9 : Try.prog.underlying 9 = some (.string) := by kernel_rfl
theorem del16_pl10 : Plain Try.prog 10 := fun _ _ => by kernel_rfl
theorem del16_pl11 : Plain Try.prog 11 := fun _ _ => by kernel_rfl
theorem deltaMakes_walk (w : World) (vb vt : Value) (B T : List UInt8) (hrb : RB w vb B) (hrt : RB w vt T) :
    Calls Try.prog 3 #[vb, vt] w fun e w' => e = .returned (.bool true) ∧ Ext w w' := by
  refine calls_of_wpF (args := [vb, vt]) Try.func3 rfl 27 rfl (Nat.le_of_ble_eq_true rfl) ?_
  intro ρ0 hb
  have T0 : ρ0 0 = (vb : Value) := hb.get 0
  have T1 : ρ0 1 = (vt : Value) := hb.get 1
  clear hb
  have hE := Ext.refl w
  refine wpF_seq_k fun K1 hK1 => ?_
  refine wpF_text ?_
  refine opsF_step rfl (YieldsK.assign (show _ = (.bool (false) : Value) from rfl) ?_)    -- law.go:19 t4 := (Op.assign (Operand.const (Value.bool false)))
  refine opsF_end (fun ρ => ρ 0 = (vb : Value) ∧ ρ 1 = (vt : Value) ∧ ρ 4 = (.bool (false) : Value) ∧ True) ⟨T0, T1, rfl, trivial⟩ fun ρ2 ⟨T0, T1, T4, _⟩ => ?_
  by_cases h1 : 300 < B.length
  · refine thenF_normal (hK1 _ _ ?_)
    refine wpF_seq_k fun K3 hK3 => ?_
    refine wpF_seq_k fun K4 hK4 => ?_
    refine wpF_text ?_
    refine opsF_step rfl (YieldsK.move (show _ = (vb : Value) from T0) ?_)    -- law.go:20 t5 := (Op.move (Operand.tmp 0))
    refine opsF_step rfl (YieldsK.lenRB del16_ty22 (RB.of (hrb.keep hE) (show _ = (vb : Value) from rfl)) ?_)    -- law.go:20 t6 := (Op.call { callee := (Callee.builtin Builtin.len), args := #[(Operand.tmp 5)], argTypes := #[22] })
    refine opsF_step rfl (YieldsK.eqI (a := ((B.length : Nat) : Int)) (b := ((300 : Nat) : Int)) (show _ = (.int .i64 ((B.length : Nat) : Int) : Value) from rfl) (show _ = (.int .i64 ((300 : Nat) : Int) : Value) from rfl) (k_gtr _ .i64 (B.length) (300)) ?_)    -- law.go:20 t7 := (Op.binOp BinOp.gtr 3 (Operand.tmp 6) (Operand.const (Value.int IntKind.i64 300)) 3)
    refine opsF_step rfl (YieldsK.move (show _ = (.bool (true) : Value) from (congrArg Value.bool (decide_eq_true (h1)))) ?_)    -- law.go:20 t8 := (Op.move (Operand.tmp 7))
    refine opsF_off (d := 8) rfl rfl rfl (show _ = (.bool (true) : Value) from rfl) rfl ?_    -- law.go:20 t9 := (Op.move (Operand.tmp 1))
    refine opsF_off (d := 8) rfl rfl rfl (show _ = (.bool (true) : Value) from rfl) rfl ?_    -- law.go:20 t10 := (Op.call { callee := (Callee.builtin Builtin.len), args := #[(Operand.tmp 9)], argTypes := #[22] })
    refine opsF_off (d := 8) rfl rfl rfl (show _ = (.bool (true) : Value) from rfl) rfl ?_    -- law.go:20 t11 := (Op.binOp BinOp.gtr 3 (Operand.tmp 10) (Operand.const (Value.int IntKind.i64 300)) 3)
    refine opsF_step rfl (YieldsK.pickT (show _ = (.bool (true) : Value) from rfl) (show _ = (.bool (true) : Value) from rfl) ?_)    -- law.go:20 t12 := (Op.pick (Operand.tmp 8) (Operand.const (Value.bool true)) (Operand.tmp 11))
    refine opsF_end (fun ρ => ρ 0 = (vb : Value) ∧ ρ 1 = (vt : Value) ∧ ρ 4 = (.bool (false) : Value) ∧ ρ 12 = (.bool (true) : Value) ∧ True) ⟨T0, T1, T4, rfl, trivial⟩ fun ρ5 ⟨T0, T1, T4, T12, _⟩ => ?_
    refine thenF_normal (hK4 _ _ ?_)
    refine wpF_true (show _ = (.bool (true) : Value) from T12) ?_
    refine wpF_seq_k fun K6 hK6 => ?_
    refine wpF_text ?_
    refine opsF_step rfl (YieldsK.assign (show _ = (.bool (true) : Value) from rfl) ?_)    -- law.go:21 t4 := (Op.assign (Operand.const (Value.bool true)))
    refine opsF_end (fun ρ => ρ 0 = (vb : Value) ∧ ρ 1 = (vt : Value) ∧ ρ 4 = (.bool (true) : Value) ∧ ρ 12 = (.bool (true) : Value) ∧ True) ⟨T0, T1, rfl, T12, trivial⟩ fun ρ7 ⟨T0, T1, T4, T12, _⟩ => ?_
    refine thenF_normal (hK6 _ _ ?_)
    refine wpF_ret (thenF_ret ?_)
    refine postF_ret (fn := Try.f3) _ rfl [.bool (true)] (.bool (true)) rfl ⟨T4, trivial⟩ ?_
    exact ⟨rfl, hE⟩
  · by_cases h2 : 300 < T.length
    · refine thenF_normal (hK1 _ _ ?_)
      refine wpF_seq_k fun K8 hK8 => ?_
      refine wpF_seq_k fun K9 hK9 => ?_
      refine wpF_text ?_
      refine opsF_step rfl (YieldsK.move (show _ = (vb : Value) from T0) ?_)    -- law.go:20 t5 := (Op.move (Operand.tmp 0))
      refine opsF_step rfl (YieldsK.lenRB del16_ty22 (RB.of (hrb.keep hE) (show _ = (vb : Value) from rfl)) ?_)    -- law.go:20 t6 := (Op.call { callee := (Callee.builtin Builtin.len), args := #[(Operand.tmp 5)], argTypes := #[22] })
      refine opsF_step rfl (YieldsK.eqI (a := ((B.length : Nat) : Int)) (b := ((300 : Nat) : Int)) (show _ = (.int .i64 ((B.length : Nat) : Int) : Value) from rfl) (show _ = (.int .i64 ((300 : Nat) : Int) : Value) from rfl) (k_gtr _ .i64 (B.length) (300)) ?_)    -- law.go:20 t7 := (Op.binOp BinOp.gtr 3 (Operand.tmp 6) (Operand.const (Value.int IntKind.i64 300)) 3)
      refine opsF_step rfl (YieldsK.move (show _ = (.bool (false) : Value) from (congrArg Value.bool (decide_eq_false (h1)))) ?_)    -- law.go:20 t8 := (Op.move (Operand.tmp 7))
      refine opsF_on (d := 8) rfl rfl (show _ = (.bool (false) : Value) from rfl) (YieldsK.move (show _ = (vt : Value) from T1) ?_)    -- law.go:20 t9 := (Op.move (Operand.tmp 1))
      refine opsF_on (d := 8) rfl rfl (show _ = (.bool (false) : Value) from rfl) (YieldsK.lenRB del16_ty22 (RB.of (hrt.keep hE) (show _ = (vt : Value) from rfl)) ?_)    -- law.go:20 t10 := (Op.call { callee := (Callee.builtin Builtin.len), args := #[(Operand.tmp 9)], argTypes := #[22] })
      refine opsF_on (d := 8) rfl rfl (show _ = (.bool (false) : Value) from rfl) (YieldsK.eqI (a := ((T.length : Nat) : Int)) (b := ((300 : Nat) : Int)) (show _ = (.int .i64 ((T.length : Nat) : Int) : Value) from rfl) (show _ = (.int .i64 ((300 : Nat) : Int) : Value) from rfl) (k_gtr _ .i64 (T.length) (300)) ?_)    -- law.go:20 t11 := (Op.binOp BinOp.gtr 3 (Operand.tmp 10) (Operand.const (Value.int IntKind.i64 300)) 3)
      refine opsF_step rfl (YieldsK.pickF (show _ = (.bool (false) : Value) from rfl) (show _ = (.bool (true) : Value) from (congrArg Value.bool (decide_eq_true (h2)))) ?_)    -- law.go:20 t12 := (Op.pick (Operand.tmp 8) (Operand.const (Value.bool true)) (Operand.tmp 11))
      refine opsF_end (fun ρ => ρ 0 = (vb : Value) ∧ ρ 1 = (vt : Value) ∧ ρ 4 = (.bool (false) : Value) ∧ ρ 12 = (.bool (true) : Value) ∧ True) ⟨T0, T1, T4, rfl, trivial⟩ fun ρ10 ⟨T0, T1, T4, T12, _⟩ => ?_
      refine thenF_normal (hK9 _ _ ?_)
      refine wpF_true (show _ = (.bool (true) : Value) from T12) ?_
      refine wpF_seq_k fun K11 hK11 => ?_
      refine wpF_text ?_
      refine opsF_step rfl (YieldsK.assign (show _ = (.bool (true) : Value) from rfl) ?_)    -- law.go:21 t4 := (Op.assign (Operand.const (Value.bool true)))
      refine opsF_end (fun ρ => ρ 0 = (vb : Value) ∧ ρ 1 = (vt : Value) ∧ ρ 4 = (.bool (true) : Value) ∧ ρ 12 = (.bool (true) : Value) ∧ True) ⟨T0, T1, rfl, T12, trivial⟩ fun ρ12 ⟨T0, T1, T4, T12, _⟩ => ?_
      refine thenF_normal (hK11 _ _ ?_)
      refine wpF_ret (thenF_ret ?_)
      refine postF_ret (fn := Try.f3) _ rfl [.bool (true)] (.bool (true)) rfl ⟨T4, trivial⟩ ?_
      exact ⟨rfl, hE⟩
    · refine thenF_normal (hK1 _ _ ?_)
      refine wpF_seq_k fun K13 hK13 => ?_
      refine wpF_seq_k fun K14 hK14 => ?_
      refine wpF_text ?_
      refine opsF_step rfl (YieldsK.move (show _ = (vb : Value) from T0) ?_)    -- law.go:20 t5 := (Op.move (Operand.tmp 0))
      refine opsF_step rfl (YieldsK.lenRB del16_ty22 (RB.of (hrb.keep hE) (show _ = (vb : Value) from rfl)) ?_)    -- law.go:20 t6 := (Op.call { callee := (Callee.builtin Builtin.len), args := #[(Operand.tmp 5)], argTypes := #[22] })
      refine opsF_step rfl (YieldsK.eqI (a := ((B.length : Nat) : Int)) (b := ((300 : Nat) : Int)) (show _ = (.int .i64 ((B.length : Nat) : Int) : Value) from rfl) (show _ = (.int .i64 ((300 : Nat) : Int) : Value) from rfl) (k_gtr _ .i64 (B.length) (300)) ?_)    -- law.go:20 t7 := (Op.binOp BinOp.gtr 3 (Operand.tmp 6) (Operand.const (Value.int IntKind.i64 300)) 3)
      refine opsF_step rfl (YieldsK.move (show _ = (.bool (false) : Value) from (congrArg Value.bool (decide_eq_false (h1)))) ?_)    -- law.go:20 t8 := (Op.move (Operand.tmp 7))
      refine opsF_on (d := 8) rfl rfl (show _ = (.bool (false) : Value) from rfl) (YieldsK.move (show _ = (vt : Value) from T1) ?_)    -- law.go:20 t9 := (Op.move (Operand.tmp 1))
      refine opsF_on (d := 8) rfl rfl (show _ = (.bool (false) : Value) from rfl) (YieldsK.lenRB del16_ty22 (RB.of (hrt.keep hE) (show _ = (vt : Value) from rfl)) ?_)    -- law.go:20 t10 := (Op.call { callee := (Callee.builtin Builtin.len), args := #[(Operand.tmp 9)], argTypes := #[22] })
      refine opsF_on (d := 8) rfl rfl (show _ = (.bool (false) : Value) from rfl) (YieldsK.eqI (a := ((T.length : Nat) : Int)) (b := ((300 : Nat) : Int)) (show _ = (.int .i64 ((T.length : Nat) : Int) : Value) from rfl) (show _ = (.int .i64 ((300 : Nat) : Int) : Value) from rfl) (k_gtr _ .i64 (T.length) (300)) ?_)    -- law.go:20 t11 := (Op.binOp BinOp.gtr 3 (Operand.tmp 10) (Operand.const (Value.int IntKind.i64 300)) 3)
      refine opsF_step rfl (YieldsK.pickF (show _ = (.bool (false) : Value) from rfl) (show _ = (.bool (false) : Value) from (congrArg Value.bool (decide_eq_false (h2)))) ?_)    -- law.go:20 t12 := (Op.pick (Operand.tmp 8) (Operand.const (Value.bool true)) (Operand.tmp 11))
      refine opsF_end (fun ρ => ρ 0 = (vb : Value) ∧ ρ 1 = (vt : Value) ∧ ρ 4 = (.bool (false) : Value) ∧ ρ 12 = (.bool (false) : Value) ∧ True) ⟨T0, T1, T4, rfl, trivial⟩ fun ρ15 ⟨T0, T1, T4, T12, _⟩ => ?_
      refine thenF_normal (hK14 _ _ ?_)
      refine wpF_false (show _ = (.bool (false) : Value) from T12) ?_
      refine wpF_skip ?_
      refine thenF_normal (hK13 _ _ ?_)
      refine wpF_seq_k fun K16 hK16 => ?_
      refine wpF_draw [Is (vb), fun x w' => RB w' x (B), Is (vt), fun x w' => RB w' x (T), fun x w' => RB w' x (makeP (B) (T)), Is (.string ⟨(makeP (B) (T)).toArray⟩), Is (vb), Is (vt), fun x w' => RB w' x (makeP (B) (T)), Is (.string ⟨(makeP (B) (T)).toArray⟩), Is (.bool (true)), Is (.bool (true)), Is (.bool (true)), Is (.bool (true)), Is (.bool (true))] (by kernel_rfl) [13, 14, 15, 16, 17, 18, 19, 20, 21, 22, 23, 24, 25, 26, 4] (by kernel_rfl) (by kernel_rfl) ⟨Stab.is _, (fun _ _ _ h k => RB.keep h k), Stab.is _, (fun _ _ _ h k => RB.keep h k), (fun _ _ _ h k => RB.keep h k), Stab.is _, Stab.is _, Stab.is _, (fun _ _ _ h k => RB.keep h k), Stab.is _, Stab.is _, Stab.is _, Stab.is _, Stab.is _, Stab.is _, trivial⟩ ?hs1003 ?hQ1003
      case hs1003 =>
        refine ⟨?_, ?_, ?_, ?_, ?_, ?_, ?_, ?_, ?_, ?_, ?_, ?_, ?_, ?_, ?_, trivial⟩
        · refine stepN rfl fun σ w1 hC h => ?_    -- t13 := (Op.move (Operand.tmp 0))
          have e0 : σ 0 = vb := (show _ = _ from h 0 (by decide)).trans T0
          exact YieldsK.move e0 ⟨Ext.refl _, rfl⟩
        · refine stepN rfl fun σ w1 hC h => ?_    -- t14 := (Op.call { callee := (Callee.value (Operand.func 9)), args := #[(Operand.tmp 13)], argTypes := #[22] })
          have e13 : σ 13 = vb := h 13 (by decide)
          refine YieldsK.callA1 del16_pl9 e13 ?_
          refine (copy_any _ vb (B) (hrb.keep (hE.trans hC)) (by omega)).mono ?_
          rintro e w2 ⟨_, rfl, hN⟩
          exact ⟨_, rfl, hN.ext, RB.ofOwn hN.own⟩
        · refine stepN rfl fun σ w1 hC h => ?_    -- t15 := (Op.move (Operand.tmp 1))
          have e1 : σ 1 = vt := (show _ = _ from h 1 (by decide)).trans T1
          exact YieldsK.move e1 ⟨Ext.refl _, rfl⟩
        · refine stepN rfl fun σ w1 hC h => ?_    -- t16 := (Op.call { callee := (Callee.value (Operand.func 9)), args := #[(Operand.tmp 15)], argTypes := #[22] })
          have e15 : σ 15 = vt := h 15 (by decide)
          refine YieldsK.callA1 del16_pl9 e15 ?_
          refine (copy_any _ vt (T) (hrt.keep (hE.trans hC)) (by omega)).mono ?_
          rintro e w2 ⟨_, rfl, hN⟩
          exact ⟨_, rfl, hN.ext, RB.ofOwn hN.own⟩
        · refine stepN rfl fun σ w1 hC h => ?_    -- t17 := (Op.call { callee := (Callee.value (Operand.func 8)), args := #[(Operand.tmp 14), (Operand.tmp 16)], argTypes 
          have e14 : (fun x w' => RB w' x (B)) (σ 14) w1 := h 14 (by decide)
          have e16 : (fun x w' => RB w' x (T)) (σ 16) w1 := h 16 (by decide)
          refine YieldsK.callA2 del16_pl8 rfl rfl ?_
          refine (make_any _ (σ 14) (σ 16) (B) (T) e14 e16 (by omega) (by omega)).mono ?_
          rintro e w2 ⟨_, rfl, hx, ho⟩
          exact ⟨_, rfl, hx, RB.ofOwn ho⟩
        · refine stepN rfl fun σ w1 hC h => ?_    -- t18 := (Op.convert 22 9 (Operand.tmp 17))
          have e17 : (fun x w' => RB w' x (makeP (B) (T))) (σ 17) w1 := h 17 (by decide)
          exact YieldsK.convRB del16_ty22 del16_ty5 del16_ty9 e17 ⟨Ext.refl _, rfl⟩
        · refine stepN rfl fun σ w1 hC h => ?_    -- t19 := (Op.move (Operand.tmp 0))
          have e0 : σ 0 = vb := (show _ = _ from h 0 (by decide)).trans T0
          exact YieldsK.move e0 ⟨Ext.refl _, rfl⟩
        · refine stepN rfl fun σ w1 hC h => ?_    -- t20 := (Op.move (Operand.tmp 1))
          have e1 : σ 1 = vt := (show _ = _ from h 1 (by decide)).trans T1
          exact YieldsK.move e1 ⟨Ext.refl _, rfl⟩
        · refine stepN rfl fun σ w1 hC h => ?_    -- t21 := (Op.call { callee := (Callee.value (Operand.func 10)), args := #[(Operand.tmp 19), (Operand.tmp 20)], argTypes
          have e19 : σ 19 = vb := h 19 (by decide)
          have e20 : σ 20 = vt := h 20 (by decide)
          refine YieldsK.callA2 del16_pl10 e19 e20 ?_
          refine (refMake_any _ vb vt (B) (T) (hrb.keep (hE.trans hC)) (hrt.keep (hE.trans hC)) (by omega) (by omega)).mono ?_
          rintro e w2 ⟨_, rfl, hr, hx⟩
          exact ⟨_, rfl, hx, hr⟩
        · refine stepN rfl fun σ w1 hC h => ?_    -- t22 := (Op.convert 22 9 (Operand.tmp 21))
          have e21 : (fun x w' => RB w' x (makeP (B) (T))) (σ 21) w1 := h 21 (by decide)
          exact YieldsK.convRB del16_ty22 del16_ty5 del16_ty9 e21 ⟨Ext.refl _, rfl⟩
        · refine stepN rfl fun σ w1 hC h => ?_    -- t23 := (Op.binOp BinOp.eql 9 (Operand.tmp 18) (Operand.tmp 22) 9)
          have e18 : σ 18 = .string ⟨(makeP (B) (T)).toArray⟩ := h 18 (by decide)
          have e22 : σ 22 = .string ⟨(makeP (B) (T)).toArray⟩ := h 22 (by decide)
          exact YieldsK.eqSt (l := makeP (B) (T)) (m := makeP (B) (T)) (.inl rfl) e18 e22 (decide ((makeP (B) (T) : List UInt8) = (makeP (B) (T) : List UInt8))) rfl ⟨Ext.refl _, (congrArg Value.bool (decide_eq_true (rfl)))⟩
        · refine stepN rfl fun σ w1 hC h => ?_    -- t24 := (Op.move (Operand.tmp 23))
          have e23 : σ 23 = .bool (true) := h 23 (by decide)
          exact YieldsK.move e23 ⟨Ext.refl _, rfl⟩
        · refine stepY 11 true 24 rfl rfl (fun _ _ h => h) fun σ w1 hC h => ?_    -- t25 := (Op.call { callee := (Callee.value (Operand.func 11)), args := #[], argTypes := #[] })
          refine YieldsK.callA0 del16_pl11  ?_
          refine (awake10 _).mono ?_
          rintro e w2 ⟨rfl, hx⟩
          exact ⟨_, rfl, hx, rfl⟩
        · refine stepN rfl fun σ w1 hC h => ?_    -- t26 := (Op.pick (Operand.tmp 24) (Operand.tmp 25) (Operand.const (Value.bool false)))
          have e24 : σ 24 = .bool (true) := h 24 (by decide)
          have e25 : σ 25 = .bool (true) := h 25 (by decide)
          exact YieldsK.pickT e24 e25 ⟨Ext.refl _, rfl⟩
        · refine stepN rfl fun σ w1 hC h => ?_    -- t4 := (Op.assign (Operand.tmp 26))
          have e26 : σ 26 = .bool (true) := h 26 (by decide)
          exact YieldsK.assign e26 ⟨Ext.refl _, rfl⟩
      intro ρ17 w18 hx19 he hf
      obtain ⟨-, -, -, -, -, -, -, -, -, -, -, -, -, -, k4, -⟩ := hf
      have T0 : ρ17 0 = vb := he.at_ T0 rfl
      have T1 : ρ17 1 = vt := he.at_ T1 rfl
      have T12 : ρ17 12 = .bool (false) := he.at_ T12 rfl
      clear he
      have hE : Ext w w18 := (hE.trans hx19)
      have T4 : ρ17 4 = .bool (true) := k4
      clear k4
      refine thenF_normal (hK16 _ _ ?_)
      refine wpF_ret ?_
      refine postF_ret (fn := Try.f3) _ rfl [.bool (true)] (.bool (true)) rfl ⟨T4, trivial⟩ ?_
      exact ⟨rfl, hE⟩
end Go.Proofs.Ytfjmbcjcgdfkfaa
