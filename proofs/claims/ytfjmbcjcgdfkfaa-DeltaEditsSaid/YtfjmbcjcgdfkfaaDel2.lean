/- delta.common. -/
import Derived.Test.YtfjmbcjcgdfkfaaDel1
import Derived.Test.YtfjmbcjcgdfkfaaOps2
namespace Go.Proofs.Ytfjmbcjcgdfkfaa
open Go.RowKit
theorem del2_ty22 : Try.prog.underlying 22 = some (.slice 5) := by kernel_rfl
theorem del2_sz5 : ∀ w' : World, (sizeOf 5).run Try.prog w' = .ok 1 w' := fun _ => by kernel_rfl
theorem del2_ty5 : Try.prog.underlying 5 = some (.int .u8) := by kernel_rfl
theorem common_any (w : World) (va vb : Value) (a b : List UInt8) (hra : RB w va a) (hrb : RB w vb b) (hal : a.length ≤ 4611686018427387904) :
    Calls Try.prog 19 #[va, vb] w fun e w' => e = .returned (NI (lcp a b)) ∧ Ext w w' := by
  refine calls_of_wpF (args := [va, vb]) Try.func19 rfl 30 rfl (Nat.le_of_ble_eq_true rfl) ?_
  intro ρ0 hb
  have T0 : ρ0 0 = (va : Value) := hb.get 0
  have T1 : ρ0 1 = (vb : Value) := hb.get 1
  clear hb
  have hE := Ext.refl w
  refine wpF_seq_k fun K1 hK1 => ?_
  refine wpF_text ?_
  refine opsF_step rfl (YieldsK.assign (show _ = (.int .i64 ((0 : Nat) : Int) : Value) from rfl) ?_)    -- delta.go:26 t4 := (Op.assign (Operand.const (Value.int IntKind.i64 0)))
  refine opsF_end (fun ρ => ρ 0 = (va : Value) ∧ ρ 1 = (vb : Value) ∧ ρ 4 = (.int .i64 ((0 : Nat) : Int) : Value) ∧ True) ⟨T0, T1, rfl, trivial⟩ fun ρ2 ⟨T0, T1, T4, _⟩ => ?_
  refine thenF_normal (hK1 _ _ ?_)
  refine wpF_seq_k fun K3 hK3 => ?_
  refine wpF_text ?_
  refine opsF_step rfl (YieldsK.assign (show _ = (.int .i64 ((0 : Nat) : Int) : Value) from rfl) ?_)    -- delta.go:27 t5 := (Op.assign (Operand.const (Value.int IntKind.i64 0)))
  refine opsF_end (fun ρ => ρ 0 = (va : Value) ∧ ρ 1 = (vb : Value) ∧ ρ 4 = (.int .i64 ((0 : Nat) : Int) : Value) ∧ ρ 5 = (.int .i64 ((0 : Nat) : Int) : Value) ∧ True) ⟨T0, T1, T4, rfl, trivial⟩ fun ρ4 ⟨T0, T1, T4, T5, _⟩ => ?_
  refine thenF_normal (hK3 _ _ ?_)
  refine wpF_seq_k fun K5 hK5 => ?_
  refine wpF_block ?_
  refine wpF_loop (fun (ρ : Slots) (wz : World) => ∃ i : Nat, ρ 0 = (va : Value) ∧ ρ 1 = (vb : Value) ∧ ρ 4 = (.int .i64 ((0 : Nat) : Int) : Value) ∧ ρ 5 = (.int .i64 ((i : Nat) : Int) : Value) ∧ Ext w wz ∧ (i ≤ a.length) ∧ (i ≤ b.length) ∧ (lcp a b = i + lcp (a.drop i) (b.drop i)) ∧ True) (fun ρ _ => a.length - (intOf (ρ 5)).toNat) ⟨0, T0, T1, T4, T5, hE, Nat.zero_le _, Nat.zero_le _, by simp, trivial⟩ ?_
  clear hE
  rintro ρ6 w7 ⟨i, T0, T1, T4, T5, hE, hia, hib, hlc, -⟩
  have q5 := T5
  by_cases h1 : i < a.length
  · by_cases h2 : i < b.length
    · by_cases h3 : a.getD i 0 = b.getD i 0
      · refine wpF_seq_k fun K8 hK8 => ?_
        refine wpF_seq_k fun K9 hK9 => ?_
        refine wpF_draw [Is (.int .i64 ((i : Nat) : Int)), Is (va), Is (.int .i64 ((a.length : Nat) : Int)), Is (.bool (true)), Is (.bool (true)), Is (.int .i64 ((i : Nat) : Int)), Is (vb), Is (.int .i64 ((b.length : Nat) : Int)), Is (.bool (true)), Is (.bool (true)), Is (.bool (true)), Is (va), Is (.int .i64 ((i : Nat) : Int)), PCell (B8 (a.getD (i) 0)), Is (B8 (a.getD (i) 0)), Is (vb), Is (.int .i64 ((i : Nat) : Int)), PCell (B8 (b.getD (i) 0)), Is (B8 (b.getD (i) 0)), Is (.bool (true)), Is (.bool (true))] (by kernel_rfl) [6, 7, 8, 9, 10, 11, 12, 13, 14, 15, 16, 17, 18, 19, 20, 21, 22, 23, 24, 25, 26] (by kernel_rfl) (by kernel_rfl) ⟨Stab.is _, Stab.is _, Stab.is _, Stab.is _, Stab.is _, Stab.is _, Stab.is _, Stab.is _, Stab.is _, Stab.is _, Stab.is _, Stab.is _, Stab.is _, Stab.pcell _, Stab.is _, Stab.is _, Stab.is _, Stab.pcell _, Stab.is _, Stab.is _, Stab.is _, trivial⟩ ?hs1002 ?hQ1002
        case hs1002 =>
          refine ⟨?_, ?_, ?_, ?_, ?_, ?_, ?_, ?_, ?_, ?_, ?_, ?_, ?_, ?_, ?_, ?_, ?_, ?_, ?_, ?_, ?_, trivial⟩
          · refine stepN rfl fun σ w1 hC h => ?_    -- t6 := (Op.move (Operand.tmp 5))
            have e5 : σ 5 = .int .i64 ((i : Nat) : Int) := (show _ = _ from h 5 (by decide)).trans T5
            exact YieldsK.move e5 ⟨Ext.refl _, rfl⟩
          · refine stepN rfl fun σ w1 hC h => ?_    -- t7 := (Op.move (Operand.tmp 0))
            have e0 : σ 0 = va := (show _ = _ from h 0 (by decide)).trans T0
            exact YieldsK.move e0 ⟨Ext.refl _, rfl⟩
          · refine stepN rfl fun σ w1 hC h => ?_    -- t8 := (Op.call { callee := (Callee.builtin Builtin.len), args := #[(Operand.tmp 7)], argTypes := #[22] })
            have e7 : σ 7 = va := h 7 (by decide)
            exact YieldsK.lenRB del2_ty22 (RB.of (hra.keep (hE.trans hC)) e7) ⟨Ext.refl _, rfl⟩
          · refine stepN rfl fun σ w1 hC h => ?_    -- t9 := (Op.binOp BinOp.lss 3 (Operand.tmp 6) (Operand.tmp 8) 3)
            have e6 : σ 6 = .int .i64 ((i : Nat) : Int) := h 6 (by decide)
            have e8 : σ 8 = .int .i64 ((a.length : Nat) : Int) := h 8 (by decide)
            exact YieldsK.eqI (a := ((i : Nat) : Int)) (b := ((a.length : Nat) : Int)) e6 e8 (k_lss _ .i64 (i) (a.length)) ⟨Ext.refl _, (congrArg Value.bool (decide_eq_true (h1)))⟩
          · refine stepN rfl fun σ w1 hC h => ?_    -- t10 := (Op.move (Operand.tmp 9))
            have e9 : σ 9 = .bool (true) := h 9 (by decide)
            exact YieldsK.move e9 ⟨Ext.refl _, rfl⟩
          · refine stepY 4 true 10 rfl rfl (fun _ _ h => h) fun σ w1 hC h => ?_    -- t11 := (Op.move (Operand.tmp 5))
            have e5 : σ 5 = .int .i64 ((i : Nat) : Int) := (show _ = _ from h 5 (by decide)).trans T5
            exact YieldsK.move e5 ⟨Ext.refl _, rfl⟩
          · refine stepY 4 true 10 rfl rfl (fun _ _ h => h) fun σ w1 hC h => ?_    -- t12 := (Op.move (Operand.tmp 1))
            have e1 : σ 1 = vb := (show _ = _ from h 1 (by decide)).trans T1
            exact YieldsK.move e1 ⟨Ext.refl _, rfl⟩
          · refine stepY 4 true 10 rfl rfl (fun _ _ h => h) fun σ w1 hC h => ?_    -- t13 := (Op.call { callee := (Callee.builtin Builtin.len), args := #[(Operand.tmp 12)], argTypes := #[22] })
            have e12 : σ 12 = vb := h 12 (by decide)
            exact YieldsK.lenRB del2_ty22 (RB.of (hrb.keep (hE.trans hC)) e12) ⟨Ext.refl _, rfl⟩
          · refine stepY 4 true 10 rfl rfl (fun _ _ h => h) fun σ w1 hC h => ?_    -- t14 := (Op.binOp BinOp.lss 3 (Operand.tmp 11) (Operand.tmp 13) 3)
            have e11 : σ 11 = .int .i64 ((i : Nat) : Int) := h 11 (by decide)
            have e13 : σ 13 = .int .i64 ((b.length : Nat) : Int) := h 13 (by decide)
            exact YieldsK.eqI (a := ((i : Nat) : Int)) (b := ((b.length : Nat) : Int)) e11 e13 (k_lss _ .i64 (i) (b.length)) ⟨Ext.refl _, (congrArg Value.bool (decide_eq_true (h2)))⟩
          · refine stepN rfl fun σ w1 hC h => ?_    -- t15 := (Op.pick (Operand.tmp 10) (Operand.tmp 14) (Operand.const (Value.bool false)))
            have e10 : σ 10 = .bool (true) := h 10 (by decide)
            have e14 : σ 14 = .bool (true) := h 14 (by decide)
            exact YieldsK.pickT e10 e14 ⟨Ext.refl _, rfl⟩
          · refine stepN rfl fun σ w1 hC h => ?_    -- t16 := (Op.move (Operand.tmp 15))
            have e15 : σ 15 = .bool (true) := h 15 (by decide)
            exact YieldsK.move e15 ⟨Ext.refl _, rfl⟩
          · refine stepY 10 true 16 rfl rfl (fun _ _ h => h) fun σ w1 hC h => ?_    -- t17 := (Op.move (Operand.tmp 0))
            have e0 : σ 0 = va := (show _ = _ from h 0 (by decide)).trans T0
            exact YieldsK.move e0 ⟨Ext.refl _, rfl⟩
          · refine stepY 10 true 16 rfl rfl (fun _ _ h => h) fun σ w1 hC h => ?_    -- t18 := (Op.move (Operand.tmp 5))
            have e5 : σ 5 = .int .i64 ((i : Nat) : Int) := (show _ = _ from h 5 (by decide)).trans T5
            exact YieldsK.move e5 ⟨Ext.refl _, rfl⟩
          · refine stepY 10 true 16 rfl rfl (fun _ _ h => h) fun σ w1 hC h => ?_    -- t19 := (Op.indexAddr 22 (Operand.tmp 17) (Operand.tmp 18))
            have e17 : σ 17 = va := h 17 (by decide)
            have e18 : σ 18 = .int .i64 ((i : Nat) : Int) := h 18 (by decide)
            exact YieldsK.atRB (l := a) (i := i) del2_ty22 del2_sz5 (RB.of (hra.keep (hE.trans hC)) e17) e18 (h1) fun _ h => ⟨Ext.refl _, h⟩
          · refine stepY 10 true 16 rfl rfl (fun _ _ h => h) fun σ w1 hC h => ?_    -- t20 := (Op.load 5 (Operand.tmp 19))
            have e19 : (PCell (B8 (a.getD (i) 0))) (σ 19) w1 := h 19 (by decide)
            exact YieldsK.loadC del2_ty5 rfl e19 ⟨Ext.refl _, rfl⟩
          · refine stepY 10 true 16 rfl rfl (fun _ _ h => h) fun σ w1 hC h => ?_    -- t21 := (Op.move (Operand.tmp 1))
            have e1 : σ 1 = vb := (show _ = _ from h 1 (by decide)).trans T1
            exact YieldsK.move e1 ⟨Ext.refl _, rfl⟩
          · refine stepY 10 true 16 rfl rfl (fun _ _ h => h) fun σ w1 hC h => ?_    -- t22 := (Op.move (Operand.tmp 5))
            have e5 : σ 5 = .int .i64 ((i : Nat) : Int) := (show _ = _ from h 5 (by decide)).trans T5
            exact YieldsK.move e5 ⟨Ext.refl _, rfl⟩
          · refine stepY 10 true 16 rfl rfl (fun _ _ h => h) fun σ w1 hC h => ?_    -- t23 := (Op.indexAddr 22 (Operand.tmp 21) (Operand.tmp 22))
            have e21 : σ 21 = vb := h 21 (by decide)
            have e22 : σ 22 = .int .i64 ((i : Nat) : Int) := h 22 (by decide)
            exact YieldsK.atRB (l := b) (i := i) del2_ty22 del2_sz5 (RB.of (hrb.keep (hE.trans hC)) e21) e22 (h2) fun _ h => ⟨Ext.refl _, h⟩
          · refine stepY 10 true 16 rfl rfl (fun _ _ h => h) fun σ w1 hC h => ?_    -- t24 := (Op.load 5 (Operand.tmp 23))
            have e23 : (PCell (B8 (b.getD (i) 0))) (σ 23) w1 := h 23 (by decide)
            exact YieldsK.loadC del2_ty5 rfl e23 ⟨Ext.refl _, rfl⟩
          · refine stepY 10 true 16 rfl rfl (fun _ _ h => h) fun σ w1 hC h => ?_    -- t25 := (Op.binOp BinOp.eql 5 (Operand.tmp 20) (Operand.tmp 24) 5)
            have e20 : σ 20 = B8 (a.getD (i) 0) := h 20 (by decide)
            have e24 : σ 24 = B8 (b.getD (i) 0) := h 24 (by decide)
            exact YieldsK.eqI (a := (((a.getD (i) 0).toNat : Nat) : Int)) (b := (((b.getD (i) 0).toNat : Nat) : Int)) e20 e24 (k_eql _ .u8 ((a.getD (i) 0).toNat) ((b.getD (i) 0).toNat)) ⟨Ext.refl _, (congrArg Value.bool (decide_eq_true (congrArg UInt8.toNat h3)))⟩
          · refine stepN rfl fun σ w1 hC h => ?_    -- t26 := (Op.pick (Operand.tmp 16) (Operand.tmp 25) (Operand.const (Value.bool false)))
            have e16 : σ 16 = .bool (true) := h 16 (by decide)
            have e25 : σ 25 = .bool (true) := h 25 (by decide)
            exact YieldsK.pickT e16 e25 ⟨Ext.refl _, rfl⟩
        intro ρ10 w11 hx12 he hf
        obtain ⟨-, -, -, -, -, -, -, -, -, -, -, -, -, -, -, -, -, -, -, -, k26, -⟩ := hf
        have T0 : ρ10 0 = va := he.at_ T0 rfl
        have T1 : ρ10 1 = vb := he.at_ T1 rfl
        have T4 : ρ10 4 = .int .i64 ((0 : Nat) : Int) := he.at_ T4 rfl
        have T5 : ρ10 5 = .int .i64 ((i : Nat) : Int) := he.at_ T5 rfl
        clear he
        have hE : Ext w w11 := (hE.trans hx12)
        have T26 : ρ10 26 = .bool (true) := k26
        clear k26
        refine thenF_normal (hK9 _ _ ?_)
        refine wpF_true (show _ = (.bool (true) : Value) from T26) ?_
        refine wpF_skip ?_
        refine thenF_normal (hK8 _ _ ?_)
        refine wpF_block ?_
        refine wpF_text ?_
        refine opsF_step rfl (YieldsK.move (show _ = (.int .i64 ((i : Nat) : Int) : Value) from T5) ?_)    -- delta.go:29 t27 := (Op.move (Operand.tmp 5))
        refine opsF_step rfl (YieldsK.bin (xv := .int .i64 ((i : Nat) : Int)) (yv := .int .i64 ((1 : Nat) : Int)) (show _ = (.int .i64 ((i : Nat) : Int) : Value) from rfl) (show _ = (.int .i64 ((1 : Nat) : Int) : Value) from rfl) rfl (i64_add _ (i) (1) (by omega)) ?_)    -- delta.go:29 t28 := (Op.binOp BinOp.add 3 (Operand.tmp 27) (Operand.const (Value.int IntKind.i64 1)) 3)
        refine opsF_step rfl (YieldsK.assign (show _ = (.int .i64 (((i) + (1) : Nat) : Int) : Value) from rfl) ?_)    -- delta.go:29 t5 := (Op.assign (Operand.tmp 28))
        refine opsF_end (fun ρ => ρ 0 = (va : Value) ∧ ρ 1 = (vb : Value) ∧ ρ 4 = (.int .i64 ((0 : Nat) : Int) : Value) ∧ ρ 5 = (.int .i64 (((i) + (1) : Nat) : Int) : Value) ∧ ρ 26 = (.bool (true) : Value) ∧ True) ⟨T0, T1, T4, rfl, T26, trivial⟩ fun ρ13 ⟨T0, T1, T4, T5, T26, _⟩ => ?_
        refine inBlockF_normal ?_
        refine thenF_normal (And.intro ⟨i + 1, T0, T1, T4, T5, hE, by omega, by omega, by rw [hlc, lcp_step h1 h2 h3]; omega, trivial⟩ ?_)
        show a.length - (intOf (ρ13 5)).toNat < a.length - (intOf (ρ6 5)).toNat
        rw [T5, q5]
        simp only [intOf, Int.toNat_natCast]; omega
      · have hz0 := lcp_ne h1 h2 h3
        refine wpF_seq_k fun K14 hK14 => ?_
        refine wpF_seq_k fun K15 hK15 => ?_
        refine wpF_draw [Is (.int .i64 ((i : Nat) : Int)), Is (va), Is (.int .i64 ((a.length : Nat) : Int)), Is (.bool (true)), Is (.bool (true)), Is (.int .i64 ((i : Nat) : Int)), Is (vb), Is (.int .i64 ((b.length : Nat) : Int)), Is (.bool (true)), Is (.bool (true)), Is (.bool (true)), Is (va), Is (.int .i64 ((i : Nat) : Int)), PCell (B8 (a.getD (i) 0)), Is (B8 (a.getD (i) 0)), Is (vb), Is (.int .i64 ((i : Nat) : Int)), PCell (B8 (b.getD (i) 0)), Is (B8 (b.getD (i) 0)), Is (.bool (false)), Is (.bool (false))] (by kernel_rfl) [6, 7, 8, 9, 10, 11, 12, 13, 14, 15, 16, 17, 18, 19, 20, 21, 22, 23, 24, 25, 26] (by kernel_rfl) (by kernel_rfl) ⟨Stab.is _, Stab.is _, Stab.is _, Stab.is _, Stab.is _, Stab.is _, Stab.is _, Stab.is _, Stab.is _, Stab.is _, Stab.is _, Stab.is _, Stab.is _, Stab.pcell _, Stab.is _, Stab.is _, Stab.is _, Stab.pcell _, Stab.is _, Stab.is _, Stab.is _, trivial⟩ ?hs2002 ?hQ2002
        case hs2002 =>
          refine ⟨?_, ?_, ?_, ?_, ?_, ?_, ?_, ?_, ?_, ?_, ?_, ?_, ?_, ?_, ?_, ?_, ?_, ?_, ?_, ?_, ?_, trivial⟩
          · refine stepN rfl fun σ w1 hC h => ?_    -- t6 := (Op.move (Operand.tmp 5))
            have e5 : σ 5 = .int .i64 ((i : Nat) : Int) := (show _ = _ from h 5 (by decide)).trans T5
            exact YieldsK.move e5 ⟨Ext.refl _, rfl⟩
          · refine stepN rfl fun σ w1 hC h => ?_    -- t7 := (Op.move (Operand.tmp 0))
            have e0 : σ 0 = va := (show _ = _ from h 0 (by decide)).trans T0
            exact YieldsK.move e0 ⟨Ext.refl _, rfl⟩
          · refine stepN rfl fun σ w1 hC h => ?_    -- t8 := (Op.call { callee := (Callee.builtin Builtin.len), args := #[(Operand.tmp 7)], argTypes := #[22] })
            have e7 : σ 7 = va := h 7 (by decide)
            exact YieldsK.lenRB del2_ty22 (RB.of (hra.keep (hE.trans hC)) e7) ⟨Ext.refl _, rfl⟩
          · refine stepN rfl fun σ w1 hC h => ?_    -- t9 := (Op.binOp BinOp.lss 3 (Operand.tmp 6) (Operand.tmp 8) 3)
            have e6 : σ 6 = .int .i64 ((i : Nat) : Int) := h 6 (by decide)
            have e8 : σ 8 = .int .i64 ((a.length : Nat) : Int) := h 8 (by decide)
            exact YieldsK.eqI (a := ((i : Nat) : Int)) (b := ((a.length : Nat) : Int)) e6 e8 (k_lss _ .i64 (i) (a.length)) ⟨Ext.refl _, (congrArg Value.bool (decide_eq_true (h1)))⟩
          · refine stepN rfl fun σ w1 hC h => ?_    -- t10 := (Op.move (Operand.tmp 9))
            have e9 : σ 9 = .bool (true) := h 9 (by decide)
            exact YieldsK.move e9 ⟨Ext.refl _, rfl⟩
          · refine stepY 4 true 10 rfl rfl (fun _ _ h => h) fun σ w1 hC h => ?_    -- t11 := (Op.move (Operand.tmp 5))
            have e5 : σ 5 = .int .i64 ((i : Nat) : Int) := (show _ = _ from h 5 (by decide)).trans T5
            exact YieldsK.move e5 ⟨Ext.refl _, rfl⟩
          · refine stepY 4 true 10 rfl rfl (fun _ _ h => h) fun σ w1 hC h => ?_    -- t12 := (Op.move (Operand.tmp 1))
            have e1 : σ 1 = vb := (show _ = _ from h 1 (by decide)).trans T1
            exact YieldsK.move e1 ⟨Ext.refl _, rfl⟩
          · refine stepY 4 true 10 rfl rfl (fun _ _ h => h) fun σ w1 hC h => ?_    -- t13 := (Op.call { callee := (Callee.builtin Builtin.len), args := #[(Operand.tmp 12)], argTypes := #[22] })
            have e12 : σ 12 = vb := h 12 (by decide)
            exact YieldsK.lenRB del2_ty22 (RB.of (hrb.keep (hE.trans hC)) e12) ⟨Ext.refl _, rfl⟩
          · refine stepY 4 true 10 rfl rfl (fun _ _ h => h) fun σ w1 hC h => ?_    -- t14 := (Op.binOp BinOp.lss 3 (Operand.tmp 11) (Operand.tmp 13) 3)
            have e11 : σ 11 = .int .i64 ((i : Nat) : Int) := h 11 (by decide)
            have e13 : σ 13 = .int .i64 ((b.length : Nat) : Int) := h 13 (by decide)
            exact YieldsK.eqI (a := ((i : Nat) : Int)) (b := ((b.length : Nat) : Int)) e11 e13 (k_lss _ .i64 (i) (b.length)) ⟨Ext.refl _, (congrArg Value.bool (decide_eq_true (h2)))⟩
          · refine stepN rfl fun σ w1 hC h => ?_    -- t15 := (Op.pick (Operand.tmp 10) (Operand.tmp 14) (Operand.const (Value.bool false)))
            have e10 : σ 10 = .bool (true) := h 10 (by decide)
            have e14 : σ 14 = .bool (true) := h 14 (by decide)
            exact YieldsK.pickT e10 e14 ⟨Ext.refl _, rfl⟩
          · refine stepN rfl fun σ w1 hC h => ?_    -- t16 := (Op.move (Operand.tmp 15))
            have e15 : σ 15 = .bool (true) := h 15 (by decide)
            exact YieldsK.move e15 ⟨Ext.refl _, rfl⟩
          · refine stepY 10 true 16 rfl rfl (fun _ _ h => h) fun σ w1 hC h => ?_    -- t17 := (Op.move (Operand.tmp 0))
            have e0 : σ 0 = va := (show _ = _ from h 0 (by decide)).trans T0
            exact YieldsK.move e0 ⟨Ext.refl _, rfl⟩
          · refine stepY 10 true 16 rfl rfl (fun _ _ h => h) fun σ w1 hC h => ?_    -- t18 := (Op.move (Operand.tmp 5))
            have e5 : σ 5 = .int .i64 ((i : Nat) : Int) := (show _ = _ from h 5 (by decide)).trans T5
            exact YieldsK.move e5 ⟨Ext.refl _, rfl⟩
          · refine stepY 10 true 16 rfl rfl (fun _ _ h => h) fun σ w1 hC h => ?_    -- t19 := (Op.indexAddr 22 (Operand.tmp 17) (Operand.tmp 18))
            have e17 : σ 17 = va := h 17 (by decide)
            have e18 : σ 18 = .int .i64 ((i : Nat) : Int) := h 18 (by decide)
            exact YieldsK.atRB (l := a) (i := i) del2_ty22 del2_sz5 (RB.of (hra.keep (hE.trans hC)) e17) e18 (h1) fun _ h => ⟨Ext.refl _, h⟩
          · refine stepY 10 true 16 rfl rfl (fun _ _ h => h) fun σ w1 hC h => ?_    -- t20 := (Op.load 5 (Operand.tmp 19))
            have e19 : (PCell (B8 (a.getD (i) 0))) (σ 19) w1 := h 19 (by decide)
            exact YieldsK.loadC del2_ty5 rfl e19 ⟨Ext.refl _, rfl⟩
          · refine stepY 10 true 16 rfl rfl (fun _ _ h => h) fun σ w1 hC h => ?_    -- t21 := (Op.move (Operand.tmp 1))
            have e1 : σ 1 = vb := (show _ = _ from h 1 (by decide)).trans T1
            exact YieldsK.move e1 ⟨Ext.refl _, rfl⟩
          · refine stepY 10 true 16 rfl rfl (fun _ _ h => h) fun σ w1 hC h => ?_    -- t22 := (Op.move (Operand.tmp 5))
            have e5 : σ 5 = .int .i64 ((i : Nat) : Int) := (show _ = _ from h 5 (by decide)).trans T5
            exact YieldsK.move e5 ⟨Ext.refl _, rfl⟩
          · refine stepY 10 true 16 rfl rfl (fun _ _ h => h) fun σ w1 hC h => ?_    -- t23 := (Op.indexAddr 22 (Operand.tmp 21) (Operand.tmp 22))
            have e21 : σ 21 = vb := h 21 (by decide)
            have e22 : σ 22 = .int .i64 ((i : Nat) : Int) := h 22 (by decide)
            exact YieldsK.atRB (l := b) (i := i) del2_ty22 del2_sz5 (RB.of (hrb.keep (hE.trans hC)) e21) e22 (h2) fun _ h => ⟨Ext.refl _, h⟩
          · refine stepY 10 true 16 rfl rfl (fun _ _ h => h) fun σ w1 hC h => ?_    -- t24 := (Op.load 5 (Operand.tmp 23))
            have e23 : (PCell (B8 (b.getD (i) 0))) (σ 23) w1 := h 23 (by decide)
            exact YieldsK.loadC del2_ty5 rfl e23 ⟨Ext.refl _, rfl⟩
          · refine stepY 10 true 16 rfl rfl (fun _ _ h => h) fun σ w1 hC h => ?_    -- t25 := (Op.binOp BinOp.eql 5 (Operand.tmp 20) (Operand.tmp 24) 5)
            have e20 : σ 20 = B8 (a.getD (i) 0) := h 20 (by decide)
            have e24 : σ 24 = B8 (b.getD (i) 0) := h 24 (by decide)
            exact YieldsK.eqI (a := (((a.getD (i) 0).toNat : Nat) : Int)) (b := (((b.getD (i) 0).toNat : Nat) : Int)) e20 e24 (k_eql _ .u8 ((a.getD (i) 0).toNat) ((b.getD (i) 0).toNat)) ⟨Ext.refl _, (congrArg Value.bool (decide_eq_false (fun h => h3 (UInt8.toNat_inj.1 h))))⟩
          · refine stepN rfl fun σ w1 hC h => ?_    -- t26 := (Op.pick (Operand.tmp 16) (Operand.tmp 25) (Operand.const (Value.bool false)))
            have e16 : σ 16 = .bool (true) := h 16 (by decide)
            have e25 : σ 25 = .bool (false) := h 25 (by decide)
            exact YieldsK.pickT e16 e25 ⟨Ext.refl _, rfl⟩
        intro ρ16 w17 hx18 he hf
        obtain ⟨-, -, -, -, -, -, -, -, -, -, -, -, -, -, -, -, -, -, -, -, k26, -⟩ := hf
        have T0 : ρ16 0 = va := he.at_ T0 rfl
        have T1 : ρ16 1 = vb := he.at_ T1 rfl
        have T4 : ρ16 4 = .int .i64 ((0 : Nat) : Int) := he.at_ T4 rfl
        have T5 : ρ16 5 = .int .i64 ((i : Nat) : Int) := he.at_ T5 rfl
        clear he
        have hE : Ext w w17 := (hE.trans hx18)
        have T26 : ρ16 26 = .bool (false) := k26
        clear k26
        refine thenF_normal (hK15 _ _ ?_)
        refine wpF_false (show _ = (.bool (false) : Value) from T26) ?_
        refine wpF_exit (thenF_exit (thenF_exit (inBlockF_hit ?_)))
        refine thenF_normal (hK5 _ _ ?_)
        refine wpF_seq_k fun K19 hK19 => ?_
        refine wpF_text ?_
        refine opsF_step rfl (YieldsK.move (show _ = (.int .i64 ((i : Nat) : Int) : Value) from T5) ?_)    -- delta.go:31 t29 := (Op.move (Operand.tmp 5))
        refine opsF_step rfl (YieldsK.assign (show _ = (.int .i64 ((i : Nat) : Int) : Value) from rfl) ?_)    -- delta.go:31 t4 := (Op.assign (Operand.tmp 29))
        refine opsF_end (fun ρ => ρ 0 = (va : Value) ∧ ρ 1 = (vb : Value) ∧ ρ 4 = (.int .i64 ((i : Nat) : Int) : Value) ∧ ρ 5 = (.int .i64 ((i : Nat) : Int) : Value) ∧ ρ 26 = (.bool (false) : Value) ∧ True) ⟨T0, T1, rfl, T5, T26, trivial⟩ fun ρ20 ⟨T0, T1, T4, T5, T26, _⟩ => ?_
        refine thenF_normal (hK19 _ _ ?_)
        refine wpF_ret ?_
        refine postF_ret (fn := Try.f19) _ rfl [.int .i64 ((i : Nat) : Int)] (.int .i64 ((i : Nat) : Int)) rfl ⟨T4, trivial⟩ ?_
        rw [hlc, hz0]
        exact ⟨rfl, hE⟩
    · have hz0 := lcp_endB (a := a) (i := i) (b := b) (by omega)
      refine wpF_seq_k fun K21 hK21 => ?_
      refine wpF_seq_k fun K22 hK22 => ?_
      refine wpF_draw [Is (.int .i64 ((i : Nat) : Int)), Is (va), Is (.int .i64 ((a.length : Nat) : Int)), Is (.bool (true)), Is (.bool (true)), Is (.int .i64 ((i : Nat) : Int)), Is (vb), Is (.int .i64 ((b.length : Nat) : Int)), Is (.bool (false)), Is (.bool (false)), Is (.bool (false)), Is undef, Is undef, Is undef, Is undef, Is undef, Is undef, Is undef, Is undef, Is undef, Is (.bool (false))] (by kernel_rfl) [6, 7, 8, 9, 10, 11, 12, 13, 14, 15, 16, 17, 18, 19, 20, 21, 22, 23, 24, 25, 26] (by kernel_rfl) (by kernel_rfl) ⟨Stab.is _, Stab.is _, Stab.is _, Stab.is _, Stab.is _, Stab.is _, Stab.is _, Stab.is _, Stab.is _, Stab.is _, Stab.is _, Stab.is _, Stab.is _, Stab.is _, Stab.is _, Stab.is _, Stab.is _, Stab.is _, Stab.is _, Stab.is _, Stab.is _, trivial⟩ ?hs3002 ?hQ3002
      case hs3002 =>
        refine ⟨?_, ?_, ?_, ?_, ?_, ?_, ?_, ?_, ?_, ?_, ?_, ?_, ?_, ?_, ?_, ?_, ?_, ?_, ?_, ?_, ?_, trivial⟩
        · refine stepN rfl fun σ w1 hC h => ?_    -- t6 := (Op.move (Operand.tmp 5))
          have e5 : σ 5 = .int .i64 ((i : Nat) : Int) := (show _ = _ from h 5 (by decide)).trans T5
          exact YieldsK.move e5 ⟨Ext.refl _, rfl⟩
        · refine stepN rfl fun σ w1 hC h => ?_    -- t7 := (Op.move (Operand.tmp 0))
          have e0 : σ 0 = va := (show _ = _ from h 0 (by decide)).trans T0
          exact YieldsK.move e0 ⟨Ext.refl _, rfl⟩
        · refine stepN rfl fun σ w1 hC h => ?_    -- t8 := (Op.call { callee := (Callee.builtin Builtin.len), args := #[(Operand.tmp 7)], argTypes := #[22] })
          have e7 : σ 7 = va := h 7 (by decide)
          exact YieldsK.lenRB del2_ty22 (RB.of (hra.keep (hE.trans hC)) e7) ⟨Ext.refl _, rfl⟩
        · refine stepN rfl fun σ w1 hC h => ?_    -- t9 := (Op.binOp BinOp.lss 3 (Operand.tmp 6) (Operand.tmp 8) 3)
          have e6 : σ 6 = .int .i64 ((i : Nat) : Int) := h 6 (by decide)
          have e8 : σ 8 = .int .i64 ((a.length : Nat) : Int) := h 8 (by decide)
          exact YieldsK.eqI (a := ((i : Nat) : Int)) (b := ((a.length : Nat) : Int)) e6 e8 (k_lss _ .i64 (i) (a.length)) ⟨Ext.refl _, (congrArg Value.bool (decide_eq_true (h1)))⟩
        · refine stepN rfl fun σ w1 hC h => ?_    -- t10 := (Op.move (Operand.tmp 9))
          have e9 : σ 9 = .bool (true) := h 9 (by decide)
          exact YieldsK.move e9 ⟨Ext.refl _, rfl⟩
        · refine stepY 4 true 10 rfl rfl (fun _ _ h => h) fun σ w1 hC h => ?_    -- t11 := (Op.move (Operand.tmp 5))
          have e5 : σ 5 = .int .i64 ((i : Nat) : Int) := (show _ = _ from h 5 (by decide)).trans T5
          exact YieldsK.move e5 ⟨Ext.refl _, rfl⟩
        · refine stepY 4 true 10 rfl rfl (fun _ _ h => h) fun σ w1 hC h => ?_    -- t12 := (Op.move (Operand.tmp 1))
          have e1 : σ 1 = vb := (show _ = _ from h 1 (by decide)).trans T1
          exact YieldsK.move e1 ⟨Ext.refl _, rfl⟩
        · refine stepY 4 true 10 rfl rfl (fun _ _ h => h) fun σ w1 hC h => ?_    -- t13 := (Op.call { callee := (Callee.builtin Builtin.len), args := #[(Operand.tmp 12)], argTypes := #[22] })
          have e12 : σ 12 = vb := h 12 (by decide)
          exact YieldsK.lenRB del2_ty22 (RB.of (hrb.keep (hE.trans hC)) e12) ⟨Ext.refl _, rfl⟩
        · refine stepY 4 true 10 rfl rfl (fun _ _ h => h) fun σ w1 hC h => ?_    -- t14 := (Op.binOp BinOp.lss 3 (Operand.tmp 11) (Operand.tmp 13) 3)
          have e11 : σ 11 = .int .i64 ((i : Nat) : Int) := h 11 (by decide)
          have e13 : σ 13 = .int .i64 ((b.length : Nat) : Int) := h 13 (by decide)
          exact YieldsK.eqI (a := ((i : Nat) : Int)) (b := ((b.length : Nat) : Int)) e11 e13 (k_lss _ .i64 (i) (b.length)) ⟨Ext.refl _, (congrArg Value.bool (decide_eq_false (by omega)))⟩
        · refine stepN rfl fun σ w1 hC h => ?_    -- t15 := (Op.pick (Operand.tmp 10) (Operand.tmp 14) (Operand.const (Value.bool false)))
          have e10 : σ 10 = .bool (true) := h 10 (by decide)
          have e14 : σ 14 = .bool (false) := h 14 (by decide)
          exact YieldsK.pickT e10 e14 ⟨Ext.refl _, rfl⟩
        · refine stepN rfl fun σ w1 hC h => ?_    -- t16 := (Op.move (Operand.tmp 15))
          have e15 : σ 15 = .bool (false) := h 15 (by decide)
          exact YieldsK.move e15 ⟨Ext.refl _, rfl⟩
        · refine stepX 10 true 16 rfl rfl (fun x _ (h : x = .bool false) => by rw [h]; intro h; cases h) fun _ => rfl    -- (Go.Op.move (Go.Operand.tmp 0))
        · refine stepX 10 true 16 rfl rfl (fun x _ (h : x = .bool false) => by rw [h]; intro h; cases h) fun _ => rfl    -- (Go.Op.move (Go.Operand.tmp 5))
        · refine stepX 10 true 16 rfl rfl (fun x _ (h : x = .bool false) => by rw [h]; intro h; cases h) fun _ => rfl    -- (Go.Op.indexAddr 22 (Go.Operand.tmp 17) (Go.Operand.tmp 18))
        · refine stepX 10 true 16 rfl rfl (fun x _ (h : x = .bool false) => by rw [h]; intro h; cases h) fun _ => rfl    -- (Go.Op.load 5 (Go.Operand.tmp 19))
        · refine stepX 10 true 16 rfl rfl (fun x _ (h : x = .bool false) => by rw [h]; intro h; cases h) fun _ => rfl    -- (Go.Op.move (Go.Operand.tmp 1))
        · refine stepX 10 true 16 rfl rfl (fun x _ (h : x = .bool false) => by rw [h]; intro h; cases h) fun _ => rfl    -- (Go.Op.move (Go.Operand.tmp 5))
        · refine stepX 10 true 16 rfl rfl (fun x _ (h : x = .bool false) => by rw [h]; intro h; cases h) fun _ => rfl    -- (Go.Op.indexAddr 22 (Go.Operand.tmp 21) (Go.Operand.tmp 22))
        · refine stepX 10 true 16 rfl rfl (fun x _ (h : x = .bool false) => by rw [h]; intro h; cases h) fun _ => rfl    -- (Go.Op.load 5 (Go.Operand.tmp 23))
        · refine stepX 10 true 16 rfl rfl (fun x _ (h : x = .bool false) => by rw [h]; intro h; cases h) fun _ => rfl    -- (Go.Op.binOp Go.BinOp.eql 5 (Go.Operand.tmp 20) (Go.Operand.tmp 24) 5)
        · refine stepN rfl fun σ w1 hC h => ?_    -- t26 := (Op.pick (Operand.tmp 16) (Operand.tmp 25) (Operand.const (Value.bool false)))
          have e16 : σ 16 = .bool (false) := h 16 (by decide)
          exact YieldsK.pickF e16 (show _ = (.bool (false) : Value) from rfl) ⟨Ext.refl _, rfl⟩
      intro ρ23 w24 hx25 he hf
      obtain ⟨-, -, -, -, -, -, -, -, -, -, -, -, -, -, -, -, -, -, -, -, k26, -⟩ := hf
      have T0 : ρ23 0 = va := he.at_ T0 rfl
      have T1 : ρ23 1 = vb := he.at_ T1 rfl
      have T4 : ρ23 4 = .int .i64 ((0 : Nat) : Int) := he.at_ T4 rfl
      have T5 : ρ23 5 = .int .i64 ((i : Nat) : Int) := he.at_ T5 rfl
      clear he
      have hE : Ext w w24 := (hE.trans hx25)
      have T26 : ρ23 26 = .bool (false) := k26
      clear k26
      refine thenF_normal (hK22 _ _ ?_)
      refine wpF_false (show _ = (.bool (false) : Value) from T26) ?_
      refine wpF_exit (thenF_exit (thenF_exit (inBlockF_hit ?_)))
      refine thenF_normal (hK5 _ _ ?_)
      refine wpF_seq_k fun K26 hK26 => ?_
      refine wpF_text ?_
      refine opsF_step rfl (YieldsK.move (show _ = (.int .i64 ((i : Nat) : Int) : Value) from T5) ?_)    -- delta.go:31 t29 := (Op.move (Operand.tmp 5))
      refine opsF_step rfl (YieldsK.assign (show _ = (.int .i64 ((i : Nat) : Int) : Value) from rfl) ?_)    -- delta.go:31 t4 := (Op.assign (Operand.tmp 29))
      refine opsF_end (fun ρ => ρ 0 = (va : Value) ∧ ρ 1 = (vb : Value) ∧ ρ 4 = (.int .i64 ((i : Nat) : Int) : Value) ∧ ρ 5 = (.int .i64 ((i : Nat) : Int) : Value) ∧ ρ 26 = (.bool (false) : Value) ∧ True) ⟨T0, T1, rfl, T5, T26, trivial⟩ fun ρ27 ⟨T0, T1, T4, T5, T26, _⟩ => ?_
      refine thenF_normal (hK26 _ _ ?_)
      refine wpF_ret ?_
      refine postF_ret (fn := Try.f19) _ rfl [.int .i64 ((i : Nat) : Int)] (.int .i64 ((i : Nat) : Int)) rfl ⟨T4, trivial⟩ ?_
      rw [hlc, hz0]
      exact ⟨rfl, hE⟩
  · have hz0 := lcp_endA (a := a) (i := i) (b := b) (by omega)
    refine wpF_seq_k fun K28 hK28 => ?_
    refine wpF_seq_k fun K29 hK29 => ?_
    refine wpF_draw [Is (.int .i64 ((i : Nat) : Int)), Is (va), Is (.int .i64 ((a.length : Nat) : Int)), Is (.bool (false)), Is (.bool (false)), Is undef, Is undef, Is undef, Is undef, Is (.bool (false)), Is (.bool (false)), Is undef, Is undef, Is undef, Is undef, Is undef, Is undef, Is undef, Is undef, Is undef, Is (.bool (false))] (by kernel_rfl) [6, 7, 8, 9, 10, 11, 12, 13, 14, 15, 16, 17, 18, 19, 20, 21, 22, 23, 24, 25, 26] (by kernel_rfl) (by kernel_rfl) ⟨Stab.is _, Stab.is _, Stab.is _, Stab.is _, Stab.is _, Stab.is _, Stab.is _, Stab.is _, Stab.is _, Stab.is _, Stab.is _, Stab.is _, Stab.is _, Stab.is _, Stab.is _, Stab.is _, Stab.is _, Stab.is _, Stab.is _, Stab.is _, Stab.is _, trivial⟩ ?hs4002 ?hQ4002
    case hs4002 =>
      refine ⟨?_, ?_, ?_, ?_, ?_, ?_, ?_, ?_, ?_, ?_, ?_, ?_, ?_, ?_, ?_, ?_, ?_, ?_, ?_, ?_, ?_, trivial⟩
      · refine stepN rfl fun σ w1 hC h => ?_    -- t6 := (Op.move (Operand.tmp 5))
        have e5 : σ 5 = .int .i64 ((i : Nat) : Int) := (show _ = _ from h 5 (by decide)).trans T5
        exact YieldsK.move e5 ⟨Ext.refl _, rfl⟩
      · refine stepN rfl fun σ w1 hC h => ?_    -- t7 := (Op.move (Operand.tmp 0))
        have e0 : σ 0 = va := (show _ = _ from h 0 (by decide)).trans T0
        exact YieldsK.move e0 ⟨Ext.refl _, rfl⟩
      · refine stepN rfl fun σ w1 hC h => ?_    -- t8 := (Op.call { callee := (Callee.builtin Builtin.len), args := #[(Operand.tmp 7)], argTypes := #[22] })
        have e7 : σ 7 = va := h 7 (by decide)
        exact YieldsK.lenRB del2_ty22 (RB.of (hra.keep (hE.trans hC)) e7) ⟨Ext.refl _, rfl⟩
      · refine stepN rfl fun σ w1 hC h => ?_    -- t9 := (Op.binOp BinOp.lss 3 (Operand.tmp 6) (Operand.tmp 8) 3)
        have e6 : σ 6 = .int .i64 ((i : Nat) : Int) := h 6 (by decide)
        have e8 : σ 8 = .int .i64 ((a.length : Nat) : Int) := h 8 (by decide)
        exact YieldsK.eqI (a := ((i : Nat) : Int)) (b := ((a.length : Nat) : Int)) e6 e8 (k_lss _ .i64 (i) (a.length)) ⟨Ext.refl _, (congrArg Value.bool (decide_eq_false (by omega)))⟩
      · refine stepN rfl fun σ w1 hC h => ?_    -- t10 := (Op.move (Operand.tmp 9))
        have e9 : σ 9 = .bool (false) := h 9 (by decide)
        exact YieldsK.move e9 ⟨Ext.refl _, rfl⟩
      · refine stepX 4 true 10 rfl rfl (fun x _ (h : x = .bool false) => by rw [h]; intro h; cases h) fun _ => rfl    -- (Go.Op.move (Go.Operand.tmp 5))
      · refine stepX 4 true 10 rfl rfl (fun x _ (h : x = .bool false) => by rw [h]; intro h; cases h) fun _ => rfl    -- (Go.Op.move (Go.Operand.tmp 1))
      · refine stepX 4 true 10 rfl rfl (fun x _ (h : x = .bool false) => by rw [h]; intro h; cases h) fun _ => rfl    -- (Go.Op.call { callee := (Go.Callee.builtin Go.Builtin.len), args := #[(Go.Operand.tmp 12)]
      · refine stepX 4 true 10 rfl rfl (fun x _ (h : x = .bool false) => by rw [h]; intro h; cases h) fun _ => rfl    -- (Go.Op.binOp Go.BinOp.lss 3 (Go.Operand.tmp 11) (Go.Operand.tmp 13) 3)
      · refine stepN rfl fun σ w1 hC h => ?_    -- t15 := (Op.pick (Operand.tmp 10) (Operand.tmp 14) (Operand.const (Value.bool false)))
        have e10 : σ 10 = .bool (false) := h 10 (by decide)
        exact YieldsK.pickF e10 (show _ = (.bool (false) : Value) from rfl) ⟨Ext.refl _, rfl⟩
      · refine stepN rfl fun σ w1 hC h => ?_    -- t16 := (Op.move (Operand.tmp 15))
        have e15 : σ 15 = .bool (false) := h 15 (by decide)
        exact YieldsK.move e15 ⟨Ext.refl _, rfl⟩
      · refine stepX 10 true 16 rfl rfl (fun x _ (h : x = .bool false) => by rw [h]; intro h; cases h) fun _ => rfl    -- (Go.Op.move (Go.Operand.tmp 0))
      · refine stepX 10 true 16 rfl rfl (fun x _ (h : x = .bool false) => by rw [h]; intro h; cases h) fun _ => rfl    -- (Go.Op.move (Go.Operand.tmp 5))
      · refine stepX 10 true 16 rfl rfl (fun x _ (h : x = .bool false) => by rw [h]; intro h; cases h) fun _ => rfl    -- (Go.Op.indexAddr 22 (Go.Operand.tmp 17) (Go.Operand.tmp 18))
      · refine stepX 10 true 16 rfl rfl (fun x _ (h : x = .bool false) => by rw [h]; intro h; cases h) fun _ => rfl    -- (Go.Op.load 5 (Go.Operand.tmp 19))
      · refine stepX 10 true 16 rfl rfl (fun x _ (h : x = .bool false) => by rw [h]; intro h; cases h) fun _ => rfl    -- (Go.Op.move (Go.Operand.tmp 1))
      · refine stepX 10 true 16 rfl rfl (fun x _ (h : x = .bool false) => by rw [h]; intro h; cases h) fun _ => rfl    -- (Go.Op.move (Go.Operand.tmp 5))
      · refine stepX 10 true 16 rfl rfl (fun x _ (h : x = .bool false) => by rw [h]; intro h; cases h) fun _ => rfl    -- (Go.Op.indexAddr 22 (Go.Operand.tmp 21) (Go.Operand.tmp 22))
      · refine stepX 10 true 16 rfl rfl (fun x _ (h : x = .bool false) => by rw [h]; intro h; cases h) fun _ => rfl    -- (Go.Op.load 5 (Go.Operand.tmp 23))
      · refine stepX 10 true 16 rfl rfl (fun x _ (h : x = .bool false) => by rw [h]; intro h; cases h) fun _ => rfl    -- (Go.Op.binOp Go.BinOp.eql 5 (Go.Operand.tmp 20) (Go.Operand.tmp 24) 5)
      · refine stepN rfl fun σ w1 hC h => ?_    -- t26 := (Op.pick (Operand.tmp 16) (Operand.tmp 25) (Operand.const (Value.bool false)))
        have e16 : σ 16 = .bool (false) := h 16 (by decide)
        exact YieldsK.pickF e16 (show _ = (.bool (false) : Value) from rfl) ⟨Ext.refl _, rfl⟩
    intro ρ30 w31 hx32 he hf
    obtain ⟨-, -, -, -, -, -, -, -, -, -, -, -, -, -, -, -, -, -, -, -, k26, -⟩ := hf
    have T0 : ρ30 0 = va := he.at_ T0 rfl
    have T1 : ρ30 1 = vb := he.at_ T1 rfl
    have T4 : ρ30 4 = .int .i64 ((0 : Nat) : Int) := he.at_ T4 rfl
    have T5 : ρ30 5 = .int .i64 ((i : Nat) : Int) := he.at_ T5 rfl
    clear he
    have hE : Ext w w31 := (hE.trans hx32)
    have T26 : ρ30 26 = .bool (false) := k26
    clear k26
    refine thenF_normal (hK29 _ _ ?_)
    refine wpF_false (show _ = (.bool (false) : Value) from T26) ?_
    refine wpF_exit (thenF_exit (thenF_exit (inBlockF_hit ?_)))
    refine thenF_normal (hK5 _ _ ?_)
    refine wpF_seq_k fun K33 hK33 => ?_
    refine wpF_text ?_
    refine opsF_step rfl (YieldsK.move (show _ = (.int .i64 ((i : Nat) : Int) : Value) from T5) ?_)    -- delta.go:31 t29 := (Op.move (Operand.tmp 5))
    refine opsF_step rfl (YieldsK.assign (show _ = (.int .i64 ((i : Nat) : Int) : Value) from rfl) ?_)    -- delta.go:31 t4 := (Op.assign (Operand.tmp 29))
    refine opsF_end (fun ρ => ρ 0 = (va : Value) ∧ ρ 1 = (vb : Value) ∧ ρ 4 = (.int .i64 ((i : Nat) : Int) : Value) ∧ ρ 5 = (.int .i64 ((i : Nat) : Int) : Value) ∧ ρ 26 = (.bool (false) : Value) ∧ True) ⟨T0, T1, rfl, T5, T26, trivial⟩ fun ρ34 ⟨T0, T1, T4, T5, T26, _⟩ => ?_
    refine thenF_normal (hK33 _ _ ?_)
    refine wpF_ret ?_
    refine postF_ret (fn := Try.f19) _ rfl [.int .i64 ((i : Nat) : Int)] (.int .i64 ((i : Nat) : Int)) rfl ⟨T4, trivial⟩ ?_
    rw [hlc, hz0]
    exact ⟨rfl, hE⟩
end Go.Proofs.Ytfjmbcjcgdfkfaa
