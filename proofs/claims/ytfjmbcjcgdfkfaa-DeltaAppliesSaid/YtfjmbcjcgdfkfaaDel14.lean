/- The reference's Longest. -/
import Derived.Test.YtfjmbcjcgdfkfaaDelLong
namespace Go.Proofs.Ytfjmbcjcgdfkfaa
open Go.RowKit
theorem getD_drop0 (l : List UInt8) (a m : Nat) : (l.drop a).getD m 0 = l.getD (a + m) 0 := by simp [List.getD_eq_getElem?_getD]
theorem del14_ty22 : Try.prog.underlying 22 = some (.slice 5) := by kernel_rfl
theorem del14_sz5 : ∀ w' : World, (sizeOf 5).run Try.prog w' = .ok 1 w' := fun _ => by kernel_rfl
theorem del14_ty5 : Try.prog.underlying 5 = some (.int .u8) := by kernel_rfl
theorem longest_any (w : World) (vb vt : Value) (B T : List UInt8) (hrb : RB w vb B) (hrt : RB w vt T) (ia : Nat) (hia : ia ≤ T.length) (hB : B.length ≤ 1048576) (hT : T.length ≤ 1048576) :
    Calls Try.prog 21 #[vb, vt, NI ia] w fun e w' => e = .returned (.tuple #[NI (longP B T ia).1, NI (longP B T ia).2]) ∧ Ext w w' := by
  refine calls_of_wpF (args := [vb, vt, .int .i64 ((ia : Nat) : Int)]) Try.func21 rfl 56 rfl (Nat.le_of_ble_eq_true rfl) ?_
  intro ρ0 hb
  have T0 : ρ0 0 = (vb : Value) := hb.get 0
  have T1 : ρ0 1 = (vt : Value) := hb.get 1
  have T2 : ρ0 2 = (.int .i64 ((ia : Nat) : Int) : Value) := hb.get 2
  clear hb
  have hE := Ext.refl w
  refine wpF_seq_k fun K1 hK1 => ?_
  refine wpF_text ?_
  refine opsF_step rfl (YieldsK.assign (show _ = (.int .i64 ((0 : Nat) : Int) : Value) from rfl) ?_)    -- ref.go:12 t6 := (Op.assign (Operand.const (Value.int IntKind.i64 0)))
  refine opsF_step rfl (YieldsK.assign (show _ = (.int .i64 ((0 : Nat) : Int) : Value) from rfl) ?_)    -- ref.go:12 t7 := (Op.assign (Operand.const (Value.int IntKind.i64 0)))
  refine opsF_end (fun ρ => ρ 0 = (vb : Value) ∧ ρ 1 = (vt : Value) ∧ ρ 2 = (.int .i64 ((ia : Nat) : Int) : Value) ∧ ρ 6 = (.int .i64 ((0 : Nat) : Int) : Value) ∧ ρ 7 = (.int .i64 ((0 : Nat) : Int) : Value) ∧ True) ⟨T0, T1, T2, rfl, rfl, trivial⟩ fun ρ2 ⟨T0, T1, T2, T6, T7, _⟩ => ?_
  refine thenF_normal (hK1 _ _ ?_)
  refine wpF_seq_k fun K3 hK3 => ?_
  refine wpF_text ?_
  refine opsF_step rfl (YieldsK.assign (show _ = (.int .i64 ((0 : Nat) : Int) : Value) from rfl) ?_)    -- ref.go:13 t8 := (Op.assign (Operand.const (Value.int IntKind.i64 0)))
  refine opsF_step rfl (YieldsK.assign (show _ = (.int .i64 ((0 : Nat) : Int) : Value) from rfl) ?_)    -- ref.go:13 t9 := (Op.assign (Operand.const (Value.int IntKind.i64 0)))
  refine opsF_end (fun ρ => ρ 0 = (vb : Value) ∧ ρ 1 = (vt : Value) ∧ ρ 2 = (.int .i64 ((ia : Nat) : Int) : Value) ∧ ρ 6 = (.int .i64 ((0 : Nat) : Int) : Value) ∧ ρ 7 = (.int .i64 ((0 : Nat) : Int) : Value) ∧ ρ 8 = (.int .i64 ((0 : Nat) : Int) : Value) ∧ ρ 9 = (.int .i64 ((0 : Nat) : Int) : Value) ∧ True) ⟨T0, T1, T2, T6, T7, rfl, rfl, trivial⟩ fun ρ4 ⟨T0, T1, T2, T6, T7, T8, T9, _⟩ => ?_
  refine thenF_normal (hK3 _ _ ?_)
  refine wpF_seq_k fun K5 hK5 => ?_
  refine wpF_seq_k fun K6 hK6 => ?_
  refine wpF_text ?_
  refine opsF_step rfl (YieldsK.assign (show _ = (.int .i64 ((0 : Nat) : Int) : Value) from rfl) ?_)    -- ref.go:14 t10 := (Op.assign (Operand.const (Value.int IntKind.i64 0)))
  refine opsF_end (fun ρ => ρ 0 = (vb : Value) ∧ ρ 1 = (vt : Value) ∧ ρ 2 = (.int .i64 ((ia : Nat) : Int) : Value) ∧ ρ 6 = (.int .i64 ((0 : Nat) : Int) : Value) ∧ ρ 7 = (.int .i64 ((0 : Nat) : Int) : Value) ∧ ρ 8 = (.int .i64 ((0 : Nat) : Int) : Value) ∧ ρ 9 = (.int .i64 ((0 : Nat) : Int) : Value) ∧ ρ 10 = (.int .i64 ((0 : Nat) : Int) : Value) ∧ True) ⟨T0, T1, T2, T6, T7, T8, T9, rfl, trivial⟩ fun ρ7 ⟨T0, T1, T2, T6, T7, T8, T9, T10, _⟩ => ?_
  refine thenF_normal (hK6 _ _ ?_)
  refine wpF_block ?_
  refine wpF_loop (fun (ρ : Slots) (wz : World) => ∃ q : Nat, ∃ p : Nat, ∃ n : Nat, ρ 0 = (vb : Value) ∧ ρ 1 = (vt : Value) ∧ ρ 2 = (.int .i64 ((ia : Nat) : Int) : Value) ∧ ρ 6 = (.int .i64 ((0 : Nat) : Int) : Value) ∧ ρ 7 = (.int .i64 ((0 : Nat) : Int) : Value) ∧ ρ 10 = (.int .i64 ((q : Nat) : Int) : Value) ∧ ρ 8 = (.int .i64 ((p : Nat) : Int) : Value) ∧ ρ 9 = (.int .i64 ((n : Nat) : Int) : Value) ∧ Ext w wz ∧ (q ≤ B.length) ∧ ((List.range q).foldl (bstep B T ia) (0, 0) = (p, n)) ∧ (p ≤ B.length) ∧ (n ≤ T.length - ia) ∧ True) (fun ρ _ => B.length - (intOf (ρ 10)).toNat) ⟨0, 0, 0, T0, T1, T2, T6, T7, T10, T8, T9, hE, Nat.zero_le _, rfl, Nat.zero_le _, Nat.zero_le _, trivial⟩ ?_
  clear hE
  rintro ρ8 w9 ⟨q, p, n, T0, T1, T2, T6, T7, T10, T8, T9, hE, hq, hbp, hp, hn, -⟩
  have q10 := T10
  refine wpF_seq_k fun K10 hK10 => ?_
  refine wpF_seq_k fun K11 hK11 => ?_
  refine wpF_text ?_
  refine opsF_step rfl (YieldsK.move (show _ = (.int .i64 ((q : Nat) : Int) : Value) from T10) ?_)    -- ref.go:14 t12 := (Op.move (Operand.tmp 10))
  refine opsF_step rfl (YieldsK.move (show _ = (vb : Value) from T0) ?_)    -- ref.go:14 t13 := (Op.move (Operand.tmp 0))
  refine opsF_step rfl (YieldsK.lenRB del14_ty22 (RB.of (hrb.keep hE) (show _ = (vb : Value) from rfl)) ?_)    -- ref.go:14 t14 := (Op.call { callee := (Callee.builtin Builtin.len), args := #[(Operand.tmp 13)], argTypes := #[22] })
  refine opsF_step rfl (YieldsK.eqI (a := ((q : Nat) : Int)) (b := ((B.length : Nat) : Int)) (show _ = (.int .i64 ((q : Nat) : Int) : Value) from rfl) (show _ = (.int .i64 ((B.length : Nat) : Int) : Value) from rfl) (k_lss _ .i64 (q) (B.length)) ?_)    -- ref.go:14 t15 := (Op.binOp BinOp.lss 3 (Operand.tmp 12) (Operand.tmp 14) 3)
  refine opsF_end (fun ρ => ρ 0 = (vb : Value) ∧ ρ 1 = (vt : Value) ∧ ρ 2 = (.int .i64 ((ia : Nat) : Int) : Value) ∧ ρ 6 = (.int .i64 ((0 : Nat) : Int) : Value) ∧ ρ 7 = (.int .i64 ((0 : Nat) : Int) : Value) ∧ ρ 8 = (.int .i64 ((p : Nat) : Int) : Value) ∧ ρ 9 = (.int .i64 ((n : Nat) : Int) : Value) ∧ ρ 10 = (.int .i64 ((q : Nat) : Int) : Value) ∧ ρ 15 = (.bool (decide ((q) < (B.length))) : Value) ∧ True) ⟨T0, T1, T2, T6, T7, T8, T9, T10, rfl, trivial⟩ fun ρ12 ⟨T0, T1, T2, T6, T7, T8, T9, T10, T15, _⟩ => ?_
  refine thenF_normal (hK11 _ _ ?_)
  refine wpF_cond ((q) < (B.length)) (show _ = (.bool (decide ((q) < (B.length))) : Value) from T15) (fun hc0 => ?_) (fun hc0 => ?_)
  · refine wpF_skip ?_
    refine thenF_normal (hK10 _ _ ?_)
    refine wpF_seq_k fun K13 hK13 => ?_
    refine wpF_block ?_
    refine wpF_seq_k fun K14 hK14 => ?_
    refine wpF_text ?_
    refine opsF_step rfl (YieldsK.assign (show _ = (.int .i64 ((0 : Nat) : Int) : Value) from rfl) ?_)    -- ref.go:15 t11 := (Op.assign (Operand.const (Value.int IntKind.i64 0)))
    refine opsF_end (fun ρ => ρ 0 = (vb : Value) ∧ ρ 1 = (vt : Value) ∧ ρ 2 = (.int .i64 ((ia : Nat) : Int) : Value) ∧ ρ 6 = (.int .i64 ((0 : Nat) : Int) : Value) ∧ ρ 7 = (.int .i64 ((0 : Nat) : Int) : Value) ∧ ρ 8 = (.int .i64 ((p : Nat) : Int) : Value) ∧ ρ 9 = (.int .i64 ((n : Nat) : Int) : Value) ∧ ρ 10 = (.int .i64 ((q : Nat) : Int) : Value) ∧ ρ 11 = (.int .i64 ((0 : Nat) : Int) : Value) ∧ True) ⟨T0, T1, T2, T6, T7, T8, T9, T10, rfl, trivial⟩ fun ρ15 ⟨T0, T1, T2, T6, T7, T8, T9, T10, T11, _⟩ => ?_
    refine thenF_normal (hK14 _ _ ?_)
    refine wpF_seq_k fun K16 hK16 => ?_
    refine wpF_block ?_
    refine wpF_loop (fun (ρ : Slots) (wz : World) => ∃ m : Nat, ρ 0 = (vb : Value) ∧ ρ 1 = (vt : Value) ∧ ρ 2 = (.int .i64 ((ia : Nat) : Int) : Value) ∧ ρ 6 = (.int .i64 ((0 : Nat) : Int) : Value) ∧ ρ 7 = (.int .i64 ((0 : Nat) : Int) : Value) ∧ ρ 8 = (.int .i64 ((p : Nat) : Int) : Value) ∧ ρ 9 = (.int .i64 ((n : Nat) : Int) : Value) ∧ ρ 10 = (.int .i64 ((q : Nat) : Int) : Value) ∧ ρ 11 = (.int .i64 ((m : Nat) : Int) : Value) ∧ Ext w wz ∧ (m ≤ B.length - q) ∧ (m ≤ T.length - ia) ∧ (lcp (B.drop q) (T.drop ia) = m + lcp ((B.drop q).drop m) ((T.drop ia).drop m)) ∧ True) (fun ρ _ => B.length - q - (intOf (ρ 11)).toNat) ⟨0, T0, T1, T2, T6, T7, T8, T9, T10, T11, hE, Nat.zero_le _, Nat.zero_le _, by simp, trivial⟩ ?_
    clear hE
    rintro ρ17 w18 ⟨m, T0, T1, T2, T6, T7, T8, T9, T10, T11, hE, hmb, hmt, hlc, -⟩
    have q11 := T11
    by_cases h1 : m < B.length - q
    · by_cases h2 : m < T.length - ia
      · by_cases h3 : B.getD (q + m) 0 = T.getD (ia + m) 0
        · refine wpF_seq_k fun K19 hK19 => ?_
          refine wpF_seq_k fun K20 hK20 => ?_
          refine wpF_draw [Is (.int .i64 ((m : Nat) : Int)), Is (vb), Is (.int .i64 ((B.length : Nat) : Int)), Is (.int .i64 ((q : Nat) : Int)), Is (.int .i64 (((B.length) - (q) : Nat) : Int)), Is (.bool (true)), Is (.bool (true)), Is (.int .i64 ((m : Nat) : Int)), Is (vt), Is (.int .i64 ((T.length : Nat) : Int)), Is (.int .i64 ((ia : Nat) : Int)), Is (.int .i64 (((T.length) - (ia) : Nat) : Int)), Is (.bool (true)), Is (.bool (true)), Is (.bool (true)), Is (vb), Is (.int .i64 ((q : Nat) : Int)), Is (.int .i64 ((m : Nat) : Int)), Is (.int .i64 (((q) + (m) : Nat) : Int)), PCell (B8 (B.getD ((q) + (m)) 0)), Is (B8 (B.getD ((q) + (m)) 0)), Is (vt), Is (.int .i64 ((ia : Nat) : Int)), Is (.int .i64 ((m : Nat) : Int)), Is (.int .i64 (((ia) + (m) : Nat) : Int)), PCell (B8 (T.getD ((ia) + (m)) 0)), Is (B8 (T.getD ((ia) + (m)) 0)), Is (.bool (true)), Is (.bool (true))] (by kernel_rfl) [18, 19, 20, 21, 22, 23, 24, 25, 26, 27, 28, 29, 30, 31, 32, 33, 34, 35, 36, 37, 38, 39, 40, 41, 42, 43, 44, 45, 46] (by kernel_rfl) (by kernel_rfl) ⟨Stab.is _, Stab.is _, Stab.is _, Stab.is _, Stab.is _, Stab.is _, Stab.is _, Stab.is _, Stab.is _, Stab.is _, Stab.is _, Stab.is _, Stab.is _, Stab.is _, Stab.is _, Stab.is _, Stab.is _, Stab.is _, Stab.is _, Stab.pcell _, Stab.is _, Stab.is _, Stab.is _, Stab.is _, Stab.is _, Stab.pcell _, Stab.is _, Stab.is _, Stab.is _, trivial⟩ ?hs1006 ?hQ1006
          case hs1006 =>
            refine ⟨?_, ?_, ?_, ?_, ?_, ?_, ?_, ?_, ?_, ?_, ?_, ?_, ?_, ?_, ?_, ?_, ?_, ?_, ?_, ?_, ?_, ?_, ?_, ?_, ?_, ?_, ?_, ?_, ?_, trivial⟩
            · refine stepN rfl fun σ w1 hC h => ?_    -- t18 := (Op.move (Operand.tmp 11))
              have e11 : σ 11 = .int .i64 ((m : Nat) : Int) := (show _ = _ from h 11 (by decide)).trans T11
              exact YieldsK.move e11 ⟨Ext.refl _, rfl⟩
            · refine stepN rfl fun σ w1 hC h => ?_    -- t19 := (Op.move (Operand.tmp 0))
              have e0 : σ 0 = vb := (show _ = _ from h 0 (by decide)).trans T0
              exact YieldsK.move e0 ⟨Ext.refl _, rfl⟩
            · refine stepN rfl fun σ w1 hC h => ?_    -- t20 := (Op.call { callee := (Callee.builtin Builtin.len), args := #[(Operand.tmp 19)], argTypes := #[22] })
              have e19 : σ 19 = vb := h 19 (by decide)
              exact YieldsK.lenRB del14_ty22 (RB.of (hrb.keep (hE.trans hC)) e19) ⟨Ext.refl _, rfl⟩
            · refine stepN rfl fun σ w1 hC h => ?_    -- t21 := (Op.move (Operand.tmp 10))
              have e10 : σ 10 = .int .i64 ((q : Nat) : Int) := (show _ = _ from h 10 (by decide)).trans T10
              exact YieldsK.move e10 ⟨Ext.refl _, rfl⟩
            · refine stepN rfl fun σ w1 hC h => ?_    -- t22 := (Op.binOp BinOp.sub 3 (Operand.tmp 20) (Operand.tmp 21) 3)
              have e20 : σ 20 = .int .i64 ((B.length : Nat) : Int) := h 20 (by decide)
              have e21 : σ 21 = .int .i64 ((q : Nat) : Int) := h 21 (by decide)
              exact YieldsK.bin (xv := .int .i64 ((B.length : Nat) : Int)) (yv := .int .i64 ((q : Nat) : Int)) e20 e21 rfl (i64_sub _ (B.length) (q) (by omega) (by omega)) ⟨Ext.refl _, rfl⟩
            · refine stepN rfl fun σ w1 hC h => ?_    -- t23 := (Op.binOp BinOp.lss 3 (Operand.tmp 18) (Operand.tmp 22) 3)
              have e18 : σ 18 = .int .i64 ((m : Nat) : Int) := h 18 (by decide)
              have e22 : σ 22 = .int .i64 (((B.length) - (q) : Nat) : Int) := h 22 (by decide)
              exact YieldsK.eqI (a := ((m : Nat) : Int)) (b := (((B.length) - (q) : Nat) : Int)) e18 e22 (k_lss _ .i64 (m) ((B.length) - (q))) ⟨Ext.refl _, (congrArg Value.bool (decide_eq_true (h1)))⟩
            · refine stepN rfl fun σ w1 hC h => ?_    -- t24 := (Op.move (Operand.tmp 23))
              have e23 : σ 23 = .bool (true) := h 23 (by decide)
              exact YieldsK.move e23 ⟨Ext.refl _, rfl⟩
            · refine stepY 6 true 24 rfl rfl (fun _ _ h => h) fun σ w1 hC h => ?_    -- t25 := (Op.move (Operand.tmp 11))
              have e11 : σ 11 = .int .i64 ((m : Nat) : Int) := (show _ = _ from h 11 (by decide)).trans T11
              exact YieldsK.move e11 ⟨Ext.refl _, rfl⟩
            · refine stepY 6 true 24 rfl rfl (fun _ _ h => h) fun σ w1 hC h => ?_    -- t26 := (Op.move (Operand.tmp 1))
              have e1 : σ 1 = vt := (show _ = _ from h 1 (by decide)).trans T1
              exact YieldsK.move e1 ⟨Ext.refl _, rfl⟩
            · refine stepY 6 true 24 rfl rfl (fun _ _ h => h) fun σ w1 hC h => ?_    -- t27 := (Op.call { callee := (Callee.builtin Builtin.len), args := #[(Operand.tmp 26)], argTypes := #[22] })
              have e26 : σ 26 = vt := h 26 (by decide)
              exact YieldsK.lenRB del14_ty22 (RB.of (hrt.keep (hE.trans hC)) e26) ⟨Ext.refl _, rfl⟩
            · refine stepY 6 true 24 rfl rfl (fun _ _ h => h) fun σ w1 hC h => ?_    -- t28 := (Op.move (Operand.tmp 2))
              have e2 : σ 2 = .int .i64 ((ia : Nat) : Int) := (show _ = _ from h 2 (by decide)).trans T2
              exact YieldsK.move e2 ⟨Ext.refl _, rfl⟩
            · refine stepY 6 true 24 rfl rfl (fun _ _ h => h) fun σ w1 hC h => ?_    -- t29 := (Op.binOp BinOp.sub 3 (Operand.tmp 27) (Operand.tmp 28) 3)
              have e27 : σ 27 = .int .i64 ((T.length : Nat) : Int) := h 27 (by decide)
              have e28 : σ 28 = .int .i64 ((ia : Nat) : Int) := h 28 (by decide)
              exact YieldsK.bin (xv := .int .i64 ((T.length : Nat) : Int)) (yv := .int .i64 ((ia : Nat) : Int)) e27 e28 rfl (i64_sub _ (T.length) (ia) (by omega) (by omega)) ⟨Ext.refl _, rfl⟩
            · refine stepY 6 true 24 rfl rfl (fun _ _ h => h) fun σ w1 hC h => ?_    -- t30 := (Op.binOp BinOp.lss 3 (Operand.tmp 25) (Operand.tmp 29) 3)
              have e25 : σ 25 = .int .i64 ((m : Nat) : Int) := h 25 (by decide)
              have e29 : σ 29 = .int .i64 (((T.length) - (ia) : Nat) : Int) := h 29 (by decide)
              exact YieldsK.eqI (a := ((m : Nat) : Int)) (b := (((T.length) - (ia) : Nat) : Int)) e25 e29 (k_lss _ .i64 (m) ((T.length) - (ia))) ⟨Ext.refl _, (congrArg Value.bool (decide_eq_true (h2)))⟩
            · refine stepN rfl fun σ w1 hC h => ?_    -- t31 := (Op.pick (Operand.tmp 24) (Operand.tmp 30) (Operand.const (Value.bool false)))
              have e24 : σ 24 = .bool (true) := h 24 (by decide)
              have e30 : σ 30 = .bool (true) := h 30 (by decide)
              exact YieldsK.pickT e24 e30 ⟨Ext.refl _, rfl⟩
            · refine stepN rfl fun σ w1 hC h => ?_    -- t32 := (Op.move (Operand.tmp 31))
              have e31 : σ 31 = .bool (true) := h 31 (by decide)
              exact YieldsK.move e31 ⟨Ext.refl _, rfl⟩
            · refine stepY 14 true 32 rfl rfl (fun _ _ h => h) fun σ w1 hC h => ?_    -- t33 := (Op.move (Operand.tmp 0))
              have e0 : σ 0 = vb := (show _ = _ from h 0 (by decide)).trans T0
              exact YieldsK.move e0 ⟨Ext.refl _, rfl⟩
            · refine stepY 14 true 32 rfl rfl (fun _ _ h => h) fun σ w1 hC h => ?_    -- t34 := (Op.move (Operand.tmp 10))
              have e10 : σ 10 = .int .i64 ((q : Nat) : Int) := (show _ = _ from h 10 (by decide)).trans T10
              exact YieldsK.move e10 ⟨Ext.refl _, rfl⟩
            · refine stepY 14 true 32 rfl rfl (fun _ _ h => h) fun σ w1 hC h => ?_    -- t35 := (Op.move (Operand.tmp 11))
              have e11 : σ 11 = .int .i64 ((m : Nat) : Int) := (show _ = _ from h 11 (by decide)).trans T11
              exact YieldsK.move e11 ⟨Ext.refl _, rfl⟩
            · refine stepY 14 true 32 rfl rfl (fun _ _ h => h) fun σ w1 hC h => ?_    -- t36 := (Op.binOp BinOp.add 3 (Operand.tmp 34) (Operand.tmp 35) 3)
              have e34 : σ 34 = .int .i64 ((q : Nat) : Int) := h 34 (by decide)
              have e35 : σ 35 = .int .i64 ((m : Nat) : Int) := h 35 (by decide)
              exact YieldsK.bin (xv := .int .i64 ((q : Nat) : Int)) (yv := .int .i64 ((m : Nat) : Int)) e34 e35 rfl (i64_add _ (q) (m) (by omega)) ⟨Ext.refl _, rfl⟩
            · refine stepY 14 true 32 rfl rfl (fun _ _ h => h) fun σ w1 hC h => ?_    -- t37 := (Op.indexAddr 22 (Operand.tmp 33) (Operand.tmp 36))
              have e33 : σ 33 = vb := h 33 (by decide)
              have e36 : σ 36 = .int .i64 (((q) + (m) : Nat) : Int) := h 36 (by decide)
              exact YieldsK.atRB (l := B) (i := (q) + (m)) del14_ty22 del14_sz5 (RB.of (hrb.keep (hE.trans hC)) e33) e36 (by omega) fun _ h => ⟨Ext.refl _, h⟩
            · refine stepY 14 true 32 rfl rfl (fun _ _ h => h) fun σ w1 hC h => ?_    -- t38 := (Op.load 5 (Operand.tmp 37))
              have e37 : (PCell (B8 (B.getD ((q) + (m)) 0))) (σ 37) w1 := h 37 (by decide)
              exact YieldsK.loadC del14_ty5 rfl e37 ⟨Ext.refl _, rfl⟩
            · refine stepY 14 true 32 rfl rfl (fun _ _ h => h) fun σ w1 hC h => ?_    -- t39 := (Op.move (Operand.tmp 1))
              have e1 : σ 1 = vt := (show _ = _ from h 1 (by decide)).trans T1
              exact YieldsK.move e1 ⟨Ext.refl _, rfl⟩
            · refine stepY 14 true 32 rfl rfl (fun _ _ h => h) fun σ w1 hC h => ?_    -- t40 := (Op.move (Operand.tmp 2))
              have e2 : σ 2 = .int .i64 ((ia : Nat) : Int) := (show _ = _ from h 2 (by decide)).trans T2
              exact YieldsK.move e2 ⟨Ext.refl _, rfl⟩
            · refine stepY 14 true 32 rfl rfl (fun _ _ h => h) fun σ w1 hC h => ?_    -- t41 := (Op.move (Operand.tmp 11))
              have e11 : σ 11 = .int .i64 ((m : Nat) : Int) := (show _ = _ from h 11 (by decide)).trans T11
              exact YieldsK.move e11 ⟨Ext.refl _, rfl⟩
            · refine stepY 14 true 32 rfl rfl (fun _ _ h => h) fun σ w1 hC h => ?_    -- t42 := (Op.binOp BinOp.add 3 (Operand.tmp 40) (Operand.tmp 41) 3)
              have e40 : σ 40 = .int .i64 ((ia : Nat) : Int) := h 40 (by decide)
              have e41 : σ 41 = .int .i64 ((m : Nat) : Int) := h 41 (by decide)
              exact YieldsK.bin (xv := .int .i64 ((ia : Nat) : Int)) (yv := .int .i64 ((m : Nat) : Int)) e40 e41 rfl (i64_add _ (ia) (m) (by omega)) ⟨Ext.refl _, rfl⟩
            · refine stepY 14 true 32 rfl rfl (fun _ _ h => h) fun σ w1 hC h => ?_    -- t43 := (Op.indexAddr 22 (Operand.tmp 39) (Operand.tmp 42))
              have e39 : σ 39 = vt := h 39 (by decide)
              have e42 : σ 42 = .int .i64 (((ia) + (m) : Nat) : Int) := h 42 (by decide)
              exact YieldsK.atRB (l := T) (i := (ia) + (m)) del14_ty22 del14_sz5 (RB.of (hrt.keep (hE.trans hC)) e39) e42 (by omega) fun _ h => ⟨Ext.refl _, h⟩
            · refine stepY 14 true 32 rfl rfl (fun _ _ h => h) fun σ w1 hC h => ?_    -- t44 := (Op.load 5 (Operand.tmp 43))
              have e43 : (PCell (B8 (T.getD ((ia) + (m)) 0))) (σ 43) w1 := h 43 (by decide)
              exact YieldsK.loadC del14_ty5 rfl e43 ⟨Ext.refl _, rfl⟩
            · refine stepY 14 true 32 rfl rfl (fun _ _ h => h) fun σ w1 hC h => ?_    -- t45 := (Op.binOp BinOp.eql 5 (Operand.tmp 38) (Operand.tmp 44) 5)
              have e38 : σ 38 = B8 (B.getD ((q) + (m)) 0) := h 38 (by decide)
              have e44 : σ 44 = B8 (T.getD ((ia) + (m)) 0) := h 44 (by decide)
              exact YieldsK.eqI (a := (((B.getD ((q) + (m)) 0).toNat : Nat) : Int)) (b := (((T.getD ((ia) + (m)) 0).toNat : Nat) : Int)) e38 e44 (k_eql _ .u8 ((B.getD ((q) + (m)) 0).toNat) ((T.getD ((ia) + (m)) 0).toNat)) ⟨Ext.refl _, (congrArg Value.bool (decide_eq_true (congrArg UInt8.toNat h3)))⟩
            · refine stepN rfl fun σ w1 hC h => ?_    -- t46 := (Op.pick (Operand.tmp 32) (Operand.tmp 45) (Operand.const (Value.bool false)))
              have e32 : σ 32 = .bool (true) := h 32 (by decide)
              have e45 : σ 45 = .bool (true) := h 45 (by decide)
              exact YieldsK.pickT e32 e45 ⟨Ext.refl _, rfl⟩
          intro ρ21 w22 hx23 he hf
          obtain ⟨-, -, -, -, -, -, -, -, -, -, -, -, -, -, -, -, -, -, -, -, -, -, -, -, -, -, -, -, k46, -⟩ := hf
          have T0 : ρ21 0 = vb := he.at_ T0 rfl
          have T1 : ρ21 1 = vt := he.at_ T1 rfl
          have T2 : ρ21 2 = .int .i64 ((ia : Nat) : Int) := he.at_ T2 rfl
          have T6 : ρ21 6 = .int .i64 ((0 : Nat) : Int) := he.at_ T6 rfl
          have T7 : ρ21 7 = .int .i64 ((0 : Nat) : Int) := he.at_ T7 rfl
          have T8 : ρ21 8 = .int .i64 ((p : Nat) : Int) := he.at_ T8 rfl
          have T9 : ρ21 9 = .int .i64 ((n : Nat) : Int) := he.at_ T9 rfl
          have T10 : ρ21 10 = .int .i64 ((q : Nat) : Int) := he.at_ T10 rfl
          have T11 : ρ21 11 = .int .i64 ((m : Nat) : Int) := he.at_ T11 rfl
          clear he
          have hE : Ext w w22 := (hE.trans hx23)
          have T46 : ρ21 46 = .bool (true) := k46
          clear k46
          refine thenF_normal (hK20 _ _ ?_)
          refine wpF_true (show _ = (.bool (true) : Value) from T46) ?_
          refine wpF_skip ?_
          refine thenF_normal (hK19 _ _ ?_)
          refine wpF_block ?_
          refine wpF_text ?_
          refine opsF_step rfl (YieldsK.move (show _ = (.int .i64 ((m : Nat) : Int) : Value) from T11) ?_)    -- ref.go:17 t47 := (Op.move (Operand.tmp 11))
          refine opsF_step rfl (YieldsK.bin (xv := .int .i64 ((m : Nat) : Int)) (yv := .int .i64 ((1 : Nat) : Int)) (show _ = (.int .i64 ((m : Nat) : Int) : Value) from rfl) (show _ = (.int .i64 ((1 : Nat) : Int) : Value) from rfl) rfl (i64_add _ (m) (1) (by omega)) ?_)    -- ref.go:17 t48 := (Op.binOp BinOp.add 3 (Operand.tmp 47) (Operand.const (Value.int IntKind.i64 1)) 3)
          refine opsF_step rfl (YieldsK.assign (show _ = (.int .i64 (((m) + (1) : Nat) : Int) : Value) from rfl) ?_)    -- ref.go:17 t11 := (Op.assign (Operand.tmp 48))
          refine opsF_end (fun ρ => ρ 0 = (vb : Value) ∧ ρ 1 = (vt : Value) ∧ ρ 2 = (.int .i64 ((ia : Nat) : Int) : Value) ∧ ρ 6 = (.int .i64 ((0 : Nat) : Int) : Value) ∧ ρ 7 = (.int .i64 ((0 : Nat) : Int) : Value) ∧ ρ 8 = (.int .i64 ((p : Nat) : Int) : Value) ∧ ρ 9 = (.int .i64 ((n : Nat) : Int) : Value) ∧ ρ 10 = (.int .i64 ((q : Nat) : Int) : Value) ∧ ρ 11 = (.int .i64 (((m) + (1) : Nat) : Int) : Value) ∧ ρ 46 = (.bool (true) : Value) ∧ True) ⟨T0, T1, T2, T6, T7, T8, T9, T10, rfl, T46, trivial⟩ fun ρ24 ⟨T0, T1, T2, T6, T7, T8, T9, T10, T11, T46, _⟩ => ?_
          refine inBlockF_normal ?_
          refine thenF_normal (And.intro ⟨m + 1, T0, T1, T2, T6, T7, T8, T9, T10, T11, hE, by omega, by omega, by rw [hlc, lcp_step (by rw [List.length_drop]; exact h1) (by rw [List.length_drop]; exact h2) (by rw [getD_drop0, getD_drop0]; exact h3)]; omega, trivial⟩ ?_)
          show B.length - q - (intOf (ρ24 11)).toNat < B.length - q - (intOf (ρ17 11)).toNat
          rw [T11, q11]
          simp only [intOf, Int.toNat_natCast]; omega
        · have hz0 := lcp_ne (a := B.drop q) (b := T.drop ia) (i := m) (by rw [List.length_drop]; exact h1) (by rw [List.length_drop]; exact h2) (by rw [getD_drop0, getD_drop0]; exact h3)
          refine wpF_seq_k fun K25 hK25 => ?_
          refine wpF_seq_k fun K26 hK26 => ?_
          refine wpF_draw [Is (.int .i64 ((m : Nat) : Int)), Is (vb), Is (.int .i64 ((B.length : Nat) : Int)), Is (.int .i64 ((q : Nat) : Int)), Is (.int .i64 (((B.length) - (q) : Nat) : Int)), Is (.bool (true)), Is (.bool (true)), Is (.int .i64 ((m : Nat) : Int)), Is (vt), Is (.int .i64 ((T.length : Nat) : Int)), Is (.int .i64 ((ia : Nat) : Int)), Is (.int .i64 (((T.length) - (ia) : Nat) : Int)), Is (.bool (true)), Is (.bool (true)), Is (.bool (true)), Is (vb), Is (.int .i64 ((q : Nat) : Int)), Is (.int .i64 ((m : Nat) : Int)), Is (.int .i64 (((q) + (m) : Nat) : Int)), PCell (B8 (B.getD ((q) + (m)) 0)), Is (B8 (B.getD ((q) + (m)) 0)), Is (vt), Is (.int .i64 ((ia : Nat) : Int)), Is (.int .i64 ((m : Nat) : Int)), Is (.int .i64 (((ia) + (m) : Nat) : Int)), PCell (B8 (T.getD ((ia) + (m)) 0)), Is (B8 (T.getD ((ia) + (m)) 0)), Is (.bool (false)), Is (.bool (false))] (by kernel_rfl) [18, 19, 20, 21, 22, 23, 24, 25, 26, 27, 28, 29, 30, 31, 32, 33, 34, 35, 36, 37, 38, 39, 40, 41, 42, 43, 44, 45, 46] (by kernel_rfl) (by kernel_rfl) ⟨Stab.is _, Stab.is _, Stab.is _, Stab.is _, Stab.is _, Stab.is _, Stab.is _, Stab.is _, Stab.is _, Stab.is _, Stab.is _, Stab.is _, Stab.is _, Stab.is _, Stab.is _, Stab.is _, Stab.is _, Stab.is _, Stab.is _, Stab.pcell _, Stab.is _, Stab.is _, Stab.is _, Stab.is _, Stab.is _, Stab.pcell _, Stab.is _, Stab.is _, Stab.is _, trivial⟩ ?hs2006 ?hQ2006
          case hs2006 =>
            refine ⟨?_, ?_, ?_, ?_, ?_, ?_, ?_, ?_, ?_, ?_, ?_, ?_, ?_, ?_, ?_, ?_, ?_, ?_, ?_, ?_, ?_, ?_, ?_, ?_, ?_, ?_, ?_, ?_, ?_, trivial⟩
            · refine stepN rfl fun σ w1 hC h => ?_    -- t18 := (Op.move (Operand.tmp 11))
              have e11 : σ 11 = .int .i64 ((m : Nat) : Int) := (show _ = _ from h 11 (by decide)).trans T11
              exact YieldsK.move e11 ⟨Ext.refl _, rfl⟩
            · refine stepN rfl fun σ w1 hC h => ?_    -- t19 := (Op.move (Operand.tmp 0))
              have e0 : σ 0 = vb := (show _ = _ from h 0 (by decide)).trans T0
              exact YieldsK.move e0 ⟨Ext.refl _, rfl⟩
            · refine stepN rfl fun σ w1 hC h => ?_    -- t20 := (Op.call { callee := (Callee.builtin Builtin.len), args := #[(Operand.tmp 19)], argTypes := #[22] })
              have e19 : σ 19 = vb := h 19 (by decide)
              exact YieldsK.lenRB del14_ty22 (RB.of (hrb.keep (hE.trans hC)) e19) ⟨Ext.refl _, rfl⟩
            · refine stepN rfl fun σ w1 hC h => ?_    -- t21 := (Op.move (Operand.tmp 10))
              have e10 : σ 10 = .int .i64 ((q : Nat) : Int) := (show _ = _ from h 10 (by decide)).trans T10
              exact YieldsK.move e10 ⟨Ext.refl _, rfl⟩
            · refine stepN rfl fun σ w1 hC h => ?_    -- t22 := (Op.binOp BinOp.sub 3 (Operand.tmp 20) (Operand.tmp 21) 3)
              have e20 : σ 20 = .int .i64 ((B.length : Nat) : Int) := h 20 (by decide)
              have e21 : σ 21 = .int .i64 ((q : Nat) : Int) := h 21 (by decide)
              exact YieldsK.bin (xv := .int .i64 ((B.length : Nat) : Int)) (yv := .int .i64 ((q : Nat) : Int)) e20 e21 rfl (i64_sub _ (B.length) (q) (by omega) (by omega)) ⟨Ext.refl _, rfl⟩
            · refine stepN rfl fun σ w1 hC h => ?_    -- t23 := (Op.binOp BinOp.lss 3 (Operand.tmp 18) (Operand.tmp 22) 3)
              have e18 : σ 18 = .int .i64 ((m : Nat) : Int) := h 18 (by decide)
              have e22 : σ 22 = .int .i64 (((B.length) - (q) : Nat) : Int) := h 22 (by decide)
              exact YieldsK.eqI (a := ((m : Nat) : Int)) (b := (((B.length) - (q) : Nat) : Int)) e18 e22 (k_lss _ .i64 (m) ((B.length) - (q))) ⟨Ext.refl _, (congrArg Value.bool (decide_eq_true (h1)))⟩
            · refine stepN rfl fun σ w1 hC h => ?_    -- t24 := (Op.move (Operand.tmp 23))
              have e23 : σ 23 = .bool (true) := h 23 (by decide)
              exact YieldsK.move e23 ⟨Ext.refl _, rfl⟩
            · refine stepY 6 true 24 rfl rfl (fun _ _ h => h) fun σ w1 hC h => ?_    -- t25 := (Op.move (Operand.tmp 11))
              have e11 : σ 11 = .int .i64 ((m : Nat) : Int) := (show _ = _ from h 11 (by decide)).trans T11
              exact YieldsK.move e11 ⟨Ext.refl _, rfl⟩
            · refine stepY 6 true 24 rfl rfl (fun _ _ h => h) fun σ w1 hC h => ?_    -- t26 := (Op.move (Operand.tmp 1))
              have e1 : σ 1 = vt := (show _ = _ from h 1 (by decide)).trans T1
              exact YieldsK.move e1 ⟨Ext.refl _, rfl⟩
            · refine stepY 6 true 24 rfl rfl (fun _ _ h => h) fun σ w1 hC h => ?_    -- t27 := (Op.call { callee := (Callee.builtin Builtin.len), args := #[(Operand.tmp 26)], argTypes := #[22] })
              have e26 : σ 26 = vt := h 26 (by decide)
              exact YieldsK.lenRB del14_ty22 (RB.of (hrt.keep (hE.trans hC)) e26) ⟨Ext.refl _, rfl⟩
            · refine stepY 6 true 24 rfl rfl (fun _ _ h => h) fun σ w1 hC h => ?_    -- t28 := (Op.move (Operand.tmp 2))
              have e2 : σ 2 = .int .i64 ((ia : Nat) : Int) := (show _ = _ from h 2 (by decide)).trans T2
              exact YieldsK.move e2 ⟨Ext.refl _, rfl⟩
            · refine stepY 6 true 24 rfl rfl (fun _ _ h => h) fun σ w1 hC h => ?_    -- t29 := (Op.binOp BinOp.sub 3 (Operand.tmp 27) (Operand.tmp 28) 3)
              have e27 : σ 27 = .int .i64 ((T.length : Nat) : Int) := h 27 (by decide)
              have e28 : σ 28 = .int .i64 ((ia : Nat) : Int) := h 28 (by decide)
              exact YieldsK.bin (xv := .int .i64 ((T.length : Nat) : Int)) (yv := .int .i64 ((ia : Nat) : Int)) e27 e28 rfl (i64_sub _ (T.length) (ia) (by omega) (by omega)) ⟨Ext.refl _, rfl⟩
            · refine stepY 6 true 24 rfl rfl (fun _ _ h => h) fun σ w1 hC h => ?_    -- t30 := (Op.binOp BinOp.lss 3 (Operand.tmp 25) (Operand.tmp 29) 3)
              have e25 : σ 25 = .int .i64 ((m : Nat) : Int) := h 25 (by decide)
              have e29 : σ 29 = .int .i64 (((T.length) - (ia) : Nat) : Int) := h 29 (by decide)
              exact YieldsK.eqI (a := ((m : Nat) : Int)) (b := (((T.length) - (ia) : Nat) : Int)) e25 e29 (k_lss _ .i64 (m) ((T.length) - (ia))) ⟨Ext.refl _, (congrArg Value.bool (decide_eq_true (h2)))⟩
            · refine stepN rfl fun σ w1 hC h => ?_    -- t31 := (Op.pick (Operand.tmp 24) (Operand.tmp 30) (Operand.const (Value.bool false)))
              have e24 : σ 24 = .bool (true) := h 24 (by decide)
              have e30 : σ 30 = .bool (true) := h 30 (by decide)
              exact YieldsK.pickT e24 e30 ⟨Ext.refl _, rfl⟩
            · refine stepN rfl fun σ w1 hC h => ?_    -- t32 := (Op.move (Operand.tmp 31))
              have e31 : σ 31 = .bool (true) := h 31 (by decide)
              exact YieldsK.move e31 ⟨Ext.refl _, rfl⟩
            · refine stepY 14 true 32 rfl rfl (fun _ _ h => h) fun σ w1 hC h => ?_    -- t33 := (Op.move (Operand.tmp 0))
              have e0 : σ 0 = vb := (show _ = _ from h 0 (by decide)).trans T0
              exact YieldsK.move e0 ⟨Ext.refl _, rfl⟩
            · refine stepY 14 true 32 rfl rfl (fun _ _ h => h) fun σ w1 hC h => ?_    -- t34 := (Op.move (Operand.tmp 10))
              have e10 : σ 10 = .int .i64 ((q : Nat) : Int) := (show _ = _ from h 10 (by decide)).trans T10
              exact YieldsK.move e10 ⟨Ext.refl _, rfl⟩
            · refine stepY 14 true 32 rfl rfl (fun _ _ h => h) fun σ w1 hC h => ?_    -- t35 := (Op.move (Operand.tmp 11))
              have e11 : σ 11 = .int .i64 ((m : Nat) : Int) := (show _ = _ from h 11 (by decide)).trans T11
              exact YieldsK.move e11 ⟨Ext.refl _, rfl⟩
            · refine stepY 14 true 32 rfl rfl (fun _ _ h => h) fun σ w1 hC h => ?_    -- t36 := (Op.binOp BinOp.add 3 (Operand.tmp 34) (Operand.tmp 35) 3)
              have e34 : σ 34 = .int .i64 ((q : Nat) : Int) := h 34 (by decide)
              have e35 : σ 35 = .int .i64 ((m : Nat) : Int) := h 35 (by decide)
              exact YieldsK.bin (xv := .int .i64 ((q : Nat) : Int)) (yv := .int .i64 ((m : Nat) : Int)) e34 e35 rfl (i64_add _ (q) (m) (by omega)) ⟨Ext.refl _, rfl⟩
            · refine stepY 14 true 32 rfl rfl (fun _ _ h => h) fun σ w1 hC h => ?_    -- t37 := (Op.indexAddr 22 (Operand.tmp 33) (Operand.tmp 36))
              have e33 : σ 33 = vb := h 33 (by decide)
              have e36 : σ 36 = .int .i64 (((q) + (m) : Nat) : Int) := h 36 (by decide)
              exact YieldsK.atRB (l := B) (i := (q) + (m)) del14_ty22 del14_sz5 (RB.of (hrb.keep (hE.trans hC)) e33) e36 (by omega) fun _ h => ⟨Ext.refl _, h⟩
            · refine stepY 14 true 32 rfl rfl (fun _ _ h => h) fun σ w1 hC h => ?_    -- t38 := (Op.load 5 (Operand.tmp 37))
              have e37 : (PCell (B8 (B.getD ((q) + (m)) 0))) (σ 37) w1 := h 37 (by decide)
              exact YieldsK.loadC del14_ty5 rfl e37 ⟨Ext.refl _, rfl⟩
            · refine stepY 14 true 32 rfl rfl (fun _ _ h => h) fun σ w1 hC h => ?_    -- t39 := (Op.move (Operand.tmp 1))
              have e1 : σ 1 = vt := (show _ = _ from h 1 (by decide)).trans T1
              exact YieldsK.move e1 ⟨Ext.refl _, rfl⟩
            · refine stepY 14 true 32 rfl rfl (fun _ _ h => h) fun σ w1 hC h => ?_    -- t40 := (Op.move (Operand.tmp 2))
              have e2 : σ 2 = .int .i64 ((ia : Nat) : Int) := (show _ = _ from h 2 (by decide)).trans T2
              exact YieldsK.move e2 ⟨Ext.refl _, rfl⟩
            · refine stepY 14 true 32 rfl rfl (fun _ _ h => h) fun σ w1 hC h => ?_    -- t41 := (Op.move (Operand.tmp 11))
              have e11 : σ 11 = .int .i64 ((m : Nat) : Int) := (show _ = _ from h 11 (by decide)).trans T11
              exact YieldsK.move e11 ⟨Ext.refl _, rfl⟩
            · refine stepY 14 true 32 rfl rfl (fun _ _ h => h) fun σ w1 hC h => ?_    -- t42 := (Op.binOp BinOp.add 3 (Operand.tmp 40) (Operand.tmp 41) 3)
              have e40 : σ 40 = .int .i64 ((ia : Nat) : Int) := h 40 (by decide)
              have e41 : σ 41 = .int .i64 ((m : Nat) : Int) := h 41 (by decide)
              exact YieldsK.bin (xv := .int .i64 ((ia : Nat) : Int)) (yv := .int .i64 ((m : Nat) : Int)) e40 e41 rfl (i64_add _ (ia) (m) (by omega)) ⟨Ext.refl _, rfl⟩
            · refine stepY 14 true 32 rfl rfl (fun _ _ h => h) fun σ w1 hC h => ?_    -- t43 := (Op.indexAddr 22 (Operand.tmp 39) (Operand.tmp 42))
              have e39 : σ 39 = vt := h 39 (by decide)
              have e42 : σ 42 = .int .i64 (((ia) + (m) : Nat) : Int) := h 42 (by decide)
              exact YieldsK.atRB (l := T) (i := (ia) + (m)) del14_ty22 del14_sz5 (RB.of (hrt.keep (hE.trans hC)) e39) e42 (by omega) fun _ h => ⟨Ext.refl _, h⟩
            · refine stepY 14 true 32 rfl rfl (fun _ _ h => h) fun σ w1 hC h => ?_    -- t44 := (Op.load 5 (Operand.tmp 43))
              have e43 : (PCell (B8 (T.getD ((ia) + (m)) 0))) (σ 43) w1 := h 43 (by decide)
              exact YieldsK.loadC del14_ty5 rfl e43 ⟨Ext.refl _, rfl⟩
            · refine stepY 14 true 32 rfl rfl (fun _ _ h => h) fun σ w1 hC h => ?_    -- t45 := (Op.binOp BinOp.eql 5 (Operand.tmp 38) (Operand.tmp 44) 5)
              have e38 : σ 38 = B8 (B.getD ((q) + (m)) 0) := h 38 (by decide)
              have e44 : σ 44 = B8 (T.getD ((ia) + (m)) 0) := h 44 (by decide)
              exact YieldsK.eqI (a := (((B.getD ((q) + (m)) 0).toNat : Nat) : Int)) (b := (((T.getD ((ia) + (m)) 0).toNat : Nat) : Int)) e38 e44 (k_eql _ .u8 ((B.getD ((q) + (m)) 0).toNat) ((T.getD ((ia) + (m)) 0).toNat)) ⟨Ext.refl _, (congrArg Value.bool (decide_eq_false (fun h => h3 (UInt8.toNat_inj.1 h))))⟩
            · refine stepN rfl fun σ w1 hC h => ?_    -- t46 := (Op.pick (Operand.tmp 32) (Operand.tmp 45) (Operand.const (Value.bool false)))
              have e32 : σ 32 = .bool (true) := h 32 (by decide)
              have e45 : σ 45 = .bool (false) := h 45 (by decide)
              exact YieldsK.pickT e32 e45 ⟨Ext.refl _, rfl⟩
          intro ρ27 w28 hx29 he hf
          obtain ⟨-, -, -, -, -, -, -, -, -, -, -, -, -, -, -, -, -, -, -, -, -, -, -, -, -, -, -, -, k46, -⟩ := hf
          have T0 : ρ27 0 = vb := he.at_ T0 rfl
          have T1 : ρ27 1 = vt := he.at_ T1 rfl
          have T2 : ρ27 2 = .int .i64 ((ia : Nat) : Int) := he.at_ T2 rfl
          have T6 : ρ27 6 = .int .i64 ((0 : Nat) : Int) := he.at_ T6 rfl
          have T7 : ρ27 7 = .int .i64 ((0 : Nat) : Int) := he.at_ T7 rfl
          have T8 : ρ27 8 = .int .i64 ((p : Nat) : Int) := he.at_ T8 rfl
          have T9 : ρ27 9 = .int .i64 ((n : Nat) : Int) := he.at_ T9 rfl
          have T10 : ρ27 10 = .int .i64 ((q : Nat) : Int) := he.at_ T10 rfl
          have T11 : ρ27 11 = .int .i64 ((m : Nat) : Int) := he.at_ T11 rfl
          clear he
          have hE : Ext w w28 := (hE.trans hx29)
          have T46 : ρ27 46 = .bool (false) := k46
          clear k46
          refine thenF_normal (hK26 _ _ ?_)
          refine wpF_false (show _ = (.bool (false) : Value) from T46) ?_
          refine wpF_exit (thenF_exit (thenF_exit (inBlockF_hit ?_)))
          refine thenF_normal (hK16 _ _ ?_)
          refine wpF_seq_k fun K30 hK30 => ?_
          refine wpF_text ?_
          refine opsF_step rfl (YieldsK.move (show _ = (.int .i64 ((m : Nat) : Int) : Value) from T11) ?_)    -- ref.go:19 t49 := (Op.move (Operand.tmp 11))
          refine opsF_step rfl (YieldsK.move (show _ = (.int .i64 ((n : Nat) : Int) : Value) from T9) ?_)    -- ref.go:19 t50 := (Op.move (Operand.tmp 9))
          refine opsF_step rfl (YieldsK.eqI (a := ((m : Nat) : Int)) (b := ((n : Nat) : Int)) (show _ = (.int .i64 ((m : Nat) : Int) : Value) from rfl) (show _ = (.int .i64 ((n : Nat) : Int) : Value) from rfl) (k_gtr _ .i64 (m) (n)) ?_)    -- ref.go:19 t51 := (Op.binOp BinOp.gtr 3 (Operand.tmp 49) (Operand.tmp 50) 3)
          refine opsF_end (fun ρ => ρ 0 = (vb : Value) ∧ ρ 1 = (vt : Value) ∧ ρ 2 = (.int .i64 ((ia : Nat) : Int) : Value) ∧ ρ 6 = (.int .i64 ((0 : Nat) : Int) : Value) ∧ ρ 7 = (.int .i64 ((0 : Nat) : Int) : Value) ∧ ρ 8 = (.int .i64 ((p : Nat) : Int) : Value) ∧ ρ 9 = (.int .i64 ((n : Nat) : Int) : Value) ∧ ρ 10 = (.int .i64 ((q : Nat) : Int) : Value) ∧ ρ 11 = (.int .i64 ((m : Nat) : Int) : Value) ∧ ρ 46 = (.bool (false) : Value) ∧ ρ 51 = (.bool (decide ((n) < (m))) : Value) ∧ True) ⟨T0, T1, T2, T6, T7, T8, T9, T10, T11, T46, rfl, trivial⟩ fun ρ31 ⟨T0, T1, T2, T6, T7, T8, T9, T10, T11, T46, T51, _⟩ => ?_
          have hm : lcp (B.drop q) (T.drop ia) = m := by rw [hlc, hz0]; rfl
          refine thenF_normal (hK30 _ _ ?_)
          refine wpF_cond ((n) < (m)) (show _ = (.bool (decide ((n) < (m))) : Value) from T51) (fun hc2 => ?_) (fun hc2 => ?_)
          · refine wpF_text ?_
            refine opsF_step rfl (YieldsK.move (show _ = (.int .i64 ((q : Nat) : Int) : Value) from T10) ?_)    -- ref.go:20 t52 := (Op.move (Operand.tmp 10))
            refine opsF_step rfl (YieldsK.move (show _ = (.int .i64 ((m : Nat) : Int) : Value) from T11) ?_)    -- ref.go:20 t53 := (Op.move (Operand.tmp 11))
            refine opsF_step rfl (YieldsK.assign (show _ = (.int .i64 ((q : Nat) : Int) : Value) from rfl) ?_)    -- ref.go:20 t8 := (Op.assign (Operand.tmp 52))
            refine opsF_step rfl (YieldsK.assign (show _ = (.int .i64 ((m : Nat) : Int) : Value) from rfl) ?_)    -- ref.go:20 t9 := (Op.assign (Operand.tmp 53))
            refine opsF_end (fun ρ => ρ 0 = (vb : Value) ∧ ρ 1 = (vt : Value) ∧ ρ 2 = (.int .i64 ((ia : Nat) : Int) : Value) ∧ ρ 6 = (.int .i64 ((0 : Nat) : Int) : Value) ∧ ρ 7 = (.int .i64 ((0 : Nat) : Int) : Value) ∧ ρ 8 = (.int .i64 ((q : Nat) : Int) : Value) ∧ ρ 9 = (.int .i64 ((m : Nat) : Int) : Value) ∧ ρ 10 = (.int .i64 ((q : Nat) : Int) : Value) ∧ ρ 11 = (.int .i64 ((m : Nat) : Int) : Value) ∧ ρ 46 = (.bool (false) : Value) ∧ True) ⟨T0, T1, T2, T6, T7, rfl, rfl, T10, T11, T46, trivial⟩ fun ρ32 ⟨T0, T1, T2, T6, T7, T8, T9, T10, T11, T46, _⟩ => ?_
            refine inBlockF_normal ?_
            refine thenF_normal (hK13 _ _ ?_)
            refine wpF_text ?_
            refine opsF_step rfl (YieldsK.move (show _ = (.int .i64 ((q : Nat) : Int) : Value) from T10) ?_)    -- ref.go:14 t16 := (Op.move (Operand.tmp 10))
            refine opsF_step rfl (YieldsK.bin (xv := .int .i64 ((q : Nat) : Int)) (yv := .int .i64 ((1 : Nat) : Int)) (show _ = (.int .i64 ((q : Nat) : Int) : Value) from rfl) (show _ = (.int .i64 ((1 : Nat) : Int) : Value) from rfl) rfl (i64_add _ (q) (1) (by omega)) ?_)    -- ref.go:14 t17 := (Op.binOp BinOp.add 3 (Operand.tmp 16) (Operand.const (Value.int IntKind.i64 1)) 3)
            refine opsF_step rfl (YieldsK.assign (show _ = (.int .i64 (((q) + (1) : Nat) : Int) : Value) from rfl) ?_)    -- ref.go:14 t10 := (Op.assign (Operand.tmp 17))
            refine opsF_end (fun ρ => ρ 0 = (vb : Value) ∧ ρ 1 = (vt : Value) ∧ ρ 2 = (.int .i64 ((ia : Nat) : Int) : Value) ∧ ρ 6 = (.int .i64 ((0 : Nat) : Int) : Value) ∧ ρ 7 = (.int .i64 ((0 : Nat) : Int) : Value) ∧ ρ 8 = (.int .i64 ((q : Nat) : Int) : Value) ∧ ρ 9 = (.int .i64 ((m : Nat) : Int) : Value) ∧ ρ 10 = (.int .i64 (((q) + (1) : Nat) : Int) : Value) ∧ ρ 11 = (.int .i64 ((m : Nat) : Int) : Value) ∧ ρ 46 = (.bool (false) : Value) ∧ True) ⟨T0, T1, T2, T6, T7, T8, T9, rfl, T11, T46, trivial⟩ fun ρ33 ⟨T0, T1, T2, T6, T7, T8, T9, T10, T11, T46, _⟩ => ?_
            refine thenF_normal (And.intro ⟨q + 1, q, m, T0, T1, T2, T6, T7, T10, T8, T9, hE, by omega, by rw [List.range_succ, List.foldl_append, hbp, List.foldl_cons, List.foldl_nil, bstep, hm, if_pos hc2], by omega, by omega, trivial⟩ ?_)
            show B.length - (intOf (ρ33 10)).toNat < B.length - (intOf (ρ8 10)).toNat
            rw [T10, q10]
            simp only [intOf, Int.toNat_natCast]; omega
          · refine wpF_skip ?_
            refine inBlockF_normal ?_
            refine thenF_normal (hK13 _ _ ?_)
            refine wpF_text ?_
            refine opsF_step rfl (YieldsK.move (show _ = (.int .i64 ((q : Nat) : Int) : Value) from T10) ?_)    -- ref.go:14 t16 := (Op.move (Operand.tmp 10))
            refine opsF_step rfl (YieldsK.bin (xv := .int .i64 ((q : Nat) : Int)) (yv := .int .i64 ((1 : Nat) : Int)) (show _ = (.int .i64 ((q : Nat) : Int) : Value) from rfl) (show _ = (.int .i64 ((1 : Nat) : Int) : Value) from rfl) rfl (i64_add _ (q) (1) (by omega)) ?_)    -- ref.go:14 t17 := (Op.binOp BinOp.add 3 (Operand.tmp 16) (Operand.const (Value.int IntKind.i64 1)) 3)
            refine opsF_step rfl (YieldsK.assign (show _ = (.int .i64 (((q) + (1) : Nat) : Int) : Value) from rfl) ?_)    -- ref.go:14 t10 := (Op.assign (Operand.tmp 17))
            refine opsF_end (fun ρ => ρ 0 = (vb : Value) ∧ ρ 1 = (vt : Value) ∧ ρ 2 = (.int .i64 ((ia : Nat) : Int) : Value) ∧ ρ 6 = (.int .i64 ((0 : Nat) : Int) : Value) ∧ ρ 7 = (.int .i64 ((0 : Nat) : Int) : Value) ∧ ρ 8 = (.int .i64 ((p : Nat) : Int) : Value) ∧ ρ 9 = (.int .i64 ((n : Nat) : Int) : Value) ∧ ρ 10 = (.int .i64 (((q) + (1) : Nat) : Int) : Value) ∧ ρ 11 = (.int .i64 ((m : Nat) : Int) : Value) ∧ ρ 46 = (.bool (false) : Value) ∧ True) ⟨T0, T1, T2, T6, T7, T8, T9, rfl, T11, T46, trivial⟩ fun ρ34 ⟨T0, T1, T2, T6, T7, T8, T9, T10, T11, T46, _⟩ => ?_
            refine thenF_normal (And.intro ⟨q + 1, p, n, T0, T1, T2, T6, T7, T10, T8, T9, hE, by omega, by rw [List.range_succ, List.foldl_append, hbp, List.foldl_cons, List.foldl_nil, bstep, hm, if_neg hc2], by omega, by omega, trivial⟩ ?_)
            show B.length - (intOf (ρ34 10)).toNat < B.length - (intOf (ρ8 10)).toNat
            rw [T10, q10]
            simp only [intOf, Int.toNat_natCast]; omega
      · have hz0 := lcp_endB (a := B.drop q) (b := T.drop ia) (i := m) (by rw [List.length_drop]; omega)
        refine wpF_seq_k fun K35 hK35 => ?_
        refine wpF_seq_k fun K36 hK36 => ?_
        refine wpF_draw [Is (.int .i64 ((m : Nat) : Int)), Is (vb), Is (.int .i64 ((B.length : Nat) : Int)), Is (.int .i64 ((q : Nat) : Int)), Is (.int .i64 (((B.length) - (q) : Nat) : Int)), Is (.bool (true)), Is (.bool (true)), Is (.int .i64 ((m : Nat) : Int)), Is (vt), Is (.int .i64 ((T.length : Nat) : Int)), Is (.int .i64 ((ia : Nat) : Int)), Is (.int .i64 (((T.length) - (ia) : Nat) : Int)), Is (.bool (false)), Is (.bool (false)), Is (.bool (false)), Is undef, Is undef, Is undef, Is undef, Is undef, Is undef, Is undef, Is undef, Is undef, Is undef, Is undef, Is undef, Is undef, Is (.bool (false))] (by kernel_rfl) [18, 19, 20, 21, 22, 23, 24, 25, 26, 27, 28, 29, 30, 31, 32, 33, 34, 35, 36, 37, 38, 39, 40, 41, 42, 43, 44, 45, 46] (by kernel_rfl) (by kernel_rfl) ⟨Stab.is _, Stab.is _, Stab.is _, Stab.is _, Stab.is _, Stab.is _, Stab.is _, Stab.is _, Stab.is _, Stab.is _, Stab.is _, Stab.is _, Stab.is _, Stab.is _, Stab.is _, Stab.is _, Stab.is _, Stab.is _, Stab.is _, Stab.is _, Stab.is _, Stab.is _, Stab.is _, Stab.is _, Stab.is _, Stab.is _, Stab.is _, Stab.is _, Stab.is _, trivial⟩ ?hs3006 ?hQ3006
        case hs3006 =>
          refine ⟨?_, ?_, ?_, ?_, ?_, ?_, ?_, ?_, ?_, ?_, ?_, ?_, ?_, ?_, ?_, ?_, ?_, ?_, ?_, ?_, ?_, ?_, ?_, ?_, ?_, ?_, ?_, ?_, ?_, trivial⟩
          · refine stepN rfl fun σ w1 hC h => ?_    -- t18 := (Op.move (Operand.tmp 11))
            have e11 : σ 11 = .int .i64 ((m : Nat) : Int) := (show _ = _ from h 11 (by decide)).trans T11
            exact YieldsK.move e11 ⟨Ext.refl _, rfl⟩
          · refine stepN rfl fun σ w1 hC h => ?_    -- t19 := (Op.move (Operand.tmp 0))
            have e0 : σ 0 = vb := (show _ = _ from h 0 (by decide)).trans T0
            exact YieldsK.move e0 ⟨Ext.refl _, rfl⟩
          · refine stepN rfl fun σ w1 hC h => ?_    -- t20 := (Op.call { callee := (Callee.builtin Builtin.len), args := #[(Operand.tmp 19)], argTypes := #[22] })
            have e19 : σ 19 = vb := h 19 (by decide)
            exact YieldsK.lenRB del14_ty22 (RB.of (hrb.keep (hE.trans hC)) e19) ⟨Ext.refl _, rfl⟩
          · refine stepN rfl fun σ w1 hC h => ?_    -- t21 := (Op.move (Operand.tmp 10))
            have e10 : σ 10 = .int .i64 ((q : Nat) : Int) := (show _ = _ from h 10 (by decide)).trans T10
            exact YieldsK.move e10 ⟨Ext.refl _, rfl⟩
          · refine stepN rfl fun σ w1 hC h => ?_    -- t22 := (Op.binOp BinOp.sub 3 (Operand.tmp 20) (Operand.tmp 21) 3)
            have e20 : σ 20 = .int .i64 ((B.length : Nat) : Int) := h 20 (by decide)
            have e21 : σ 21 = .int .i64 ((q : Nat) : Int) := h 21 (by decide)
            exact YieldsK.bin (xv := .int .i64 ((B.length : Nat) : Int)) (yv := .int .i64 ((q : Nat) : Int)) e20 e21 rfl (i64_sub _ (B.length) (q) (by omega) (by omega)) ⟨Ext.refl _, rfl⟩
          · refine stepN rfl fun σ w1 hC h => ?_    -- t23 := (Op.binOp BinOp.lss 3 (Operand.tmp 18) (Operand.tmp 22) 3)
            have e18 : σ 18 = .int .i64 ((m : Nat) : Int) := h 18 (by decide)
            have e22 : σ 22 = .int .i64 (((B.length) - (q) : Nat) : Int) := h 22 (by decide)
            exact YieldsK.eqI (a := ((m : Nat) : Int)) (b := (((B.length) - (q) : Nat) : Int)) e18 e22 (k_lss _ .i64 (m) ((B.length) - (q))) ⟨Ext.refl _, (congrArg Value.bool (decide_eq_true (h1)))⟩
          · refine stepN rfl fun σ w1 hC h => ?_    -- t24 := (Op.move (Operand.tmp 23))
            have e23 : σ 23 = .bool (true) := h 23 (by decide)
            exact YieldsK.move e23 ⟨Ext.refl _, rfl⟩
          · refine stepY 6 true 24 rfl rfl (fun _ _ h => h) fun σ w1 hC h => ?_    -- t25 := (Op.move (Operand.tmp 11))
            have e11 : σ 11 = .int .i64 ((m : Nat) : Int) := (show _ = _ from h 11 (by decide)).trans T11
            exact YieldsK.move e11 ⟨Ext.refl _, rfl⟩
          · refine stepY 6 true 24 rfl rfl (fun _ _ h => h) fun σ w1 hC h => ?_    -- t26 := (Op.move (Operand.tmp 1))
            have e1 : σ 1 = vt := (show _ = _ from h 1 (by decide)).trans T1
            exact YieldsK.move e1 ⟨Ext.refl _, rfl⟩
          · refine stepY 6 true 24 rfl rfl (fun _ _ h => h) fun σ w1 hC h => ?_    -- t27 := (Op.call { callee := (Callee.builtin Builtin.len), args := #[(Operand.tmp 26)], argTypes := #[22] })
            have e26 : σ 26 = vt := h 26 (by decide)
            exact YieldsK.lenRB del14_ty22 (RB.of (hrt.keep (hE.trans hC)) e26) ⟨Ext.refl _, rfl⟩
          · refine stepY 6 true 24 rfl rfl (fun _ _ h => h) fun σ w1 hC h => ?_    -- t28 := (Op.move (Operand.tmp 2))
            have e2 : σ 2 = .int .i64 ((ia : Nat) : Int) := (show _ = _ from h 2 (by decide)).trans T2
            exact YieldsK.move e2 ⟨Ext.refl _, rfl⟩
          · refine stepY 6 true 24 rfl rfl (fun _ _ h => h) fun σ w1 hC h => ?_    -- t29 := (Op.binOp BinOp.sub 3 (Operand.tmp 27) (Operand.tmp 28) 3)
            have e27 : σ 27 = .int .i64 ((T.length : Nat) : Int) := h 27 (by decide)
            have e28 : σ 28 = .int .i64 ((ia : Nat) : Int) := h 28 (by decide)
            exact YieldsK.bin (xv := .int .i64 ((T.length : Nat) : Int)) (yv := .int .i64 ((ia : Nat) : Int)) e27 e28 rfl (i64_sub _ (T.length) (ia) (by omega) (by omega)) ⟨Ext.refl _, rfl⟩
          · refine stepY 6 true 24 rfl rfl (fun _ _ h => h) fun σ w1 hC h => ?_    -- t30 := (Op.binOp BinOp.lss 3 (Operand.tmp 25) (Operand.tmp 29) 3)
            have e25 : σ 25 = .int .i64 ((m : Nat) : Int) := h 25 (by decide)
            have e29 : σ 29 = .int .i64 (((T.length) - (ia) : Nat) : Int) := h 29 (by decide)
            exact YieldsK.eqI (a := ((m : Nat) : Int)) (b := (((T.length) - (ia) : Nat) : Int)) e25 e29 (k_lss _ .i64 (m) ((T.length) - (ia))) ⟨Ext.refl _, (congrArg Value.bool (decide_eq_false (h2)))⟩
          · refine stepN rfl fun σ w1 hC h => ?_    -- t31 := (Op.pick (Operand.tmp 24) (Operand.tmp 30) (Operand.const (Value.bool false)))
            have e24 : σ 24 = .bool (true) := h 24 (by decide)
            have e30 : σ 30 = .bool (false) := h 30 (by decide)
            exact YieldsK.pickT e24 e30 ⟨Ext.refl _, rfl⟩
          · refine stepN rfl fun σ w1 hC h => ?_    -- t32 := (Op.move (Operand.tmp 31))
            have e31 : σ 31 = .bool (false) := h 31 (by decide)
            exact YieldsK.move e31 ⟨Ext.refl _, rfl⟩
          · refine stepX 14 true 32 rfl rfl (fun x _ (h : x = .bool false) => by rw [h]; intro h; cases h) fun _ => rfl    -- (Go.Op.move (Go.Operand.tmp 0))
          · refine stepX 14 true 32 rfl rfl (fun x _ (h : x = .bool false) => by rw [h]; intro h; cases h) fun _ => rfl    -- (Go.Op.move (Go.Operand.tmp 10))
          · refine stepX 14 true 32 rfl rfl (fun x _ (h : x = .bool false) => by rw [h]; intro h; cases h) fun _ => rfl    -- (Go.Op.move (Go.Operand.tmp 11))
          · refine stepX 14 true 32 rfl rfl (fun x _ (h : x = .bool false) => by rw [h]; intro h; cases h) fun _ => rfl    -- (Go.Op.binOp Go.BinOp.add 3 (Go.Operand.tmp 34) (Go.Operand.tmp 35) 3)
          · refine stepX 14 true 32 rfl rfl (fun x _ (h : x = .bool false) => by rw [h]; intro h; cases h) fun _ => rfl    -- (Go.Op.indexAddr 22 (Go.Operand.tmp 33) (Go.Operand.tmp 36))
          · refine stepX 14 true 32 rfl rfl (fun x _ (h : x = .bool false) => by rw [h]; intro h; cases h) fun _ => rfl    -- (Go.Op.load 5 (Go.Operand.tmp 37))
          · refine stepX 14 true 32 rfl rfl (fun x _ (h : x = .bool false) => by rw [h]; intro h; cases h) fun _ => rfl    -- (Go.Op.move (Go.Operand.tmp 1))
          · refine stepX 14 true 32 rfl rfl (fun x _ (h : x = .bool false) => by rw [h]; intro h; cases h) fun _ => rfl    -- (Go.Op.move (Go.Operand.tmp 2))
          · refine stepX 14 true 32 rfl rfl (fun x _ (h : x = .bool false) => by rw [h]; intro h; cases h) fun _ => rfl    -- (Go.Op.move (Go.Operand.tmp 11))
          · refine stepX 14 true 32 rfl rfl (fun x _ (h : x = .bool false) => by rw [h]; intro h; cases h) fun _ => rfl    -- (Go.Op.binOp Go.BinOp.add 3 (Go.Operand.tmp 40) (Go.Operand.tmp 41) 3)
          · refine stepX 14 true 32 rfl rfl (fun x _ (h : x = .bool false) => by rw [h]; intro h; cases h) fun _ => rfl    -- (Go.Op.indexAddr 22 (Go.Operand.tmp 39) (Go.Operand.tmp 42))
          · refine stepX 14 true 32 rfl rfl (fun x _ (h : x = .bool false) => by rw [h]; intro h; cases h) fun _ => rfl    -- (Go.Op.load 5 (Go.Operand.tmp 43))
          · refine stepX 14 true 32 rfl rfl (fun x _ (h : x = .bool false) => by rw [h]; intro h; cases h) fun _ => rfl    -- (Go.Op.binOp Go.BinOp.eql 5 (Go.Operand.tmp 38) (Go.Operand.tmp 44) 5)
          · refine stepN rfl fun σ w1 hC h => ?_    -- t46 := (Op.pick (Operand.tmp 32) (Operand.tmp 45) (Operand.const (Value.bool false)))
            have e32 : σ 32 = .bool (false) := h 32 (by decide)
            exact YieldsK.pickF e32 (show _ = (.bool (false) : Value) from rfl) ⟨Ext.refl _, rfl⟩
        intro ρ37 w38 hx39 he hf
        obtain ⟨-, -, -, -, -, -, -, -, -, -, -, -, -, -, -, -, -, -, -, -, -, -, -, -, -, -, -, -, k46, -⟩ := hf
        have T0 : ρ37 0 = vb := he.at_ T0 rfl
        have T1 : ρ37 1 = vt := he.at_ T1 rfl
        have T2 : ρ37 2 = .int .i64 ((ia : Nat) : Int) := he.at_ T2 rfl
        have T6 : ρ37 6 = .int .i64 ((0 : Nat) : Int) := he.at_ T6 rfl
        have T7 : ρ37 7 = .int .i64 ((0 : Nat) : Int) := he.at_ T7 rfl
        have T8 : ρ37 8 = .int .i64 ((p : Nat) : Int) := he.at_ T8 rfl
        have T9 : ρ37 9 = .int .i64 ((n : Nat) : Int) := he.at_ T9 rfl
        have T10 : ρ37 10 = .int .i64 ((q : Nat) : Int) := he.at_ T10 rfl
        have T11 : ρ37 11 = .int .i64 ((m : Nat) : Int) := he.at_ T11 rfl
        clear he
        have hE : Ext w w38 := (hE.trans hx39)
        have T46 : ρ37 46 = .bool (false) := k46
        clear k46
        refine thenF_normal (hK36 _ _ ?_)
        refine wpF_false (show _ = (.bool (false) : Value) from T46) ?_
        refine wpF_exit (thenF_exit (thenF_exit (inBlockF_hit ?_)))
        refine thenF_normal (hK16 _ _ ?_)
        refine wpF_seq_k fun K40 hK40 => ?_
        refine wpF_text ?_
        refine opsF_step rfl (YieldsK.move (show _ = (.int .i64 ((m : Nat) : Int) : Value) from T11) ?_)    -- ref.go:19 t49 := (Op.move (Operand.tmp 11))
        refine opsF_step rfl (YieldsK.move (show _ = (.int .i64 ((n : Nat) : Int) : Value) from T9) ?_)    -- ref.go:19 t50 := (Op.move (Operand.tmp 9))
        refine opsF_step rfl (YieldsK.eqI (a := ((m : Nat) : Int)) (b := ((n : Nat) : Int)) (show _ = (.int .i64 ((m : Nat) : Int) : Value) from rfl) (show _ = (.int .i64 ((n : Nat) : Int) : Value) from rfl) (k_gtr _ .i64 (m) (n)) ?_)    -- ref.go:19 t51 := (Op.binOp BinOp.gtr 3 (Operand.tmp 49) (Operand.tmp 50) 3)
        refine opsF_end (fun ρ => ρ 0 = (vb : Value) ∧ ρ 1 = (vt : Value) ∧ ρ 2 = (.int .i64 ((ia : Nat) : Int) : Value) ∧ ρ 6 = (.int .i64 ((0 : Nat) : Int) : Value) ∧ ρ 7 = (.int .i64 ((0 : Nat) : Int) : Value) ∧ ρ 8 = (.int .i64 ((p : Nat) : Int) : Value) ∧ ρ 9 = (.int .i64 ((n : Nat) : Int) : Value) ∧ ρ 10 = (.int .i64 ((q : Nat) : Int) : Value) ∧ ρ 11 = (.int .i64 ((m : Nat) : Int) : Value) ∧ ρ 46 = (.bool (false) : Value) ∧ ρ 51 = (.bool (decide ((n) < (m))) : Value) ∧ True) ⟨T0, T1, T2, T6, T7, T8, T9, T10, T11, T46, rfl, trivial⟩ fun ρ41 ⟨T0, T1, T2, T6, T7, T8, T9, T10, T11, T46, T51, _⟩ => ?_
        have hm : lcp (B.drop q) (T.drop ia) = m := by rw [hlc, hz0]; rfl
        refine thenF_normal (hK40 _ _ ?_)
        refine wpF_cond ((n) < (m)) (show _ = (.bool (decide ((n) < (m))) : Value) from T51) (fun hc2 => ?_) (fun hc2 => ?_)
        · refine wpF_text ?_
          refine opsF_step rfl (YieldsK.move (show _ = (.int .i64 ((q : Nat) : Int) : Value) from T10) ?_)    -- ref.go:20 t52 := (Op.move (Operand.tmp 10))
          refine opsF_step rfl (YieldsK.move (show _ = (.int .i64 ((m : Nat) : Int) : Value) from T11) ?_)    -- ref.go:20 t53 := (Op.move (Operand.tmp 11))
          refine opsF_step rfl (YieldsK.assign (show _ = (.int .i64 ((q : Nat) : Int) : Value) from rfl) ?_)    -- ref.go:20 t8 := (Op.assign (Operand.tmp 52))
          refine opsF_step rfl (YieldsK.assign (show _ = (.int .i64 ((m : Nat) : Int) : Value) from rfl) ?_)    -- ref.go:20 t9 := (Op.assign (Operand.tmp 53))
          refine opsF_end (fun ρ => ρ 0 = (vb : Value) ∧ ρ 1 = (vt : Value) ∧ ρ 2 = (.int .i64 ((ia : Nat) : Int) : Value) ∧ ρ 6 = (.int .i64 ((0 : Nat) : Int) : Value) ∧ ρ 7 = (.int .i64 ((0 : Nat) : Int) : Value) ∧ ρ 8 = (.int .i64 ((q : Nat) : Int) : Value) ∧ ρ 9 = (.int .i64 ((m : Nat) : Int) : Value) ∧ ρ 10 = (.int .i64 ((q : Nat) : Int) : Value) ∧ ρ 11 = (.int .i64 ((m : Nat) : Int) : Value) ∧ ρ 46 = (.bool (false) : Value) ∧ True) ⟨T0, T1, T2, T6, T7, rfl, rfl, T10, T11, T46, trivial⟩ fun ρ42 ⟨T0, T1, T2, T6, T7, T8, T9, T10, T11, T46, _⟩ => ?_
          refine inBlockF_normal ?_
          refine thenF_normal (hK13 _ _ ?_)
          refine wpF_text ?_
          refine opsF_step rfl (YieldsK.move (show _ = (.int .i64 ((q : Nat) : Int) : Value) from T10) ?_)    -- ref.go:14 t16 := (Op.move (Operand.tmp 10))
          refine opsF_step rfl (YieldsK.bin (xv := .int .i64 ((q : Nat) : Int)) (yv := .int .i64 ((1 : Nat) : Int)) (show _ = (.int .i64 ((q : Nat) : Int) : Value) from rfl) (show _ = (.int .i64 ((1 : Nat) : Int) : Value) from rfl) rfl (i64_add _ (q) (1) (by omega)) ?_)    -- ref.go:14 t17 := (Op.binOp BinOp.add 3 (Operand.tmp 16) (Operand.const (Value.int IntKind.i64 1)) 3)
          refine opsF_step rfl (YieldsK.assign (show _ = (.int .i64 (((q) + (1) : Nat) : Int) : Value) from rfl) ?_)    -- ref.go:14 t10 := (Op.assign (Operand.tmp 17))
          refine opsF_end (fun ρ => ρ 0 = (vb : Value) ∧ ρ 1 = (vt : Value) ∧ ρ 2 = (.int .i64 ((ia : Nat) : Int) : Value) ∧ ρ 6 = (.int .i64 ((0 : Nat) : Int) : Value) ∧ ρ 7 = (.int .i64 ((0 : Nat) : Int) : Value) ∧ ρ 8 = (.int .i64 ((q : Nat) : Int) : Value) ∧ ρ 9 = (.int .i64 ((m : Nat) : Int) : Value) ∧ ρ 10 = (.int .i64 (((q) + (1) : Nat) : Int) : Value) ∧ ρ 11 = (.int .i64 ((m : Nat) : Int) : Value) ∧ ρ 46 = (.bool (false) : Value) ∧ True) ⟨T0, T1, T2, T6, T7, T8, T9, rfl, T11, T46, trivial⟩ fun ρ43 ⟨T0, T1, T2, T6, T7, T8, T9, T10, T11, T46, _⟩ => ?_
          refine thenF_normal (And.intro ⟨q + 1, q, m, T0, T1, T2, T6, T7, T10, T8, T9, hE, by omega, by rw [List.range_succ, List.foldl_append, hbp, List.foldl_cons, List.foldl_nil, bstep, hm, if_pos hc2], by omega, by omega, trivial⟩ ?_)
          show B.length - (intOf (ρ43 10)).toNat < B.length - (intOf (ρ8 10)).toNat
          rw [T10, q10]
          simp only [intOf, Int.toNat_natCast]; omega
        · refine wpF_skip ?_
          refine inBlockF_normal ?_
          refine thenF_normal (hK13 _ _ ?_)
          refine wpF_text ?_
          refine opsF_step rfl (YieldsK.move (show _ = (.int .i64 ((q : Nat) : Int) : Value) from T10) ?_)    -- ref.go:14 t16 := (Op.move (Operand.tmp 10))
          refine opsF_step rfl (YieldsK.bin (xv := .int .i64 ((q : Nat) : Int)) (yv := .int .i64 ((1 : Nat) : Int)) (show _ = (.int .i64 ((q : Nat) : Int) : Value) from rfl) (show _ = (.int .i64 ((1 : Nat) : Int) : Value) from rfl) rfl (i64_add _ (q) (1) (by omega)) ?_)    -- ref.go:14 t17 := (Op.binOp BinOp.add 3 (Operand.tmp 16) (Operand.const (Value.int IntKind.i64 1)) 3)
          refine opsF_step rfl (YieldsK.assign (show _ = (.int .i64 (((q) + (1) : Nat) : Int) : Value) from rfl) ?_)    -- ref.go:14 t10 := (Op.assign (Operand.tmp 17))
          refine opsF_end (fun ρ => ρ 0 = (vb : Value) ∧ ρ 1 = (vt : Value) ∧ ρ 2 = (.int .i64 ((ia : Nat) : Int) : Value) ∧ ρ 6 = (.int .i64 ((0 : Nat) : Int) : Value) ∧ ρ 7 = (.int .i64 ((0 : Nat) : Int) : Value) ∧ ρ 8 = (.int .i64 ((p : Nat) : Int) : Value) ∧ ρ 9 = (.int .i64 ((n : Nat) : Int) : Value) ∧ ρ 10 = (.int .i64 (((q) + (1) : Nat) : Int) : Value) ∧ ρ 11 = (.int .i64 ((m : Nat) : Int) : Value) ∧ ρ 46 = (.bool (false) : Value) ∧ True) ⟨T0, T1, T2, T6, T7, T8, T9, rfl, T11, T46, trivial⟩ fun ρ44 ⟨T0, T1, T2, T6, T7, T8, T9, T10, T11, T46, _⟩ => ?_
          refine thenF_normal (And.intro ⟨q + 1, p, n, T0, T1, T2, T6, T7, T10, T8, T9, hE, by omega, by rw [List.range_succ, List.foldl_append, hbp, List.foldl_cons, List.foldl_nil, bstep, hm, if_neg hc2], by omega, by omega, trivial⟩ ?_)
          show B.length - (intOf (ρ44 10)).toNat < B.length - (intOf (ρ8 10)).toNat
          rw [T10, q10]
          simp only [intOf, Int.toNat_natCast]; omega
    · have hz0 := lcp_endA (a := B.drop q) (b := T.drop ia) (i := m) (by rw [List.length_drop]; omega)
      refine wpF_seq_k fun K45 hK45 => ?_
      refine wpF_seq_k fun K46 hK46 => ?_
      refine wpF_draw [Is (.int .i64 ((m : Nat) : Int)), Is (vb), Is (.int .i64 ((B.length : Nat) : Int)), Is (.int .i64 ((q : Nat) : Int)), Is (.int .i64 (((B.length) - (q) : Nat) : Int)), Is (.bool (false)), Is (.bool (false)), Is undef, Is undef, Is undef, Is undef, Is undef, Is undef, Is (.bool (false)), Is (.bool (false)), Is undef, Is undef, Is undef, Is undef, Is undef, Is undef, Is undef, Is undef, Is undef, Is undef, Is undef, Is undef, Is undef, Is (.bool (false))] (by kernel_rfl) [18, 19, 20, 21, 22, 23, 24, 25, 26, 27, 28, 29, 30, 31, 32, 33, 34, 35, 36, 37, 38, 39, 40, 41, 42, 43, 44, 45, 46] (by kernel_rfl) (by kernel_rfl) ⟨Stab.is _, Stab.is _, Stab.is _, Stab.is _, Stab.is _, Stab.is _, Stab.is _, Stab.is _, Stab.is _, Stab.is _, Stab.is _, Stab.is _, Stab.is _, Stab.is _, Stab.is _, Stab.is _, Stab.is _, Stab.is _, Stab.is _, Stab.is _, Stab.is _, Stab.is _, Stab.is _, Stab.is _, Stab.is _, Stab.is _, Stab.is _, Stab.is _, Stab.is _, trivial⟩ ?hs4006 ?hQ4006
      case hs4006 =>
        refine ⟨?_, ?_, ?_, ?_, ?_, ?_, ?_, ?_, ?_, ?_, ?_, ?_, ?_, ?_, ?_, ?_, ?_, ?_, ?_, ?_, ?_, ?_, ?_, ?_, ?_, ?_, ?_, ?_, ?_, trivial⟩
        · refine stepN rfl fun σ w1 hC h => ?_    -- t18 := (Op.move (Operand.tmp 11))
          have e11 : σ 11 = .int .i64 ((m : Nat) : Int) := (show _ = _ from h 11 (by decide)).trans T11
          exact YieldsK.move e11 ⟨Ext.refl _, rfl⟩
        · refine stepN rfl fun σ w1 hC h => ?_    -- t19 := (Op.move (Operand.tmp 0))
          have e0 : σ 0 = vb := (show _ = _ from h 0 (by decide)).trans T0
          exact YieldsK.move e0 ⟨Ext.refl _, rfl⟩
        · refine stepN rfl fun σ w1 hC h => ?_    -- t20 := (Op.call { callee := (Callee.builtin Builtin.len), args := #[(Operand.tmp 19)], argTypes := #[22] })
          have e19 : σ 19 = vb := h 19 (by decide)
          exact YieldsK.lenRB del14_ty22 (RB.of (hrb.keep (hE.trans hC)) e19) ⟨Ext.refl _, rfl⟩
        · refine stepN rfl fun σ w1 hC h => ?_    -- t21 := (Op.move (Operand.tmp 10))
          have e10 : σ 10 = .int .i64 ((q : Nat) : Int) := (show _ = _ from h 10 (by decide)).trans T10
          exact YieldsK.move e10 ⟨Ext.refl _, rfl⟩
        · refine stepN rfl fun σ w1 hC h => ?_    -- t22 := (Op.binOp BinOp.sub 3 (Operand.tmp 20) (Operand.tmp 21) 3)
          have e20 : σ 20 = .int .i64 ((B.length : Nat) : Int) := h 20 (by decide)
          have e21 : σ 21 = .int .i64 ((q : Nat) : Int) := h 21 (by decide)
          exact YieldsK.bin (xv := .int .i64 ((B.length : Nat) : Int)) (yv := .int .i64 ((q : Nat) : Int)) e20 e21 rfl (i64_sub _ (B.length) (q) (by omega) (by omega)) ⟨Ext.refl _, rfl⟩
        · refine stepN rfl fun σ w1 hC h => ?_    -- t23 := (Op.binOp BinOp.lss 3 (Operand.tmp 18) (Operand.tmp 22) 3)
          have e18 : σ 18 = .int .i64 ((m : Nat) : Int) := h 18 (by decide)
          have e22 : σ 22 = .int .i64 (((B.length) - (q) : Nat) : Int) := h 22 (by decide)
          exact YieldsK.eqI (a := ((m : Nat) : Int)) (b := (((B.length) - (q) : Nat) : Int)) e18 e22 (k_lss _ .i64 (m) ((B.length) - (q))) ⟨Ext.refl _, (congrArg Value.bool (decide_eq_false (h1)))⟩
        · refine stepN rfl fun σ w1 hC h => ?_    -- t24 := (Op.move (Operand.tmp 23))
          have e23 : σ 23 = .bool (false) := h 23 (by decide)
          exact YieldsK.move e23 ⟨Ext.refl _, rfl⟩
        · refine stepX 6 true 24 rfl rfl (fun x _ (h : x = .bool false) => by rw [h]; intro h; cases h) fun _ => rfl    -- (Go.Op.move (Go.Operand.tmp 11))
        · refine stepX 6 true 24 rfl rfl (fun x _ (h : x = .bool false) => by rw [h]; intro h; cases h) fun _ => rfl    -- (Go.Op.move (Go.Operand.tmp 1))
        · refine stepX 6 true 24 rfl rfl (fun x _ (h : x = .bool false) => by rw [h]; intro h; cases h) fun _ => rfl    -- (Go.Op.call { callee := (Go.Callee.builtin Go.Builtin.len), args := #[(Go.Operand.tmp 26)]
        · refine stepX 6 true 24 rfl rfl (fun x _ (h : x = .bool false) => by rw [h]; intro h; cases h) fun _ => rfl    -- (Go.Op.move (Go.Operand.tmp 2))
        · refine stepX 6 true 24 rfl rfl (fun x _ (h : x = .bool false) => by rw [h]; intro h; cases h) fun _ => rfl    -- (Go.Op.binOp Go.BinOp.sub 3 (Go.Operand.tmp 27) (Go.Operand.tmp 28) 3)
        · refine stepX 6 true 24 rfl rfl (fun x _ (h : x = .bool false) => by rw [h]; intro h; cases h) fun _ => rfl    -- (Go.Op.binOp Go.BinOp.lss 3 (Go.Operand.tmp 25) (Go.Operand.tmp 29) 3)
        · refine stepN rfl fun σ w1 hC h => ?_    -- t31 := (Op.pick (Operand.tmp 24) (Operand.tmp 30) (Operand.const (Value.bool false)))
          have e24 : σ 24 = .bool (false) := h 24 (by decide)
          exact YieldsK.pickF e24 (show _ = (.bool (false) : Value) from rfl) ⟨Ext.refl _, rfl⟩
        · refine stepN rfl fun σ w1 hC h => ?_    -- t32 := (Op.move (Operand.tmp 31))
          have e31 : σ 31 = .bool (false) := h 31 (by decide)
          exact YieldsK.move e31 ⟨Ext.refl _, rfl⟩
        · refine stepX 14 true 32 rfl rfl (fun x _ (h : x = .bool false) => by rw [h]; intro h; cases h) fun _ => rfl    -- (Go.Op.move (Go.Operand.tmp 0))
        · refine stepX 14 true 32 rfl rfl (fun x _ (h : x = .bool false) => by rw [h]; intro h; cases h) fun _ => rfl    -- (Go.Op.move (Go.Operand.tmp 10))
        · refine stepX 14 true 32 rfl rfl (fun x _ (h : x = .bool false) => by rw [h]; intro h; cases h) fun _ => rfl    -- (Go.Op.move (Go.Operand.tmp 11))
        · refine stepX 14 true 32 rfl rfl (fun x _ (h : x = .bool false) => by rw [h]; intro h; cases h) fun _ => rfl    -- (Go.Op.binOp Go.BinOp.add 3 (Go.Operand.tmp 34) (Go.Operand.tmp 35) 3)
        · refine stepX 14 true 32 rfl rfl (fun x _ (h : x = .bool false) => by rw [h]; intro h; cases h) fun _ => rfl    -- (Go.Op.indexAddr 22 (Go.Operand.tmp 33) (Go.Operand.tmp 36))
        · refine stepX 14 true 32 rfl rfl (fun x _ (h : x = .bool false) => by rw [h]; intro h; cases h) fun _ => rfl    -- (Go.Op.load 5 (Go.Operand.tmp 37))
        · refine stepX 14 true 32 rfl rfl (fun x _ (h : x = .bool false) => by rw [h]; intro h; cases h) fun _ => rfl    -- (Go.Op.move (Go.Operand.tmp 1))
        · refine stepX 14 true 32 rfl rfl (fun x _ (h : x = .bool false) => by rw [h]; intro h; cases h) fun _ => rfl    -- (Go.Op.move (Go.Operand.tmp 2))
        · refine stepX 14 true 32 rfl rfl (fun x _ (h : x = .bool false) => by rw [h]; intro h; cases h) fun _ => rfl    -- (Go.Op.move (Go.Operand.tmp 11))
        · refine stepX 14 true 32 rfl rfl (fun x _ (h : x = .bool false) => by rw [h]; intro h; cases h) fun _ => rfl    -- (Go.Op.binOp Go.BinOp.add 3 (Go.Operand.tmp 40) (Go.Operand.tmp 41) 3)
        · refine stepX 14 true 32 rfl rfl (fun x _ (h : x = .bool false) => by rw [h]; intro h; cases h) fun _ => rfl    -- (Go.Op.indexAddr 22 (Go.Operand.tmp 39) (Go.Operand.tmp 42))
        · refine stepX 14 true 32 rfl rfl (fun x _ (h : x = .bool false) => by rw [h]; intro h; cases h) fun _ => rfl    -- (Go.Op.load 5 (Go.Operand.tmp 43))
        · refine stepX 14 true 32 rfl rfl (fun x _ (h : x = .bool false) => by rw [h]; intro h; cases h) fun _ => rfl    -- (Go.Op.binOp Go.BinOp.eql 5 (Go.Operand.tmp 38) (Go.Operand.tmp 44) 5)
        · refine stepN rfl fun σ w1 hC h => ?_    -- t46 := (Op.pick (Operand.tmp 32) (Operand.tmp 45) (Operand.const (Value.bool false)))
          have e32 : σ 32 = .bool (false) := h 32 (by decide)
          exact YieldsK.pickF e32 (show _ = (.bool (false) : Value) from rfl) ⟨Ext.refl _, rfl⟩
      intro ρ47 w48 hx49 he hf
      obtain ⟨-, -, -, -, -, -, -, -, -, -, -, -, -, -, -, -, -, -, -, -, -, -, -, -, -, -, -, -, k46, -⟩ := hf
      have T0 : ρ47 0 = vb := he.at_ T0 rfl
      have T1 : ρ47 1 = vt := he.at_ T1 rfl
      have T2 : ρ47 2 = .int .i64 ((ia : Nat) : Int) := he.at_ T2 rfl
      have T6 : ρ47 6 = .int .i64 ((0 : Nat) : Int) := he.at_ T6 rfl
      have T7 : ρ47 7 = .int .i64 ((0 : Nat) : Int) := he.at_ T7 rfl
      have T8 : ρ47 8 = .int .i64 ((p : Nat) : Int) := he.at_ T8 rfl
      have T9 : ρ47 9 = .int .i64 ((n : Nat) : Int) := he.at_ T9 rfl
      have T10 : ρ47 10 = .int .i64 ((q : Nat) : Int) := he.at_ T10 rfl
      have T11 : ρ47 11 = .int .i64 ((m : Nat) : Int) := he.at_ T11 rfl
      clear he
      have hE : Ext w w48 := (hE.trans hx49)
      have T46 : ρ47 46 = .bool (false) := k46
      clear k46
      refine thenF_normal (hK46 _ _ ?_)
      refine wpF_false (show _ = (.bool (false) : Value) from T46) ?_
      refine wpF_exit (thenF_exit (thenF_exit (inBlockF_hit ?_)))
      refine thenF_normal (hK16 _ _ ?_)
      refine wpF_seq_k fun K50 hK50 => ?_
      refine wpF_text ?_
      refine opsF_step rfl (YieldsK.move (show _ = (.int .i64 ((m : Nat) : Int) : Value) from T11) ?_)    -- ref.go:19 t49 := (Op.move (Operand.tmp 11))
      refine opsF_step rfl (YieldsK.move (show _ = (.int .i64 ((n : Nat) : Int) : Value) from T9) ?_)    -- ref.go:19 t50 := (Op.move (Operand.tmp 9))
      refine opsF_step rfl (YieldsK.eqI (a := ((m : Nat) : Int)) (b := ((n : Nat) : Int)) (show _ = (.int .i64 ((m : Nat) : Int) : Value) from rfl) (show _ = (.int .i64 ((n : Nat) : Int) : Value) from rfl) (k_gtr _ .i64 (m) (n)) ?_)    -- ref.go:19 t51 := (Op.binOp BinOp.gtr 3 (Operand.tmp 49) (Operand.tmp 50) 3)
      refine opsF_end (fun ρ => ρ 0 = (vb : Value) ∧ ρ 1 = (vt : Value) ∧ ρ 2 = (.int .i64 ((ia : Nat) : Int) : Value) ∧ ρ 6 = (.int .i64 ((0 : Nat) : Int) : Value) ∧ ρ 7 = (.int .i64 ((0 : Nat) : Int) : Value) ∧ ρ 8 = (.int .i64 ((p : Nat) : Int) : Value) ∧ ρ 9 = (.int .i64 ((n : Nat) : Int) : Value) ∧ ρ 10 = (.int .i64 ((q : Nat) : Int) : Value) ∧ ρ 11 = (.int .i64 ((m : Nat) : Int) : Value) ∧ ρ 46 = (.bool (false) : Value) ∧ ρ 51 = (.bool (decide ((n) < (m))) : Value) ∧ True) ⟨T0, T1, T2, T6, T7, T8, T9, T10, T11, T46, rfl, trivial⟩ fun ρ51 ⟨T0, T1, T2, T6, T7, T8, T9, T10, T11, T46, T51, _⟩ => ?_
      have hm : lcp (B.drop q) (T.drop ia) = m := by rw [hlc, hz0]; rfl
      refine thenF_normal (hK50 _ _ ?_)
      refine wpF_cond ((n) < (m)) (show _ = (.bool (decide ((n) < (m))) : Value) from T51) (fun hc2 => ?_) (fun hc2 => ?_)
      · refine wpF_text ?_
        refine opsF_step rfl (YieldsK.move (show _ = (.int .i64 ((q : Nat) : Int) : Value) from T10) ?_)    -- ref.go:20 t52 := (Op.move (Operand.tmp 10))
        refine opsF_step rfl (YieldsK.move (show _ = (.int .i64 ((m : Nat) : Int) : Value) from T11) ?_)    -- ref.go:20 t53 := (Op.move (Operand.tmp 11))
        refine opsF_step rfl (YieldsK.assign (show _ = (.int .i64 ((q : Nat) : Int) : Value) from rfl) ?_)    -- ref.go:20 t8 := (Op.assign (Operand.tmp 52))
        refine opsF_step rfl (YieldsK.assign (show _ = (.int .i64 ((m : Nat) : Int) : Value) from rfl) ?_)    -- ref.go:20 t9 := (Op.assign (Operand.tmp 53))
        refine opsF_end (fun ρ => ρ 0 = (vb : Value) ∧ ρ 1 = (vt : Value) ∧ ρ 2 = (.int .i64 ((ia : Nat) : Int) : Value) ∧ ρ 6 = (.int .i64 ((0 : Nat) : Int) : Value) ∧ ρ 7 = (.int .i64 ((0 : Nat) : Int) : Value) ∧ ρ 8 = (.int .i64 ((q : Nat) : Int) : Value) ∧ ρ 9 = (.int .i64 ((m : Nat) : Int) : Value) ∧ ρ 10 = (.int .i64 ((q : Nat) : Int) : Value) ∧ ρ 11 = (.int .i64 ((m : Nat) : Int) : Value) ∧ ρ 46 = (.bool (false) : Value) ∧ True) ⟨T0, T1, T2, T6, T7, rfl, rfl, T10, T11, T46, trivial⟩ fun ρ52 ⟨T0, T1, T2, T6, T7, T8, T9, T10, T11, T46, _⟩ => ?_
        refine inBlockF_normal ?_
        refine thenF_normal (hK13 _ _ ?_)
        refine wpF_text ?_
        refine opsF_step rfl (YieldsK.move (show _ = (.int .i64 ((q : Nat) : Int) : Value) from T10) ?_)    -- ref.go:14 t16 := (Op.move (Operand.tmp 10))
        refine opsF_step rfl (YieldsK.bin (xv := .int .i64 ((q : Nat) : Int)) (yv := .int .i64 ((1 : Nat) : Int)) (show _ = (.int .i64 ((q : Nat) : Int) : Value) from rfl) (show _ = (.int .i64 ((1 : Nat) : Int) : Value) from rfl) rfl (i64_add _ (q) (1) (by omega)) ?_)    -- ref.go:14 t17 := (Op.binOp BinOp.add 3 (Operand.tmp 16) (Operand.const (Value.int IntKind.i64 1)) 3)
        refine opsF_step rfl (YieldsK.assign (show _ = (.int .i64 (((q) + (1) : Nat) : Int) : Value) from rfl) ?_)    -- ref.go:14 t10 := (Op.assign (Operand.tmp 17))
        refine opsF_end (fun ρ => ρ 0 = (vb : Value) ∧ ρ 1 = (vt : Value) ∧ ρ 2 = (.int .i64 ((ia : Nat) : Int) : Value) ∧ ρ 6 = (.int .i64 ((0 : Nat) : Int) : Value) ∧ ρ 7 = (.int .i64 ((0 : Nat) : Int) : Value) ∧ ρ 8 = (.int .i64 ((q : Nat) : Int) : Value) ∧ ρ 9 = (.int .i64 ((m : Nat) : Int) : Value) ∧ ρ 10 = (.int .i64 (((q) + (1) : Nat) : Int) : Value) ∧ ρ 11 = (.int .i64 ((m : Nat) : Int) : Value) ∧ ρ 46 = (.bool (false) : Value) ∧ True) ⟨T0, T1, T2, T6, T7, T8, T9, rfl, T11, T46, trivial⟩ fun ρ53 ⟨T0, T1, T2, T6, T7, T8, T9, T10, T11, T46, _⟩ => ?_
        refine thenF_normal (And.intro ⟨q + 1, q, m, T0, T1, T2, T6, T7, T10, T8, T9, hE, by omega, by rw [List.range_succ, List.foldl_append, hbp, List.foldl_cons, List.foldl_nil, bstep, hm, if_pos hc2], by omega, by omega, trivial⟩ ?_)
        show B.length - (intOf (ρ53 10)).toNat < B.length - (intOf (ρ8 10)).toNat
        rw [T10, q10]
        simp only [intOf, Int.toNat_natCast]; omega
      · refine wpF_skip ?_
        refine inBlockF_normal ?_
        refine thenF_normal (hK13 _ _ ?_)
        refine wpF_text ?_
        refine opsF_step rfl (YieldsK.move (show _ = (.int .i64 ((q : Nat) : Int) : Value) from T10) ?_)    -- ref.go:14 t16 := (Op.move (Operand.tmp 10))
        refine opsF_step rfl (YieldsK.bin (xv := .int .i64 ((q : Nat) : Int)) (yv := .int .i64 ((1 : Nat) : Int)) (show _ = (.int .i64 ((q : Nat) : Int) : Value) from rfl) (show _ = (.int .i64 ((1 : Nat) : Int) : Value) from rfl) rfl (i64_add _ (q) (1) (by omega)) ?_)    -- ref.go:14 t17 := (Op.binOp BinOp.add 3 (Operand.tmp 16) (Operand.const (Value.int IntKind.i64 1)) 3)
        refine opsF_step rfl (YieldsK.assign (show _ = (.int .i64 (((q) + (1) : Nat) : Int) : Value) from rfl) ?_)    -- ref.go:14 t10 := (Op.assign (Operand.tmp 17))
        refine opsF_end (fun ρ => ρ 0 = (vb : Value) ∧ ρ 1 = (vt : Value) ∧ ρ 2 = (.int .i64 ((ia : Nat) : Int) : Value) ∧ ρ 6 = (.int .i64 ((0 : Nat) : Int) : Value) ∧ ρ 7 = (.int .i64 ((0 : Nat) : Int) : Value) ∧ ρ 8 = (.int .i64 ((p : Nat) : Int) : Value) ∧ ρ 9 = (.int .i64 ((n : Nat) : Int) : Value) ∧ ρ 10 = (.int .i64 (((q) + (1) : Nat) : Int) : Value) ∧ ρ 11 = (.int .i64 ((m : Nat) : Int) : Value) ∧ ρ 46 = (.bool (false) : Value) ∧ True) ⟨T0, T1, T2, T6, T7, T8, T9, rfl, T11, T46, trivial⟩ fun ρ54 ⟨T0, T1, T2, T6, T7, T8, T9, T10, T11, T46, _⟩ => ?_
        refine thenF_normal (And.intro ⟨q + 1, p, n, T0, T1, T2, T6, T7, T10, T8, T9, hE, by omega, by rw [List.range_succ, List.foldl_append, hbp, List.foldl_cons, List.foldl_nil, bstep, hm, if_neg hc2], by omega, by omega, trivial⟩ ?_)
        show B.length - (intOf (ρ54 10)).toNat < B.length - (intOf (ρ8 10)).toNat
        rw [T10, q10]
        simp only [intOf, Int.toNat_natCast]; omega
  · have hqe : q = B.length := by omega
    refine wpF_exit (thenF_exit (thenF_exit (inBlockF_hit ?_)))
    refine thenF_normal (hK5 _ _ ?_)
    refine wpF_seq_k fun K55 hK55 => ?_
    refine wpF_text ?_
    refine opsF_step rfl (YieldsK.move (show _ = (.int .i64 ((p : Nat) : Int) : Value) from T8) ?_)    -- ref.go:23 t54 := (Op.move (Operand.tmp 8))
    refine opsF_step rfl (YieldsK.move (show _ = (.int .i64 ((n : Nat) : Int) : Value) from T9) ?_)    -- ref.go:23 t55 := (Op.move (Operand.tmp 9))
    refine opsF_step rfl (YieldsK.assign (show _ = (.int .i64 ((p : Nat) : Int) : Value) from rfl) ?_)    -- ref.go:23 t6 := (Op.assign (Operand.tmp 54))
    refine opsF_step rfl (YieldsK.assign (show _ = (.int .i64 ((n : Nat) : Int) : Value) from rfl) ?_)    -- ref.go:23 t7 := (Op.assign (Operand.tmp 55))
    refine opsF_end (fun ρ => ρ 0 = (vb : Value) ∧ ρ 1 = (vt : Value) ∧ ρ 2 = (.int .i64 ((ia : Nat) : Int) : Value) ∧ ρ 6 = (.int .i64 ((p : Nat) : Int) : Value) ∧ ρ 7 = (.int .i64 ((n : Nat) : Int) : Value) ∧ ρ 8 = (.int .i64 ((p : Nat) : Int) : Value) ∧ ρ 9 = (.int .i64 ((n : Nat) : Int) : Value) ∧ ρ 10 = (.int .i64 ((q : Nat) : Int) : Value) ∧ True) ⟨T0, T1, T2, rfl, rfl, T8, T9, T10, trivial⟩ fun ρ56 ⟨T0, T1, T2, T6, T7, T8, T9, T10, _⟩ => ?_
    refine thenF_normal (hK55 _ _ ?_)
    refine wpF_ret ?_
    refine postF_ret (fn := Try.f21) _ rfl [.int .i64 ((p : Nat) : Int), .int .i64 ((n : Nat) : Int)] (.tuple #[.int .i64 ((p : Nat) : Int), .int .i64 ((n : Nat) : Int)]) rfl ⟨T6, T7, trivial⟩ ?_
    have hP : longP B T ia = (p, n) := by rw [longP, ← hqe, hbp]
    rw [hP]
    exact ⟨rfl, hE⟩
end Go.Proofs.Ytfjmbcjcgdfkfaa
