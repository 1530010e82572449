/- The reference's Get. -/
import Derived.Test.YtfjmbcjcgdfkfaaDelGet
namespace Go.Proofs.Ytfjmbcjcgdfkfaa
open Go.RowKit
theorem i64_dec (t : TypeId) (a : Nat) (h : a < 9223372036854775808) : Go.binOp .sub t (.int .i64 (a : Int)) (.int .i64 ((1 : Nat) : Int)) = pure (.int .i64 ((a : Int) - 1)) := by
  by_cases ha : 1 ≤ a
  · rw [i64_sub t a 1 h ha]
    congr 2
    omega
  · have : a = 0 := by omega
    subst this
    rfl
theorem del17_ty22 : Try.prog.underlying 22 = some (.slice 5) := by kernel_rfl
theorem del17_sz5 : ∀ w' : World, (sizeOf 5).run Try.prog w' = .ok 1 w' := fun _ => by kernel_rfl
theorem del17_ty5 : Try.prog.underlying 5 = some (.int .u8) := by kernel_rfl
theorem del17_ty3 : Try.prog.underlying 3 = some (.int .i64) := by kernel_rfl
theorem refGet_any (w : World) (v : Value) (l : List UInt8) (hr : RB w v l) (a : Nat) (ha : a ≤ l.length) (hl : l.length ≤ 1073741824) :
    Calls Try.prog 25 #[v, NI a] w fun e w' => e = .returned (getRes a (lebDec 0 (l.drop a))) ∧ Ext w w' := by
  refine calls_of_wpF (args := [v, .int .i64 ((a : Nat) : Int)]) Try.func25 rfl 71 rfl (Nat.le_of_ble_eq_true rfl) ?_
  intro ρ0 hb
  have T0 : ρ0 0 = (v : Value) := hb.get 0
  have T1 : ρ0 1 = (.int .i64 ((a : Nat) : Int) : Value) := hb.get 1
  clear hb
  have hE := Ext.refl w
  refine wpF_seq_k fun K1 hK1 => ?_
  refine wpF_text ?_
  refine opsF_step rfl (YieldsK.assign (show _ = (.int .i64 ((0 : Nat) : Int) : Value) from rfl) ?_)    -- ref.go:23 t4 := (Op.assign (Operand.const (Value.int IntKind.i64 0)))
  refine opsF_step rfl (YieldsK.assign (show _ = (.int .i64 ((0 : Nat) : Int) : Value) from rfl) ?_)    -- ref.go:23 t5 := (Op.assign (Operand.const (Value.int IntKind.i64 0)))
  refine opsF_step rfl (YieldsK.assign (show _ = (.int .i64 ((0 : Nat) : Int) : Value) from rfl) ?_)    -- ref.go:23 t6 := (Op.assign (Operand.const (Value.int IntKind.i64 0)))
  refine opsF_end (fun ρ => ρ 0 = (v : Value) ∧ ρ 1 = (.int .i64 ((a : Nat) : Int) : Value) ∧ ρ 4 = (.int .i64 ((0 : Nat) : Int) : Value) ∧ ρ 5 = (.int .i64 ((0 : Nat) : Int) : Value) ∧ ρ 6 = (.int .i64 ((0 : Nat) : Int) : Value) ∧ True) ⟨T0, T1, rfl, rfl, rfl, trivial⟩ fun ρ2 ⟨T0, T1, T4, T5, T6, _⟩ => ?_
  refine thenF_normal (hK1 _ _ ?_)
  refine wpF_seq_k fun K3 hK3 => ?_
  refine wpF_seq_k fun K4 hK4 => ?_
  refine wpF_text ?_
  refine opsF_step rfl (YieldsK.move (show _ = (.int .i64 ((a : Nat) : Int) : Value) from T1) ?_)    -- ref.go:24 t10 := (Op.move (Operand.tmp 1))
  refine opsF_step rfl (YieldsK.eqI (a := ((a : Nat) : Int)) (b := ((0 : Nat) : Int)) (show _ = (.int .i64 ((a : Nat) : Int) : Value) from rfl) (show _ = (.int .i64 ((0 : Nat) : Int) : Value) from rfl) (k_lss _ .i64 (a) (0)) ?_)    -- ref.go:24 t11 := (Op.binOp BinOp.lss 3 (Operand.tmp 10) (Operand.const (Value.int IntKind.i64 0)) 3)
  refine opsF_step rfl (YieldsK.move (show _ = (.bool (false) : Value) from (congrArg Value.bool (decide_eq_false (by omega)))) ?_)    -- ref.go:24 t12 := (Op.move (Operand.tmp 11))
  refine opsF_on (d := 12) rfl rfl (show _ = (.bool (false) : Value) from rfl) (YieldsK.move (show _ = (.int .i64 ((a : Nat) : Int) : Value) from T1) ?_)    -- ref.go:24 t13 := (Op.move (Operand.tmp 1))
  refine opsF_on (d := 12) rfl rfl (show _ = (.bool (false) : Value) from rfl) (YieldsK.move (show _ = (v : Value) from T0) ?_)    -- ref.go:24 t14 := (Op.move (Operand.tmp 0))
  refine opsF_on (d := 12) rfl rfl (show _ = (.bool (false) : Value) from rfl) (YieldsK.lenRB del17_ty22 (RB.of (hr.keep hE) (show _ = (v : Value) from rfl)) ?_)    -- ref.go:24 t15 := (Op.call { callee := (Callee.builtin Builtin.len), args := #[(Operand.tmp 14)], argTypes := #[22] })
  refine opsF_on (d := 12) rfl rfl (show _ = (.bool (false) : Value) from rfl) (YieldsK.eqI (a := ((a : Nat) : Int)) (b := ((l.length : Nat) : Int)) (show _ = (.int .i64 ((a : Nat) : Int) : Value) from rfl) (show _ = (.int .i64 ((l.length : Nat) : Int) : Value) from rfl) (k_gtr _ .i64 (a) (l.length)) ?_)    -- ref.go:24 t16 := (Op.binOp BinOp.gtr 3 (Operand.tmp 13) (Operand.tmp 15) 3)
  refine opsF_step rfl (YieldsK.pickF (show _ = (.bool (false) : Value) from rfl) (show _ = (.bool (false) : Value) from (congrArg Value.bool (decide_eq_false (by omega)))) ?_)    -- ref.go:24 t17 := (Op.pick (Operand.tmp 12) (Operand.const (Value.bool true)) (Operand.tmp 16))
  refine opsF_end (fun ρ => ρ 0 = (v : Value) ∧ ρ 1 = (.int .i64 ((a : Nat) : Int) : Value) ∧ ρ 4 = (.int .i64 ((0 : Nat) : Int) : Value) ∧ ρ 5 = (.int .i64 ((0 : Nat) : Int) : Value) ∧ ρ 6 = (.int .i64 ((0 : Nat) : Int) : Value) ∧ ρ 17 = (.bool (false) : Value) ∧ True) ⟨T0, T1, T4, T5, T6, rfl, trivial⟩ fun ρ5 ⟨T0, T1, T4, T5, T6, T17, _⟩ => ?_
  refine thenF_normal (hK4 _ _ ?_)
  refine wpF_false (show _ = (.bool (false) : Value) from T17) ?_
  refine wpF_skip ?_
  refine thenF_normal (hK3 _ _ ?_)
  refine wpF_seq_k fun K6 hK6 => ?_
  refine wpF_seq_k fun K7 hK7 => ?_
  refine wpF_text ?_
  refine opsF_step rfl (YieldsK.assign (show _ = (.int .i64 ((1 : Nat) : Int) : Value) from rfl) ?_)    -- ref.go:27 t7 := (Op.assign (Operand.const (Value.int IntKind.i64 1)))
  refine opsF_end (fun ρ => ρ 0 = (v : Value) ∧ ρ 1 = (.int .i64 ((a : Nat) : Int) : Value) ∧ ρ 4 = (.int .i64 ((0 : Nat) : Int) : Value) ∧ ρ 5 = (.int .i64 ((0 : Nat) : Int) : Value) ∧ ρ 6 = (.int .i64 ((0 : Nat) : Int) : Value) ∧ ρ 7 = (.int .i64 ((1 : Nat) : Int) : Value) ∧ ρ 17 = (.bool (false) : Value) ∧ True) ⟨T0, T1, T4, T5, T6, rfl, T17, trivial⟩ fun ρ8 ⟨T0, T1, T4, T5, T6, T7, T17, _⟩ => ?_
  refine thenF_normal (hK7 _ _ ?_)
  refine wpF_block ?_
  refine wpF_loop (fun (ρ : Slots) (wz : World) => ∃ j : Nat, ρ 0 = (v : Value) ∧ ρ 1 = (.int .i64 ((a : Nat) : Int) : Value) ∧ ρ 17 = (.bool (false) : Value) ∧ ρ 7 = (.int .i64 ((j + 1 : Nat) : Int) : Value) ∧ Ext w wz ∧ (j ≤ 9) ∧ (j ≤ l.length - a) ∧ (∀ t, t < j → 128 ≤ ((l.drop a).getD t 0).toNat) ∧ True) (fun ρ _ => 10 - (intOf (ρ 7)).toNat) ⟨0, T0, T1, T17, T7, hE, by omega, by omega, fun t ht => by omega, trivial⟩ ?_
  clear hE
  rintro ρ9 w10 ⟨j, T0, T1, T17, T7, hE, hj, hjl, hbig, -⟩
  have q7 := T7
  by_cases g1 : j < 9
  · by_cases g2 : j < l.length - a
    · have hix : l.getD (a + (j + 1) - 1) 0 = (l.drop a).getD j 0 := by rw [getD_drop0]; congr 1
      have hld : (l.drop a).length = l.length - a := List.length_drop
      refine wpF_seq_k fun K11 hK11 => ?_
      refine wpF_seq_k fun K12 hK12 => ?_
      refine wpF_text ?_
      refine opsF_step rfl (YieldsK.move (show _ = (.int .i64 ((j + 1 : Nat) : Int) : Value) from T7) ?_)    -- ref.go:27 t18 := (Op.move (Operand.tmp 7))
      refine opsF_step rfl (YieldsK.eqI (a := ((j + 1 : Nat) : Int)) (b := ((9 : Nat) : Int)) (show _ = (.int .i64 ((j + 1 : Nat) : Int) : Value) from rfl) (show _ = (.int .i64 ((9 : Nat) : Int) : Value) from rfl) (k_leq _ .i64 (j + 1) (9)) ?_)    -- ref.go:27 t19 := (Op.binOp BinOp.leq 3 (Operand.tmp 18) (Operand.const (Value.int IntKind.i64 9)) 3)
      refine opsF_step rfl (YieldsK.move (show _ = (.bool (true) : Value) from (congrArg Value.bool (decide_eq_true (by omega)))) ?_)    -- ref.go:27 t20 := (Op.move (Operand.tmp 19))
      refine opsF_on (d := 20) rfl rfl (show _ = (.bool (true) : Value) from rfl) (YieldsK.move (show _ = (.int .i64 ((j + 1 : Nat) : Int) : Value) from T7) ?_)    -- ref.go:27 t21 := (Op.move (Operand.tmp 7))
      refine opsF_on (d := 20) rfl rfl (show _ = (.bool (true) : Value) from rfl) (YieldsK.move (show _ = (v : Value) from T0) ?_)    -- ref.go:27 t22 := (Op.move (Operand.tmp 0))
      refine opsF_on (d := 20) rfl rfl (show _ = (.bool (true) : Value) from rfl) (YieldsK.lenRB del17_ty22 (RB.of (hr.keep hE) (show _ = (v : Value) from rfl)) ?_)    -- ref.go:27 t23 := (Op.call { callee := (Callee.builtin Builtin.len), args := #[(Operand.tmp 22)], argTypes := #[22] })
      refine opsF_on (d := 20) rfl rfl (show _ = (.bool (true) : Value) from rfl) (YieldsK.move (show _ = (.int .i64 ((a : Nat) : Int) : Value) from T1) ?_)    -- ref.go:27 t24 := (Op.move (Operand.tmp 1))
      refine opsF_on (d := 20) rfl rfl (show _ = (.bool (true) : Value) from rfl) (YieldsK.bin (xv := .int .i64 ((l.length : Nat) : Int)) (yv := .int .i64 ((a : Nat) : Int)) (show _ = (.int .i64 ((l.length : Nat) : Int) : Value) from rfl) (show _ = (.int .i64 ((a : Nat) : Int) : Value) from rfl) rfl (i64_sub _ (l.length) (a) (by omega) (by omega)) ?_)    -- ref.go:27 t25 := (Op.binOp BinOp.sub 3 (Operand.tmp 23) (Operand.tmp 24) 3)
      refine opsF_on (d := 20) rfl rfl (show _ = (.bool (true) : Value) from rfl) (YieldsK.eqI (a := ((j + 1 : Nat) : Int)) (b := (((l.length) - (a) : Nat) : Int)) (show _ = (.int .i64 ((j + 1 : Nat) : Int) : Value) from rfl) (show _ = (.int .i64 (((l.length) - (a) : Nat) : Int) : Value) from rfl) (k_leq _ .i64 (j + 1) ((l.length) - (a))) ?_)    -- ref.go:27 t26 := (Op.binOp BinOp.leq 3 (Operand.tmp 21) (Operand.tmp 25) 3)
      refine opsF_step rfl (YieldsK.pickT (show _ = (.bool (true) : Value) from rfl) (show _ = (.bool (true) : Value) from (congrArg Value.bool (decide_eq_true (by omega)))) ?_)    -- ref.go:27 t27 := (Op.pick (Operand.tmp 20) (Operand.tmp 26) (Operand.const (Value.bool false)))
      refine opsF_end (fun ρ => ρ 0 = (v : Value) ∧ ρ 1 = (.int .i64 ((a : Nat) : Int) : Value) ∧ ρ 7 = (.int .i64 ((j + 1 : Nat) : Int) : Value) ∧ ρ 17 = (.bool (false) : Value) ∧ ρ 27 = (.bool (true) : Value) ∧ True) ⟨T0, T1, T7, T17, rfl, trivial⟩ fun ρ13 ⟨T0, T1, T7, T17, T27, _⟩ => ?_
      refine thenF_normal (hK12 _ _ ?_)
      refine wpF_true (show _ = (.bool (true) : Value) from T27) ?_
      refine wpF_skip ?_
      refine thenF_normal (hK11 _ _ ?_)
      refine wpF_seq_k fun K14 hK14 => ?_
      refine wpF_block ?_
      refine wpF_seq_k fun K15 hK15 => ?_
      refine wpF_seq_k fun K16 hK16 => ?_
      refine wpF_text ?_
      refine opsF_step rfl (YieldsK.move (show _ = (v : Value) from T0) ?_)    -- ref.go:28 t30 := (Op.move (Operand.tmp 0))
      refine opsF_step rfl (YieldsK.move (show _ = (.int .i64 ((a : Nat) : Int) : Value) from T1) ?_)    -- ref.go:28 t31 := (Op.move (Operand.tmp 1))
      refine opsF_step rfl (YieldsK.move (show _ = (.int .i64 ((j + 1 : Nat) : Int) : Value) from T7) ?_)    -- ref.go:28 t32 := (Op.move (Operand.tmp 7))
      refine opsF_step rfl (YieldsK.bin (xv := .int .i64 ((a : Nat) : Int)) (yv := .int .i64 ((j + 1 : Nat) : Int)) (show _ = (.int .i64 ((a : Nat) : Int) : Value) from rfl) (show _ = (.int .i64 ((j + 1 : Nat) : Int) : Value) from rfl) rfl (i64_add _ (a) (j + 1) (by omega)) ?_)    -- ref.go:28 t33 := (Op.binOp BinOp.add 3 (Operand.tmp 31) (Operand.tmp 32) 3)
      refine opsF_step rfl (YieldsK.bin (xv := .int .i64 (((a) + (j + 1) : Nat) : Int)) (yv := .int .i64 ((1 : Nat) : Int)) (show _ = (.int .i64 (((a) + (j + 1) : Nat) : Int) : Value) from rfl) (show _ = (.int .i64 ((1 : Nat) : Int) : Value) from rfl) rfl (i64_sub _ ((a) + (j + 1)) (1) (by omega) (by omega)) ?_)    -- ref.go:28 t34 := (Op.binOp BinOp.sub 3 (Operand.tmp 33) (Operand.const (Value.int IntKind.i64 1)) 3)
      refine opsF_step rfl (YieldsK.atRB (l := l) (i := ((a) + (j + 1)) - (1)) del17_ty22 del17_sz5 (RB.of (hr.keep hE) (show _ = (v : Value) from rfl)) (show _ = (.int .i64 ((((a) + (j + 1)) - (1) : Nat) : Int) : Value) from rfl) (by omega) fun v17 hp18 => ?_)    -- ref.go:28 t35 := (Op.indexAddr 22 (Operand.tmp 30) (Operand.tmp 34))
      refine opsF_step rfl (YieldsK.loadC del17_ty5 rfl (PCell.of hp18 (show _ = (v17 : Value) from rfl)) ?_)    -- ref.go:28 t36 := (Op.load 5 (Operand.tmp 35))
      refine opsF_step rfl (YieldsK.eqI (a := (((l.getD (((a) + (j + 1)) - (1)) 0).toNat : Nat) : Int)) (b := ((128 : Nat) : Int)) (show _ = (B8 (l.getD (((a) + (j + 1)) - (1)) 0) : Value) from rfl) (show _ = (B8 (128) : Value) from rfl) (k_geq _ .u8 ((l.getD (((a) + (j + 1)) - (1)) 0).toNat) (128)) ?_)    -- ref.go:28 t37 := (Op.binOp BinOp.geq 5 (Operand.tmp 36) (Operand.const (Value.int IntKind.u8 128)) 5)
      refine opsF_end (fun ρ => ρ 0 = (v : Value) ∧ ρ 1 = (.int .i64 ((a : Nat) : Int) : Value) ∧ ρ 7 = (.int .i64 ((j + 1 : Nat) : Int) : Value) ∧ ρ 17 = (.bool (false) : Value) ∧ ρ 27 = (.bool (true) : Value) ∧ ρ 37 = (.bool (decide ((128) ≤ ((l.getD (((a) + (j + 1)) - (1)) 0).toNat))) : Value) ∧ True) ⟨T0, T1, T7, T17, T27, rfl, trivial⟩ fun ρ19 ⟨T0, T1, T7, T17, T27, T37, _⟩ => ?_
      clear hp18
      refine thenF_normal (hK16 _ _ ?_)
      refine wpF_cond ((128) ≤ ((l.getD (((a) + (j + 1)) - (1)) 0).toNat)) (show _ = (.bool (decide ((128) ≤ ((l.getD (((a) + (j + 1)) - (1)) 0).toNat))) : Value) from T37) (fun hc2 => ?_) (fun hc2 => ?_)
      · refine wpF_exit (thenF_exit (inBlockF_hit ?_))
        refine thenF_normal (hK14 _ _ ?_)
        refine wpF_text ?_
        refine opsF_step rfl (YieldsK.move (show _ = (.int .i64 ((j + 1 : Nat) : Int) : Value) from T7) ?_)    -- ref.go:27 t28 := (Op.move (Operand.tmp 7))
        refine opsF_step rfl (YieldsK.bin (xv := .int .i64 ((j + 1 : Nat) : Int)) (yv := .int .i64 ((1 : Nat) : Int)) (show _ = (.int .i64 ((j + 1 : Nat) : Int) : Value) from rfl) (show _ = (.int .i64 ((1 : Nat) : Int) : Value) from rfl) rfl (i64_add _ (j + 1) (1) (by omega)) ?_)    -- ref.go:27 t29 := (Op.binOp BinOp.add 3 (Operand.tmp 28) (Operand.const (Value.int IntKind.i64 1)) 3)
        refine opsF_step rfl (YieldsK.assign (show _ = (.int .i64 (((j + 1) + (1) : Nat) : Int) : Value) from rfl) ?_)    -- ref.go:27 t7 := (Op.assign (Operand.tmp 29))
        refine opsF_end (fun ρ => ρ 0 = (v : Value) ∧ ρ 1 = (.int .i64 ((a : Nat) : Int) : Value) ∧ ρ 7 = (.int .i64 (((j + 1) + (1) : Nat) : Int) : Value) ∧ ρ 17 = (.bool (false) : Value) ∧ ρ 27 = (.bool (true) : Value) ∧ True) ⟨T0, T1, rfl, T17, T27, trivial⟩ fun ρ20 ⟨T0, T1, T7, T17, T27, _⟩ => ?_
        refine thenF_normal (And.intro ⟨j + 1, T0, T1, T17, T7, hE, by omega, by omega, fun t ht => by by_cases e : t = j; (rw [e, ← hix]; exact hc2); exact hbig t (by omega), trivial⟩ ?_)
        show 10 - (intOf (ρ20 7)).toNat < 10 - (intOf (ρ9 7)).toNat
        rw [T7, q7]
        simp only [intOf, Int.toNat_natCast]; omega
      · by_cases z1 : 1 < j + 1
        · refine wpF_skip ?_
          refine thenF_normal (hK15 _ _ ?_)
          refine wpF_seq_k fun K21 hK21 => ?_
          refine wpF_seq_k fun K22 hK22 => ?_
          refine wpF_text ?_
          refine opsF_step rfl (YieldsK.move (show _ = (.int .i64 ((j + 1 : Nat) : Int) : Value) from T7) ?_)    -- ref.go:31 t38 := (Op.move (Operand.tmp 7))
          refine opsF_step rfl (YieldsK.eqI (a := ((j + 1 : Nat) : Int)) (b := ((1 : Nat) : Int)) (show _ = (.int .i64 ((j + 1 : Nat) : Int) : Value) from rfl) (show _ = (.int .i64 ((1 : Nat) : Int) : Value) from rfl) (k_gtr _ .i64 (j + 1) (1)) ?_)    -- ref.go:31 t39 := (Op.binOp BinOp.gtr 3 (Operand.tmp 38) (Operand.const (Value.int IntKind.i64 1)) 3)
          refine opsF_step rfl (YieldsK.move (show _ = (.bool (true) : Value) from (congrArg Value.bool (decide_eq_true (z1)))) ?_)    -- ref.go:31 t40 := (Op.move (Operand.tmp 39))
          refine opsF_on (d := 40) rfl rfl (show _ = (.bool (true) : Value) from rfl) (YieldsK.move (show _ = (v : Value) from T0) ?_)    -- ref.go:31 t41 := (Op.move (Operand.tmp 0))
          refine opsF_on (d := 40) rfl rfl (show _ = (.bool (true) : Value) from rfl) (YieldsK.move (show _ = (.int .i64 ((a : Nat) : Int) : Value) from T1) ?_)    -- ref.go:31 t42 := (Op.move (Operand.tmp 1))
          refine opsF_on (d := 40) rfl rfl (show _ = (.bool (true) : Value) from rfl) (YieldsK.move (show _ = (.int .i64 ((j + 1 : Nat) : Int) : Value) from T7) ?_)    -- ref.go:31 t43 := (Op.move (Operand.tmp 7))
          refine opsF_on (d := 40) rfl rfl (show _ = (.bool (true) : Value) from rfl) (YieldsK.bin (xv := .int .i64 ((a : Nat) : Int)) (yv := .int .i64 ((j + 1 : Nat) : Int)) (show _ = (.int .i64 ((a : Nat) : Int) : Value) from rfl) (show _ = (.int .i64 ((j + 1 : Nat) : Int) : Value) from rfl) rfl (i64_add _ (a) (j + 1) (by omega)) ?_)    -- ref.go:31 t44 := (Op.binOp BinOp.add 3 (Operand.tmp 42) (Operand.tmp 43) 3)
          refine opsF_on (d := 40) rfl rfl (show _ = (.bool (true) : Value) from rfl) (YieldsK.bin (xv := .int .i64 (((a) + (j + 1) : Nat) : Int)) (yv := .int .i64 ((1 : Nat) : Int)) (show _ = (.int .i64 (((a) + (j + 1) : Nat) : Int) : Value) from rfl) (show _ = (.int .i64 ((1 : Nat) : Int) : Value) from rfl) rfl (i64_sub _ ((a) + (j + 1)) (1) (by omega) (by omega)) ?_)    -- ref.go:31 t45 := (Op.binOp BinOp.sub 3 (Operand.tmp 44) (Operand.const (Value.int IntKind.i64 1)) 3)
          refine opsF_on (d := 40) rfl rfl (show _ = (.bool (true) : Value) from rfl) (YieldsK.atRB (l := l) (i := ((a) + (j + 1)) - (1)) del17_ty22 del17_sz5 (RB.of (hr.keep hE) (show _ = (v : Value) from rfl)) (show _ = (.int .i64 ((((a) + (j + 1)) - (1) : Nat) : Int) : Value) from rfl) (by omega) fun v23 hp24 => ?_)    -- ref.go:31 t46 := (Op.indexAddr 22 (Operand.tmp 41) (Operand.tmp 45))
          refine opsF_on (d := 40) rfl rfl (show _ = (.bool (true) : Value) from rfl) (YieldsK.loadC del17_ty5 rfl (PCell.of hp24 (show _ = (v23 : Value) from rfl)) ?_)    -- ref.go:31 t47 := (Op.load 5 (Operand.tmp 46))
          refine opsF_on (d := 40) rfl rfl (show _ = (.bool (true) : Value) from rfl) (YieldsK.eqI (a := (((l.getD (((a) + (j + 1)) - (1)) 0).toNat : Nat) : Int)) (b := ((0 : Nat) : Int)) (show _ = (B8 (l.getD (((a) + (j + 1)) - (1)) 0) : Value) from rfl) (show _ = (B8 (0) : Value) from rfl) (k_eql _ .u8 ((l.getD (((a) + (j + 1)) - (1)) 0).toNat) (0)) ?_)    -- ref.go:31 t48 := (Op.binOp BinOp.eql 5 (Operand.tmp 47) (Operand.const (Value.int IntKind.u8 0)) 5)
          refine opsF_step rfl (YieldsK.pickT (show _ = (.bool (true) : Value) from rfl) (show _ = (.bool (decide (((l.getD (((a) + (j + 1)) - (1)) 0).toNat : Nat) = (0))) : Value) from rfl) ?_)    -- ref.go:31 t49 := (Op.pick (Operand.tmp 40) (Operand.tmp 48) (Operand.const (Value.bool false)))
          refine opsF_end (fun ρ => ρ 0 = (v : Value) ∧ ρ 1 = (.int .i64 ((a : Nat) : Int) : Value) ∧ ρ 7 = (.int .i64 ((j + 1 : Nat) : Int) : Value) ∧ ρ 17 = (.bool (false) : Value) ∧ ρ 27 = (.bool (true) : Value) ∧ ρ 49 = (.bool (decide (((l.getD (((a) + (j + 1)) - (1)) 0).toNat : Nat) = (0))) : Value) ∧ True) ⟨T0, T1, T7, T17, T27, rfl, trivial⟩ fun ρ25 ⟨T0, T1, T7, T17, T27, T49, _⟩ => ?_
          clear hp24
          refine thenF_normal (hK22 _ _ ?_)
          refine wpF_cond (((l.getD (((a) + (j + 1)) - (1)) 0).toNat : Nat) = (0)) (show _ = (.bool (decide (((l.getD (((a) + (j + 1)) - (1)) 0).toNat : Nat) = (0))) : Value) from T49) (fun hc3 => ?_) (fun hc3 => ?_)
          · refine wpF_seq_k fun K26 hK26 => ?_
            refine wpF_text ?_
            refine opsF_step rfl (YieldsK.assign (show _ = (.int .i64 ((0 : Nat) : Int) : Value) from rfl) ?_)    -- ref.go:32 t4 := (Op.assign (Operand.const (Value.int IntKind.i64 0)))
            refine opsF_step rfl (YieldsK.assign (show _ = (.int .i64 ((0 : Nat) : Int) : Value) from rfl) ?_)    -- ref.go:32 t5 := (Op.assign (Operand.const (Value.int IntKind.i64 0)))
            refine opsF_step rfl (YieldsK.assign (show _ = (.int .i64 ((6 : Nat) : Int) : Value) from rfl) ?_)    -- ref.go:32 t6 := (Op.assign (Operand.const (Value.int IntKind.i64 6)))
            refine opsF_end (fun ρ => ρ 0 = (v : Value) ∧ ρ 1 = (.int .i64 ((a : Nat) : Int) : Value) ∧ ρ 4 = (.int .i64 ((0 : Nat) : Int) : Value) ∧ ρ 5 = (.int .i64 ((0 : Nat) : Int) : Value) ∧ ρ 6 = (.int .i64 ((6 : Nat) : Int) : Value) ∧ ρ 7 = (.int .i64 ((j + 1 : Nat) : Int) : Value) ∧ ρ 17 = (.bool (false) : Value) ∧ ρ 27 = (.bool (true) : Value) ∧ True) ⟨T0, T1, rfl, rfl, rfl, T7, T17, T27, trivial⟩ fun ρ27 ⟨T0, T1, T4, T5, T6, T7, T17, T27, _⟩ => ?_
            refine thenF_normal (hK26 _ _ ?_)
            refine wpF_ret (thenF_ret (inBlockF_ret (thenF_ret (thenF_ret (inBlockF_ret (thenF_ret ?_))))))
            refine postF_ret (fn := Try.f25) _ rfl [.int .i64 ((0 : Nat) : Int), .int .i64 ((0 : Nat) : Int), .int .i64 ((6 : Nat) : Int)] (.tuple #[.int .i64 ((0 : Nat) : Int), .int .i64 ((0 : Nat) : Int), .int .i64 ((6 : Nat) : Int)]) rfl ⟨T4, T5, T6, trivial⟩ ?_
            have hno : lebDec 0 (l.drop a) = none := lebDec_zero j 0 _ hbig (by omega) (by rw [← hix]; exact hc3) (by omega)
            rw [hno]
            exact ⟨rfl, hE⟩
          · refine wpF_skip ?_
            refine thenF_normal (hK21 _ _ ?_)
            refine wpF_seq_k fun K28 hK28 => ?_
            refine wpF_text ?_
            refine opsF_step rfl (YieldsK.assign (show _ = (.int .i64 ((0 : Nat) : Int) : Value) from rfl) ?_)    -- ref.go:34 t8 := (Op.assign (Operand.const (Value.int IntKind.i64 0)))
            refine opsF_end (fun ρ => ρ 0 = (v : Value) ∧ ρ 1 = (.int .i64 ((a : Nat) : Int) : Value) ∧ ρ 7 = (.int .i64 ((j + 1 : Nat) : Int) : Value) ∧ ρ 8 = (.int .i64 ((0 : Nat) : Int) : Value) ∧ ρ 17 = (.bool (false) : Value) ∧ ρ 27 = (.bool (true) : Value) ∧ True) ⟨T0, T1, T7, rfl, T17, T27, trivial⟩ fun ρ29 ⟨T0, T1, T7, T8, T17, T27, _⟩ => ?_
            refine thenF_normal (hK28 _ _ ?_)
            refine wpF_seq_k fun K30 hK30 => ?_
            refine wpF_seq_k fun K31 hK31 => ?_
            refine wpF_text ?_
            refine opsF_step rfl (YieldsK.move (show _ = (.int .i64 ((j + 1 : Nat) : Int) : Value) from T7) ?_)    -- ref.go:35 t50 := (Op.move (Operand.tmp 7))
            refine opsF_step rfl (YieldsK.bin (xv := .int .i64 ((j + 1 : Nat) : Int)) (yv := .int .i64 ((1 : Nat) : Int)) (show _ = (.int .i64 ((j + 1 : Nat) : Int) : Value) from rfl) (show _ = (.int .i64 ((1 : Nat) : Int) : Value) from rfl) rfl (i64_sub _ (j + 1) (1) (by omega) (by omega)) ?_)    -- ref.go:35 t51 := (Op.binOp BinOp.sub 3 (Operand.tmp 50) (Operand.const (Value.int IntKind.i64 1)) 3)
            refine opsF_step rfl (YieldsK.assign (show _ = (.int .i64 (((j + 1) - (1) : Nat) : Int) : Value) from rfl) ?_)    -- ref.go:35 t9 := (Op.assign (Operand.tmp 51))
            refine opsF_end (fun ρ => ρ 0 = (v : Value) ∧ ρ 1 = (.int .i64 ((a : Nat) : Int) : Value) ∧ ρ 7 = (.int .i64 ((j + 1 : Nat) : Int) : Value) ∧ ρ 8 = (.int .i64 ((0 : Nat) : Int) : Value) ∧ ρ 9 = (.int .i64 (((j + 1) - (1) : Nat) : Int) : Value) ∧ ρ 17 = (.bool (false) : Value) ∧ ρ 27 = (.bool (true) : Value) ∧ True) ⟨T0, T1, T7, T8, rfl, T17, T27, trivial⟩ fun ρ32 ⟨T0, T1, T7, T8, T9, T17, T27, _⟩ => ?_
            refine thenF_normal (hK31 _ _ ?_)
            refine wpF_block ?_
            refine wpF_loop (fun (ρ : Slots) (wz : World) => ∃ i : Nat, ∃ n : Nat, ρ 0 = (v : Value) ∧ ρ 1 = (.int .i64 ((a : Nat) : Int) : Value) ∧ ρ 7 = (.int .i64 ((j + 1 : Nat) : Int) : Value) ∧ ρ 17 = (.bool (false) : Value) ∧ ρ 27 = (.bool (true) : Value) ∧ ρ 9 = (.int .i64 ((i : Int) - 1 : Int) : Value) ∧ ρ 8 = (.int .i64 ((n : Nat) : Int) : Value) ∧ Ext w wz ∧ (i ≤ j + 1) ∧ (n = valL (((l.drop a).take (j + 1)).drop i)) ∧ True) (fun ρ _ => ((match (ρ 9) with | .int _ z => z + 1 | _ => 0) : Int).toNat) ⟨j + 1, 0, T0, T1, T7, T17, T27, (show _ = _ from T9.trans (congrArg (Value.int .i64) (by omega))), T8, hE, Nat.le_refl _, by rw [List.drop_of_length_le (by rw [List.length_take]; omega)]; rfl, trivial⟩ ?_
            clear hE
            rintro ρ33 w34 ⟨i, n, T0, T1, T7, T17, T27, T9, T8, hE, hij, hn, -⟩
            have q9 := T9
            refine wpF_seq_k fun K35 hK35 => ?_
            refine wpF_seq_k fun K36 hK36 => ?_
            refine wpF_text ?_
            refine opsF_step rfl (YieldsK.move (show _ = (.int .i64 ((i : Int) - 1 : Int) : Value) from T9) ?_)    -- ref.go:35 t52 := (Op.move (Operand.tmp 9))
            refine opsF_step rfl (YieldsK.eqI (show _ = (.int .i64 ((i : Int) - 1 : Int) : Value) from rfl) (show _ = (.int .i64 ((0 : Nat) : Int) : Value) from rfl) (z_geq _ .i64 ((i : Int) - 1 : Int) ((0 : Nat) : Int)) ?_)    -- ref.go:35 t53 := (Op.binOp BinOp.geq 3 (Operand.tmp 52) (Operand.const (Value.int IntKind.i64 0)) 3)
            refine opsF_end (fun ρ => ρ 0 = (v : Value) ∧ ρ 1 = (.int .i64 ((a : Nat) : Int) : Value) ∧ ρ 7 = (.int .i64 ((j + 1 : Nat) : Int) : Value) ∧ ρ 8 = (.int .i64 ((n : Nat) : Int) : Value) ∧ ρ 9 = (.int .i64 ((i : Int) - 1 : Int) : Value) ∧ ρ 17 = (.bool (false) : Value) ∧ ρ 27 = (.bool (true) : Value) ∧ ρ 53 = (.bool (decide (((0 : Nat) : Int) ≤ ((i : Int) - 1 : Int))) : Value) ∧ True) ⟨T0, T1, T7, T8, T9, T17, T27, rfl, trivial⟩ fun ρ37 ⟨T0, T1, T7, T8, T9, T17, T27, T53, _⟩ => ?_
            refine thenF_normal (hK36 _ _ ?_)
            refine wpF_cond (((0 : Nat) : Int) ≤ ((i : Int) - 1 : Int)) (show _ = (.bool (decide (((0 : Nat) : Int) ≤ ((i : Int) - 1 : Int))) : Value) from T53) (fun hc4 => ?_) (fun hc4 => ?_)
            · have hi1 : 1 ≤ i := by omega
              have hvl := valL_lt (((l.drop a).take (j + 1)).drop i)
              have hpw : 128 ^ (((l.drop a).take (j + 1)).drop i).length ≤ 128 ^ 8 := Nat.pow_le_pow_right (by decide) (by rw [List.length_drop, List.length_take]; omega)
              have hnb : n < 128 ^ 8 := by rw [hn]; exact Nat.lt_of_lt_of_le hvl hpw
              have T9 := T9.trans (congrArg (Value.int .i64) (show ((i : Int) - 1 : Int) = ((i - 1 : Nat) : Int) by omega))
              refine wpF_skip ?_
              refine thenF_normal (hK35 _ _ ?_)
              refine wpF_seq_k fun K38 hK38 => ?_
              refine wpF_block ?_
              refine wpF_text ?_
              refine opsF_step rfl (YieldsK.move (show _ = (.int .i64 ((n : Nat) : Int) : Value) from T8) ?_)    -- ref.go:36 t56 := (Op.move (Operand.tmp 8))
              refine opsF_step rfl (YieldsK.bin (xv := .int .i64 ((n : Nat) : Int)) (yv := .int .i64 ((128 : Nat) : Int)) (show _ = (.int .i64 ((n : Nat) : Int) : Value) from rfl) (show _ = (.int .i64 ((128 : Nat) : Int) : Value) from rfl) rfl (i64_mul _ (n) (128) (by omega)) ?_)    -- ref.go:36 t57 := (Op.binOp BinOp.mul 3 (Operand.tmp 56) (Operand.const (Value.int IntKind.i64 128)) 3)
              refine opsF_step rfl (YieldsK.move (show _ = (v : Value) from T0) ?_)    -- ref.go:36 t58 := (Op.move (Operand.tmp 0))
              refine opsF_step rfl (YieldsK.move (show _ = (.int .i64 ((a : Nat) : Int) : Value) from T1) ?_)    -- ref.go:36 t59 := (Op.move (Operand.tmp 1))
              refine opsF_step rfl (YieldsK.move (show _ = (.int .i64 ((i - 1 : Nat) : Int) : Value) from T9) ?_)    -- ref.go:36 t60 := (Op.move (Operand.tmp 9))
              refine opsF_step rfl (YieldsK.bin (xv := .int .i64 ((a : Nat) : Int)) (yv := .int .i64 ((i - 1 : Nat) : Int)) (show _ = (.int .i64 ((a : Nat) : Int) : Value) from rfl) (show _ = (.int .i64 ((i - 1 : Nat) : Int) : Value) from rfl) rfl (i64_add _ (a) (i - 1) (by omega)) ?_)    -- ref.go:36 t61 := (Op.binOp BinOp.add 3 (Operand.tmp 59) (Operand.tmp 60) 3)
              refine opsF_step rfl (YieldsK.atRB (l := l) (i := (a) + (i - 1)) del17_ty22 del17_sz5 (RB.of (hr.keep hE) (show _ = (v : Value) from rfl)) (show _ = (.int .i64 (((a) + (i - 1) : Nat) : Int) : Value) from rfl) (by omega) fun v39 hp40 => ?_)    -- ref.go:36 t62 := (Op.indexAddr 22 (Operand.tmp 58) (Operand.tmp 61))
              refine opsF_step rfl (YieldsK.loadC del17_ty5 rfl (PCell.of hp40 (show _ = (v39 : Value) from rfl)) ?_)    -- ref.go:36 t63 := (Op.load 5 (Operand.tmp 62))
              refine opsF_step rfl (YieldsK.convI del17_ty5 del17_ty3 (show _ = (B8 (l.getD ((a) + (i - 1)) 0) : Value) from rfl) (ofByte .i64 (l.getD ((a) + (i - 1)) 0) (fun n hn => wrap_i64 n (by omega))) ?_)    -- ref.go:36 t64 := (Op.convert 5 3 (Operand.tmp 63))
              refine opsF_step rfl (YieldsK.bin (xv := .int .i64 (((l.getD ((a) + (i - 1)) 0).toNat : Nat) : Int)) (yv := .int .i64 ((128 : Nat) : Int)) (show _ = (.int .i64 (((l.getD ((a) + (i - 1)) 0).toNat : Nat) : Int) : Value) from rfl) (show _ = (.int .i64 ((128 : Nat) : Int) : Value) from rfl) rfl (i64_rem _ ((l.getD ((a) + (i - 1)) 0).toNat) (128) (by decide)) ?_)    -- ref.go:36 t65 := (Op.binOp BinOp.rem 3 (Operand.tmp 64) (Operand.const (Value.int IntKind.i64 128)) 3)
              refine opsF_step rfl (YieldsK.bin (xv := .int .i64 (((n) * (128) : Nat) : Int)) (yv := .int .i64 ((((l.getD ((a) + (i - 1)) 0).toNat) % (128) : Nat) : Int)) (show _ = (.int .i64 (((n) * (128) : Nat) : Int) : Value) from rfl) (show _ = (.int .i64 ((((l.getD ((a) + (i - 1)) 0).toNat) % (128) : Nat) : Int) : Value) from rfl) rfl (i64_add _ ((n) * (128)) (((l.getD ((a) + (i - 1)) 0).toNat) % (128)) (by omega)) ?_)    -- ref.go:36 t66 := (Op.binOp BinOp.add 3 (Operand.tmp 57) (Operand.tmp 65) 3)
              refine opsF_step rfl (YieldsK.assign (show _ = (.int .i64 ((((n) * (128)) + (((l.getD ((a) + (i - 1)) 0).toNat) % (128)) : Nat) : Int) : Value) from rfl) ?_)    -- ref.go:36 t8 := (Op.assign (Operand.tmp 66))
              refine opsF_end (fun ρ => ρ 0 = (v : Value) ∧ ρ 1 = (.int .i64 ((a : Nat) : Int) : Value) ∧ ρ 7 = (.int .i64 ((j + 1 : Nat) : Int) : Value) ∧ ρ 8 = (.int .i64 ((((n) * (128)) + (((l.getD ((a) + (i - 1)) 0).toNat) % (128)) : Nat) : Int) : Value) ∧ ρ 9 = (.int .i64 ((i - 1 : Nat) : Int) : Value) ∧ ρ 17 = (.bool (false) : Value) ∧ ρ 27 = (.bool (true) : Value) ∧ True) ⟨T0, T1, T7, rfl, T9, T17, T27, trivial⟩ fun ρ41 ⟨T0, T1, T7, T8, T9, T17, T27, _⟩ => ?_
              clear hp40
              refine inBlockF_normal ?_
              refine thenF_normal (hK38 _ _ ?_)
              refine wpF_text ?_
              refine opsF_step rfl (YieldsK.move (show _ = (.int .i64 ((i - 1 : Nat) : Int) : Value) from T9) ?_)    -- ref.go:35 t54 := (Op.move (Operand.tmp 9))
              refine opsF_step rfl (YieldsK.bin (xv := .int .i64 ((i - 1 : Nat) : Int)) (yv := .int .i64 ((1 : Nat) : Int)) (show _ = (.int .i64 ((i - 1 : Nat) : Int) : Value) from rfl) (show _ = (.int .i64 ((1 : Nat) : Int) : Value) from rfl) rfl (i64_dec _ (i - 1) (by omega)) ?_)    -- ref.go:35 t55 := (Op.binOp BinOp.sub 3 (Operand.tmp 54) (Operand.const (Value.int IntKind.i64 1)) 3)
              refine opsF_step rfl (YieldsK.assign (show _ = (.int .i64 (((i - 1 : Nat) : Int) - 1 : Int) : Value) from rfl) ?_)    -- ref.go:35 t9 := (Op.assign (Operand.tmp 55))
              refine opsF_end (fun ρ => ρ 0 = (v : Value) ∧ ρ 1 = (.int .i64 ((a : Nat) : Int) : Value) ∧ ρ 7 = (.int .i64 ((j + 1 : Nat) : Int) : Value) ∧ ρ 8 = (.int .i64 ((((n) * (128)) + (((l.getD ((a) + (i - 1)) 0).toNat) % (128)) : Nat) : Int) : Value) ∧ ρ 9 = (.int .i64 (((i - 1 : Nat) : Int) - 1 : Int) : Value) ∧ ρ 17 = (.bool (false) : Value) ∧ ρ 27 = (.bool (true) : Value) ∧ True) ⟨T0, T1, T7, T8, rfl, T17, T27, trivial⟩ fun ρ42 ⟨T0, T1, T7, T8, T9, T17, T27, _⟩ => ?_
              refine thenF_normal (And.intro ⟨i - 1, n * 128 + (l.getD (a + (i - 1)) 0).toNat % 128, T0, T1, T7, T17, T27, T9, T8, hE, by omega, by rw [valL_drop _ (i - 1) (j + 1) (by omega) (by omega), show i - 1 + 1 = i by omega, ← hn, getD_drop0]; omega, trivial⟩ ?_)
              show ((match (ρ42 9) with | .int _ z => z + 1 | _ => 0) : Int).toNat < ((match (ρ33 9) with | .int _ z => z + 1 | _ => 0) : Int).toNat
              rw [T9, q9]
              simp only [Int.sub_add_cancel]; omega
            · have hi0 : i = 0 := by omega
              refine wpF_exit (thenF_exit (thenF_exit (inBlockF_hit ?_)))
              refine thenF_normal (hK30 _ _ ?_)
              refine wpF_seq_k fun K43 hK43 => ?_
              refine wpF_text ?_
              refine opsF_step rfl (YieldsK.move (show _ = (.int .i64 ((n : Nat) : Int) : Value) from T8) ?_)    -- ref.go:38 t67 := (Op.move (Operand.tmp 8))
              refine opsF_step rfl (YieldsK.move (show _ = (.int .i64 ((a : Nat) : Int) : Value) from T1) ?_)    -- ref.go:38 t68 := (Op.move (Operand.tmp 1))
              refine opsF_step rfl (YieldsK.move (show _ = (.int .i64 ((j + 1 : Nat) : Int) : Value) from T7) ?_)    -- ref.go:38 t69 := (Op.move (Operand.tmp 7))
              refine opsF_step rfl (YieldsK.bin (xv := .int .i64 ((a : Nat) : Int)) (yv := .int .i64 ((j + 1 : Nat) : Int)) (show _ = (.int .i64 ((a : Nat) : Int) : Value) from rfl) (show _ = (.int .i64 ((j + 1 : Nat) : Int) : Value) from rfl) rfl (i64_add _ (a) (j + 1) (by omega)) ?_)    -- ref.go:38 t70 := (Op.binOp BinOp.add 3 (Operand.tmp 68) (Operand.tmp 69) 3)
              refine opsF_step rfl (YieldsK.assign (show _ = (.int .i64 ((n : Nat) : Int) : Value) from rfl) ?_)    -- ref.go:38 t4 := (Op.assign (Operand.tmp 67))
              refine opsF_step rfl (YieldsK.assign (show _ = (.int .i64 (((a) + (j + 1) : Nat) : Int) : Value) from rfl) ?_)    -- ref.go:38 t5 := (Op.assign (Operand.tmp 70))
              refine opsF_step rfl (YieldsK.assign (show _ = (.int .i64 ((0 : Nat) : Int) : Value) from rfl) ?_)    -- ref.go:38 t6 := (Op.assign (Operand.const (Value.int IntKind.i64 0)))
              refine opsF_end (fun ρ => ρ 0 = (v : Value) ∧ ρ 1 = (.int .i64 ((a : Nat) : Int) : Value) ∧ ρ 4 = (.int .i64 ((n : Nat) : Int) : Value) ∧ ρ 5 = (.int .i64 (((a) + (j + 1) : Nat) : Int) : Value) ∧ ρ 6 = (.int .i64 ((0 : Nat) : Int) : Value) ∧ ρ 7 = (.int .i64 ((j + 1 : Nat) : Int) : Value) ∧ ρ 8 = (.int .i64 ((n : Nat) : Int) : Value) ∧ ρ 9 = (.int .i64 ((i : Int) - 1 : Int) : Value) ∧ ρ 17 = (.bool (false) : Value) ∧ ρ 27 = (.bool (true) : Value) ∧ True) ⟨T0, T1, rfl, rfl, rfl, T7, T8, T9, T17, T27, trivial⟩ fun ρ44 ⟨T0, T1, T4, T5, T6, T7, T8, T9, T17, T27, _⟩ => ?_
              refine thenF_normal (hK43 _ _ ?_)
              refine wpF_ret (inBlockF_ret (thenF_ret (thenF_ret (inBlockF_ret (thenF_ret ?_)))))
              refine postF_ret (fn := Try.f25) _ rfl [.int .i64 ((n : Nat) : Int), .int .i64 (((a) + (j + 1) : Nat) : Int), .int .i64 ((0 : Nat) : Int)] (.tuple #[.int .i64 ((n : Nat) : Int), .int .i64 (((a) + (j + 1) : Nat) : Int), .int .i64 ((0 : Nat) : Int)]) rfl ⟨T4, T5, T6, trivial⟩ ?_
              have hyes : lebDec 0 (l.drop a) = some (valL ((l.drop a).take (j + 1)), j + 1) := lebDec_run j 0 _ hbig (by omega) (by rw [← hix]; omega) (by omega) (by rw [← hix]; omega)
              rw [hi0, List.drop_zero] at hn
              rw [hyes, ← hn]
              exact ⟨rfl, hE⟩
        · refine wpF_skip ?_
          refine thenF_normal (hK15 _ _ ?_)
          refine wpF_seq_k fun K45 hK45 => ?_
          refine wpF_seq_k fun K46 hK46 => ?_
          refine wpF_text ?_
          refine opsF_step rfl (YieldsK.move (show _ = (.int .i64 ((j + 1 : Nat) : Int) : Value) from T7) ?_)    -- ref.go:31 t38 := (Op.move (Operand.tmp 7))
          refine opsF_step rfl (YieldsK.eqI (a := ((j + 1 : Nat) : Int)) (b := ((1 : Nat) : Int)) (show _ = (.int .i64 ((j + 1 : Nat) : Int) : Value) from rfl) (show _ = (.int .i64 ((1 : Nat) : Int) : Value) from rfl) (k_gtr _ .i64 (j + 1) (1)) ?_)    -- ref.go:31 t39 := (Op.binOp BinOp.gtr 3 (Operand.tmp 38) (Operand.const (Value.int IntKind.i64 1)) 3)
          refine opsF_step rfl (YieldsK.move (show _ = (.bool (false) : Value) from (congrArg Value.bool (decide_eq_false (z1)))) ?_)    -- ref.go:31 t40 := (Op.move (Operand.tmp 39))
          refine opsF_off (d := 40) rfl rfl rfl (show _ = (.bool (false) : Value) from rfl) rfl ?_    -- ref.go:31 t41 := (Op.move (Operand.tmp 0))
          refine opsF_off (d := 40) rfl rfl rfl (show _ = (.bool (false) : Value) from rfl) rfl ?_    -- ref.go:31 t42 := (Op.move (Operand.tmp 1))
          refine opsF_off (d := 40) rfl rfl rfl (show _ = (.bool (false) : Value) from rfl) rfl ?_    -- ref.go:31 t43 := (Op.move (Operand.tmp 7))
          refine opsF_off (d := 40) rfl rfl rfl (show _ = (.bool (false) : Value) from rfl) rfl ?_    -- ref.go:31 t44 := (Op.binOp BinOp.add 3 (Operand.tmp 42) (Operand.tmp 43) 3)
          refine opsF_off (d := 40) rfl rfl rfl (show _ = (.bool (false) : Value) from rfl) rfl ?_    -- ref.go:31 t45 := (Op.binOp BinOp.sub 3 (Operand.tmp 44) (Operand.const (Value.int IntKind.i64 1)) 3)
          refine opsF_off (d := 40) rfl rfl rfl (show _ = (.bool (false) : Value) from rfl) rfl ?_    -- ref.go:31 t46 := (Op.indexAddr 22 (Operand.tmp 41) (Operand.tmp 45))
          refine opsF_off (d := 40) rfl rfl rfl (show _ = (.bool (false) : Value) from rfl) rfl ?_    -- ref.go:31 t47 := (Op.load 5 (Operand.tmp 46))
          refine opsF_off (d := 40) rfl rfl rfl (show _ = (.bool (false) : Value) from rfl) rfl ?_    -- ref.go:31 t48 := (Op.binOp BinOp.eql 5 (Operand.tmp 47) (Operand.const (Value.int IntKind.u8 0)) 5)
          refine opsF_step rfl (YieldsK.pickF (show _ = (.bool (false) : Value) from rfl) (show _ = (.bool (false) : Value) from rfl) ?_)    -- ref.go:31 t49 := (Op.pick (Operand.tmp 40) (Operand.tmp 48) (Operand.const (Value.bool false)))
          refine opsF_end (fun ρ => ρ 0 = (v : Value) ∧ ρ 1 = (.int .i64 ((a : Nat) : Int) : Value) ∧ ρ 7 = (.int .i64 ((j + 1 : Nat) : Int) : Value) ∧ ρ 17 = (.bool (false) : Value) ∧ ρ 27 = (.bool (true) : Value) ∧ ρ 49 = (.bool (false) : Value) ∧ True) ⟨T0, T1, T7, T17, T27, rfl, trivial⟩ fun ρ47 ⟨T0, T1, T7, T17, T27, T49, _⟩ => ?_
          refine thenF_normal (hK46 _ _ ?_)
          refine wpF_false (show _ = (.bool (false) : Value) from T49) ?_
          refine wpF_skip ?_
          refine thenF_normal (hK45 _ _ ?_)
          refine wpF_seq_k fun K48 hK48 => ?_
          refine wpF_text ?_
          refine opsF_step rfl (YieldsK.assign (show _ = (.int .i64 ((0 : Nat) : Int) : Value) from rfl) ?_)    -- ref.go:34 t8 := (Op.assign (Operand.const (Value.int IntKind.i64 0)))
          refine opsF_end (fun ρ => ρ 0 = (v : Value) ∧ ρ 1 = (.int .i64 ((a : Nat) : Int) : Value) ∧ ρ 7 = (.int .i64 ((j + 1 : Nat) : Int) : Value) ∧ ρ 8 = (.int .i64 ((0 : Nat) : Int) : Value) ∧ ρ 17 = (.bool (false) : Value) ∧ ρ 27 = (.bool (true) : Value) ∧ ρ 49 = (.bool (false) : Value) ∧ True) ⟨T0, T1, T7, rfl, T17, T27, T49, trivial⟩ fun ρ49 ⟨T0, T1, T7, T8, T17, T27, T49, _⟩ => ?_
          refine thenF_normal (hK48 _ _ ?_)
          refine wpF_seq_k fun K50 hK50 => ?_
          refine wpF_seq_k fun K51 hK51 => ?_
          refine wpF_text ?_
          refine opsF_step rfl (YieldsK.move (show _ = (.int .i64 ((j + 1 : Nat) : Int) : Value) from T7) ?_)    -- ref.go:35 t50 := (Op.move (Operand.tmp 7))
          refine opsF_step rfl (YieldsK.bin (xv := .int .i64 ((j + 1 : Nat) : Int)) (yv := .int .i64 ((1 : Nat) : Int)) (show _ = (.int .i64 ((j + 1 : Nat) : Int) : Value) from rfl) (show _ = (.int .i64 ((1 : Nat) : Int) : Value) from rfl) rfl (i64_sub _ (j + 1) (1) (by omega) (by omega)) ?_)    -- ref.go:35 t51 := (Op.binOp BinOp.sub 3 (Operand.tmp 50) (Operand.const (Value.int IntKind.i64 1)) 3)
          refine opsF_step rfl (YieldsK.assign (show _ = (.int .i64 (((j + 1) - (1) : Nat) : Int) : Value) from rfl) ?_)    -- ref.go:35 t9 := (Op.assign (Operand.tmp 51))
          refine opsF_end (fun ρ => ρ 0 = (v : Value) ∧ ρ 1 = (.int .i64 ((a : Nat) : Int) : Value) ∧ ρ 7 = (.int .i64 ((j + 1 : Nat) : Int) : Value) ∧ ρ 8 = (.int .i64 ((0 : Nat) : Int) : Value) ∧ ρ 9 = (.int .i64 (((j + 1) - (1) : Nat) : Int) : Value) ∧ ρ 17 = (.bool (false) : Value) ∧ ρ 27 = (.bool (true) : Value) ∧ ρ 49 = (.bool (false) : Value) ∧ True) ⟨T0, T1, T7, T8, rfl, T17, T27, T49, trivial⟩ fun ρ52 ⟨T0, T1, T7, T8, T9, T17, T27, T49, _⟩ => ?_
          refine thenF_normal (hK51 _ _ ?_)
          refine wpF_block ?_
          refine wpF_loop (fun (ρ : Slots) (wz : World) => ∃ i : Nat, ∃ n : Nat, ρ 0 = (v : Value) ∧ ρ 1 = (.int .i64 ((a : Nat) : Int) : Value) ∧ ρ 7 = (.int .i64 ((j + 1 : Nat) : Int) : Value) ∧ ρ 17 = (.bool (false) : Value) ∧ ρ 27 = (.bool (true) : Value) ∧ ρ 49 = (.bool (false) : Value) ∧ ρ 9 = (.int .i64 ((i : Int) - 1 : Int) : Value) ∧ ρ 8 = (.int .i64 ((n : Nat) : Int) : Value) ∧ Ext w wz ∧ (i ≤ j + 1) ∧ (n = valL (((l.drop a).take (j + 1)).drop i)) ∧ True) (fun ρ _ => ((match (ρ 9) with | .int _ z => z + 1 | _ => 0) : Int).toNat) ⟨j + 1, 0, T0, T1, T7, T17, T27, T49, (show _ = _ from T9.trans (congrArg (Value.int .i64) (by omega))), T8, hE, Nat.le_refl _, by rw [List.drop_of_length_le (by rw [List.length_take]; omega)]; rfl, trivial⟩ ?_
          clear hE
          rintro ρ53 w54 ⟨i, n, T0, T1, T7, T17, T27, T49, T9, T8, hE, hij, hn, -⟩
          have q9 := T9
          refine wpF_seq_k fun K55 hK55 => ?_
          refine wpF_seq_k fun K56 hK56 => ?_
          refine wpF_text ?_
          refine opsF_step rfl (YieldsK.move (show _ = (.int .i64 ((i : Int) - 1 : Int) : Value) from T9) ?_)    -- ref.go:35 t52 := (Op.move (Operand.tmp 9))
          refine opsF_step rfl (YieldsK.eqI (show _ = (.int .i64 ((i : Int) - 1 : Int) : Value) from rfl) (show _ = (.int .i64 ((0 : Nat) : Int) : Value) from rfl) (z_geq _ .i64 ((i : Int) - 1 : Int) ((0 : Nat) : Int)) ?_)    -- ref.go:35 t53 := (Op.binOp BinOp.geq 3 (Operand.tmp 52) (Operand.const (Value.int IntKind.i64 0)) 3)
          refine opsF_end (fun ρ => ρ 0 = (v : Value) ∧ ρ 1 = (.int .i64 ((a : Nat) : Int) : Value) ∧ ρ 7 = (.int .i64 ((j + 1 : Nat) : Int) : Value) ∧ ρ 8 = (.int .i64 ((n : Nat) : Int) : Value) ∧ ρ 9 = (.int .i64 ((i : Int) - 1 : Int) : Value) ∧ ρ 17 = (.bool (false) : Value) ∧ ρ 27 = (.bool (true) : Value) ∧ ρ 49 = (.bool (false) : Value) ∧ ρ 53 = (.bool (decide (((0 : Nat) : Int) ≤ ((i : Int) - 1 : Int))) : Value) ∧ True) ⟨T0, T1, T7, T8, T9, T17, T27, T49, rfl, trivial⟩ fun ρ57 ⟨T0, T1, T7, T8, T9, T17, T27, T49, T53, _⟩ => ?_
          refine thenF_normal (hK56 _ _ ?_)
          refine wpF_cond (((0 : Nat) : Int) ≤ ((i : Int) - 1 : Int)) (show _ = (.bool (decide (((0 : Nat) : Int) ≤ ((i : Int) - 1 : Int))) : Value) from T53) (fun hc4 => ?_) (fun hc4 => ?_)
          · have hi1 : 1 ≤ i := by omega
            have hvl := valL_lt (((l.drop a).take (j + 1)).drop i)
            have hpw : 128 ^ (((l.drop a).take (j + 1)).drop i).length ≤ 128 ^ 8 := Nat.pow_le_pow_right (by decide) (by rw [List.length_drop, List.length_take]; omega)
            have hnb : n < 128 ^ 8 := by rw [hn]; exact Nat.lt_of_lt_of_le hvl hpw
            have T9 := T9.trans (congrArg (Value.int .i64) (show ((i : Int) - 1 : Int) = ((i - 1 : Nat) : Int) by omega))
            refine wpF_skip ?_
            refine thenF_normal (hK55 _ _ ?_)
            refine wpF_seq_k fun K58 hK58 => ?_
            refine wpF_block ?_
            refine wpF_text ?_
            refine opsF_step rfl (YieldsK.move (show _ = (.int .i64 ((n : Nat) : Int) : Value) from T8) ?_)    -- ref.go:36 t56 := (Op.move (Operand.tmp 8))
            refine opsF_step rfl (YieldsK.bin (xv := .int .i64 ((n : Nat) : Int)) (yv := .int .i64 ((128 : Nat) : Int)) (show _ = (.int .i64 ((n : Nat) : Int) : Value) from rfl) (show _ = (.int .i64 ((128 : Nat) : Int) : Value) from rfl) rfl (i64_mul _ (n) (128) (by omega)) ?_)    -- ref.go:36 t57 := (Op.binOp BinOp.mul 3 (Operand.tmp 56) (Operand.const (Value.int IntKind.i64 128)) 3)
            refine opsF_step rfl (YieldsK.move (show _ = (v : Value) from T0) ?_)    -- ref.go:36 t58 := (Op.move (Operand.tmp 0))
            refine opsF_step rfl (YieldsK.move (show _ = (.int .i64 ((a : Nat) : Int) : Value) from T1) ?_)    -- ref.go:36 t59 := (Op.move (Operand.tmp 1))
            refine opsF_step rfl (YieldsK.move (show _ = (.int .i64 ((i - 1 : Nat) : Int) : Value) from T9) ?_)    -- ref.go:36 t60 := (Op.move (Operand.tmp 9))
            refine opsF_step rfl (YieldsK.bin (xv := .int .i64 ((a : Nat) : Int)) (yv := .int .i64 ((i - 1 : Nat) : Int)) (show _ = (.int .i64 ((a : Nat) : Int) : Value) from rfl) (show _ = (.int .i64 ((i - 1 : Nat) : Int) : Value) from rfl) rfl (i64_add _ (a) (i - 1) (by omega)) ?_)    -- ref.go:36 t61 := (Op.binOp BinOp.add 3 (Operand.tmp 59) (Operand.tmp 60) 3)
            refine opsF_step rfl (YieldsK.atRB (l := l) (i := (a) + (i - 1)) del17_ty22 del17_sz5 (RB.of (hr.keep hE) (show _ = (v : Value) from rfl)) (show _ = (.int .i64 (((a) + (i - 1) : Nat) : Int) : Value) from rfl) (by omega) fun v59 hp60 => ?_)    -- ref.go:36 t62 := (Op.indexAddr 22 (Operand.tmp 58) (Operand.tmp 61))
            refine opsF_step rfl (YieldsK.loadC del17_ty5 rfl (PCell.of hp60 (show _ = (v59 : Value) from rfl)) ?_)    -- ref.go:36 t63 := (Op.load 5 (Operand.tmp 62))
            refine opsF_step rfl (YieldsK.convI del17_ty5 del17_ty3 (show _ = (B8 (l.getD ((a) + (i - 1)) 0) : Value) from rfl) (ofByte .i64 (l.getD ((a) + (i - 1)) 0) (fun n hn => wrap_i64 n (by omega))) ?_)    -- ref.go:36 t64 := (Op.convert 5 3 (Operand.tmp 63))
            refine opsF_step rfl (YieldsK.bin (xv := .int .i64 (((l.getD ((a) + (i - 1)) 0).toNat : Nat) : Int)) (yv := .int .i64 ((128 : Nat) : Int)) (show _ = (.int .i64 (((l.getD ((a) + (i - 1)) 0).toNat : Nat) : Int) : Value) from rfl) (show _ = (.int .i64 ((128 : Nat) : Int) : Value) from rfl) rfl (i64_rem _ ((l.getD ((a) + (i - 1)) 0).toNat) (128) (by decide)) ?_)    -- ref.go:36 t65 := (Op.binOp BinOp.rem 3 (Operand.tmp 64) (Operand.const (Value.int IntKind.i64 128)) 3)
            refine opsF_step rfl (YieldsK.bin (xv := .int .i64 (((n) * (128) : Nat) : Int)) (yv := .int .i64 ((((l.getD ((a) + (i - 1)) 0).toNat) % (128) : Nat) : Int)) (show _ = (.int .i64 (((n) * (128) : Nat) : Int) : Value) from rfl) (show _ = (.int .i64 ((((l.getD ((a) + (i - 1)) 0).toNat) % (128) : Nat) : Int) : Value) from rfl) rfl (i64_add _ ((n) * (128)) (((l.getD ((a) + (i - 1)) 0).toNat) % (128)) (by omega)) ?_)    -- ref.go:36 t66 := (Op.binOp BinOp.add 3 (Operand.tmp 57) (Operand.tmp 65) 3)
            refine opsF_step rfl (YieldsK.assign (show _ = (.int .i64 ((((n) * (128)) + (((l.getD ((a) + (i - 1)) 0).toNat) % (128)) : Nat) : Int) : Value) from rfl) ?_)    -- ref.go:36 t8 := (Op.assign (Operand.tmp 66))
            refine opsF_end (fun ρ => ρ 0 = (v : Value) ∧ ρ 1 = (.int .i64 ((a : Nat) : Int) : Value) ∧ ρ 7 = (.int .i64 ((j + 1 : Nat) : Int) : Value) ∧ ρ 8 = (.int .i64 ((((n) * (128)) + (((l.getD ((a) + (i - 1)) 0).toNat) % (128)) : Nat) : Int) : Value) ∧ ρ 9 = (.int .i64 ((i - 1 : Nat) : Int) : Value) ∧ ρ 17 = (.bool (false) : Value) ∧ ρ 27 = (.bool (true) : Value) ∧ ρ 49 = (.bool (false) : Value) ∧ True) ⟨T0, T1, T7, rfl, T9, T17, T27, T49, trivial⟩ fun ρ61 ⟨T0, T1, T7, T8, T9, T17, T27, T49, _⟩ => ?_
            clear hp60
            refine inBlockF_normal ?_
            refine thenF_normal (hK58 _ _ ?_)
            refine wpF_text ?_
            refine opsF_step rfl (YieldsK.move (show _ = (.int .i64 ((i - 1 : Nat) : Int) : Value) from T9) ?_)    -- ref.go:35 t54 := (Op.move (Operand.tmp 9))
            refine opsF_step rfl (YieldsK.bin (xv := .int .i64 ((i - 1 : Nat) : Int)) (yv := .int .i64 ((1 : Nat) : Int)) (show _ = (.int .i64 ((i - 1 : Nat) : Int) : Value) from rfl) (show _ = (.int .i64 ((1 : Nat) : Int) : Value) from rfl) rfl (i64_dec _ (i - 1) (by omega)) ?_)    -- ref.go:35 t55 := (Op.binOp BinOp.sub 3 (Operand.tmp 54) (Operand.const (Value.int IntKind.i64 1)) 3)
            refine opsF_step rfl (YieldsK.assign (show _ = (.int .i64 (((i - 1 : Nat) : Int) - 1 : Int) : Value) from rfl) ?_)    -- ref.go:35 t9 := (Op.assign (Operand.tmp 55))
            refine opsF_end (fun ρ => ρ 0 = (v : Value) ∧ ρ 1 = (.int .i64 ((a : Nat) : Int) : Value) ∧ ρ 7 = (.int .i64 ((j + 1 : Nat) : Int) : Value) ∧ ρ 8 = (.int .i64 ((((n) * (128)) + (((l.getD ((a) + (i - 1)) 0).toNat) % (128)) : Nat) : Int) : Value) ∧ ρ 9 = (.int .i64 (((i - 1 : Nat) : Int) - 1 : Int) : Value) ∧ ρ 17 = (.bool (false) : Value) ∧ ρ 27 = (.bool (true) : Value) ∧ ρ 49 = (.bool (false) : Value) ∧ True) ⟨T0, T1, T7, T8, rfl, T17, T27, T49, trivial⟩ fun ρ62 ⟨T0, T1, T7, T8, T9, T17, T27, T49, _⟩ => ?_
            refine thenF_normal (And.intro ⟨i - 1, n * 128 + (l.getD (a + (i - 1)) 0).toNat % 128, T0, T1, T7, T17, T27, T49, T9, T8, hE, by omega, by rw [valL_drop _ (i - 1) (j + 1) (by omega) (by omega), show i - 1 + 1 = i by omega, ← hn, getD_drop0]; omega, trivial⟩ ?_)
            show ((match (ρ62 9) with | .int _ z => z + 1 | _ => 0) : Int).toNat < ((match (ρ53 9) with | .int _ z => z + 1 | _ => 0) : Int).toNat
            rw [T9, q9]
            simp only [Int.sub_add_cancel]; omega
          · have hi0 : i = 0 := by omega
            refine wpF_exit (thenF_exit (thenF_exit (inBlockF_hit ?_)))
            refine thenF_normal (hK50 _ _ ?_)
            refine wpF_seq_k fun K63 hK63 => ?_
            refine wpF_text ?_
            refine opsF_step rfl (YieldsK.move (show _ = (.int .i64 ((n : Nat) : Int) : Value) from T8) ?_)    -- ref.go:38 t67 := (Op.move (Operand.tmp 8))
            refine opsF_step rfl (YieldsK.move (show _ = (.int .i64 ((a : Nat) : Int) : Value) from T1) ?_)    -- ref.go:38 t68 := (Op.move (Operand.tmp 1))
            refine opsF_step rfl (YieldsK.move (show _ = (.int .i64 ((j + 1 : Nat) : Int) : Value) from T7) ?_)    -- ref.go:38 t69 := (Op.move (Operand.tmp 7))
            refine opsF_step rfl (YieldsK.bin (xv := .int .i64 ((a : Nat) : Int)) (yv := .int .i64 ((j + 1 : Nat) : Int)) (show _ = (.int .i64 ((a : Nat) : Int) : Value) from rfl) (show _ = (.int .i64 ((j + 1 : Nat) : Int) : Value) from rfl) rfl (i64_add _ (a) (j + 1) (by omega)) ?_)    -- ref.go:38 t70 := (Op.binOp BinOp.add 3 (Operand.tmp 68) (Operand.tmp 69) 3)
            refine opsF_step rfl (YieldsK.assign (show _ = (.int .i64 ((n : Nat) : Int) : Value) from rfl) ?_)    -- ref.go:38 t4 := (Op.assign (Operand.tmp 67))
            refine opsF_step rfl (YieldsK.assign (show _ = (.int .i64 (((a) + (j + 1) : Nat) : Int) : Value) from rfl) ?_)    -- ref.go:38 t5 := (Op.assign (Operand.tmp 70))
            refine opsF_step rfl (YieldsK.assign (show _ = (.int .i64 ((0 : Nat) : Int) : Value) from rfl) ?_)    -- ref.go:38 t6 := (Op.assign (Operand.const (Value.int IntKind.i64 0)))
            refine opsF_end (fun ρ => ρ 0 = (v : Value) ∧ ρ 1 = (.int .i64 ((a : Nat) : Int) : Value) ∧ ρ 4 = (.int .i64 ((n : Nat) : Int) : Value) ∧ ρ 5 = (.int .i64 (((a) + (j + 1) : Nat) : Int) : Value) ∧ ρ 6 = (.int .i64 ((0 : Nat) : Int) : Value) ∧ ρ 7 = (.int .i64 ((j + 1 : Nat) : Int) : Value) ∧ ρ 8 = (.int .i64 ((n : Nat) : Int) : Value) ∧ ρ 9 = (.int .i64 ((i : Int) - 1 : Int) : Value) ∧ ρ 17 = (.bool (false) : Value) ∧ ρ 27 = (.bool (true) : Value) ∧ ρ 49 = (.bool (false) : Value) ∧ True) ⟨T0, T1, rfl, rfl, rfl, T7, T8, T9, T17, T27, T49, trivial⟩ fun ρ64 ⟨T0, T1, T4, T5, T6, T7, T8, T9, T17, T27, T49, _⟩ => ?_
            refine thenF_normal (hK63 _ _ ?_)
            refine wpF_ret (inBlockF_ret (thenF_ret (thenF_ret (inBlockF_ret (thenF_ret ?_)))))
            refine postF_ret (fn := Try.f25) _ rfl [.int .i64 ((n : Nat) : Int), .int .i64 (((a) + (j + 1) : Nat) : Int), .int .i64 ((0 : Nat) : Int)] (.tuple #[.int .i64 ((n : Nat) : Int), .int .i64 (((a) + (j + 1) : Nat) : Int), .int .i64 ((0 : Nat) : Int)]) rfl ⟨T4, T5, T6, trivial⟩ ?_
            have hyes : lebDec 0 (l.drop a) = some (valL ((l.drop a).take (j + 1)), j + 1) := lebDec_run j 0 _ hbig (by omega) (by rw [← hix]; omega) (by omega) (by rw [← hix]; omega)
            rw [hi0, List.drop_zero] at hn
            rw [hyes, ← hn]
            exact ⟨rfl, hE⟩
    · have hno : lebDec 0 (l.drop a) = none := lebDec_none j 0 _ (by omega) hbig (.inl (by rw [List.length_drop]; omega))
      refine wpF_seq_k fun K65 hK65 => ?_
      refine wpF_seq_k fun K66 hK66 => ?_
      refine wpF_text ?_
      refine opsF_step rfl (YieldsK.move (show _ = (.int .i64 ((j + 1 : Nat) : Int) : Value) from T7) ?_)    -- ref.go:27 t18 := (Op.move (Operand.tmp 7))
      refine opsF_step rfl (YieldsK.eqI (a := ((j + 1 : Nat) : Int)) (b := ((9 : Nat) : Int)) (show _ = (.int .i64 ((j + 1 : Nat) : Int) : Value) from rfl) (show _ = (.int .i64 ((9 : Nat) : Int) : Value) from rfl) (k_leq _ .i64 (j + 1) (9)) ?_)    -- ref.go:27 t19 := (Op.binOp BinOp.leq 3 (Operand.tmp 18) (Operand.const (Value.int IntKind.i64 9)) 3)
      refine opsF_step rfl (YieldsK.move (show _ = (.bool (true) : Value) from (congrArg Value.bool (decide_eq_true (by omega)))) ?_)    -- ref.go:27 t20 := (Op.move (Operand.tmp 19))
      refine opsF_on (d := 20) rfl rfl (show _ = (.bool (true) : Value) from rfl) (YieldsK.move (show _ = (.int .i64 ((j + 1 : Nat) : Int) : Value) from T7) ?_)    -- ref.go:27 t21 := (Op.move (Operand.tmp 7))
      refine opsF_on (d := 20) rfl rfl (show _ = (.bool (true) : Value) from rfl) (YieldsK.move (show _ = (v : Value) from T0) ?_)    -- ref.go:27 t22 := (Op.move (Operand.tmp 0))
      refine opsF_on (d := 20) rfl rfl (show _ = (.bool (true) : Value) from rfl) (YieldsK.lenRB del17_ty22 (RB.of (hr.keep hE) (show _ = (v : Value) from rfl)) ?_)    -- ref.go:27 t23 := (Op.call { callee := (Callee.builtin Builtin.len), args := #[(Operand.tmp 22)], argTypes := #[22] })
      refine opsF_on (d := 20) rfl rfl (show _ = (.bool (true) : Value) from rfl) (YieldsK.move (show _ = (.int .i64 ((a : Nat) : Int) : Value) from T1) ?_)    -- ref.go:27 t24 := (Op.move (Operand.tmp 1))
      refine opsF_on (d := 20) rfl rfl (show _ = (.bool (true) : Value) from rfl) (YieldsK.bin (xv := .int .i64 ((l.length : Nat) : Int)) (yv := .int .i64 ((a : Nat) : Int)) (show _ = (.int .i64 ((l.length : Nat) : Int) : Value) from rfl) (show _ = (.int .i64 ((a : Nat) : Int) : Value) from rfl) rfl (i64_sub _ (l.length) (a) (by omega) (by omega)) ?_)    -- ref.go:27 t25 := (Op.binOp BinOp.sub 3 (Operand.tmp 23) (Operand.tmp 24) 3)
      refine opsF_on (d := 20) rfl rfl (show _ = (.bool (true) : Value) from rfl) (YieldsK.eqI (a := ((j + 1 : Nat) : Int)) (b := (((l.length) - (a) : Nat) : Int)) (show _ = (.int .i64 ((j + 1 : Nat) : Int) : Value) from rfl) (show _ = (.int .i64 (((l.length) - (a) : Nat) : Int) : Value) from rfl) (k_leq _ .i64 (j + 1) ((l.length) - (a))) ?_)    -- ref.go:27 t26 := (Op.binOp BinOp.leq 3 (Operand.tmp 21) (Operand.tmp 25) 3)
      refine opsF_step rfl (YieldsK.pickT (show _ = (.bool (true) : Value) from rfl) (show _ = (.bool (false) : Value) from (congrArg Value.bool (decide_eq_false (by omega)))) ?_)    -- ref.go:27 t27 := (Op.pick (Operand.tmp 20) (Operand.tmp 26) (Operand.const (Value.bool false)))
      refine opsF_end (fun ρ => ρ 0 = (v : Value) ∧ ρ 1 = (.int .i64 ((a : Nat) : Int) : Value) ∧ ρ 7 = (.int .i64 ((j + 1 : Nat) : Int) : Value) ∧ ρ 17 = (.bool (false) : Value) ∧ ρ 27 = (.bool (false) : Value) ∧ True) ⟨T0, T1, T7, T17, rfl, trivial⟩ fun ρ67 ⟨T0, T1, T7, T17, T27, _⟩ => ?_
      refine thenF_normal (hK66 _ _ ?_)
      refine wpF_false (show _ = (.bool (false) : Value) from T27) ?_
      refine wpF_exit (thenF_exit (thenF_exit (inBlockF_hit ?_)))
      refine thenF_normal (hK6 _ _ ?_)
      refine wpF_seq_k fun K68 hK68 => ?_
      refine wpF_text ?_
      refine opsF_step rfl (YieldsK.assign (show _ = (.int .i64 ((0 : Nat) : Int) : Value) from rfl) ?_)    -- ref.go:40 t4 := (Op.assign (Operand.const (Value.int IntKind.i64 0)))
      refine opsF_step rfl (YieldsK.assign (show _ = (.int .i64 ((0 : Nat) : Int) : Value) from rfl) ?_)    -- ref.go:40 t5 := (Op.assign (Operand.const (Value.int IntKind.i64 0)))
      refine opsF_step rfl (YieldsK.assign (show _ = (.int .i64 ((6 : Nat) : Int) : Value) from rfl) ?_)    -- ref.go:40 t6 := (Op.assign (Operand.const (Value.int IntKind.i64 6)))
      refine opsF_end (fun ρ => ρ 0 = (v : Value) ∧ ρ 1 = (.int .i64 ((a : Nat) : Int) : Value) ∧ ρ 4 = (.int .i64 ((0 : Nat) : Int) : Value) ∧ ρ 5 = (.int .i64 ((0 : Nat) : Int) : Value) ∧ ρ 6 = (.int .i64 ((6 : Nat) : Int) : Value) ∧ ρ 7 = (.int .i64 ((j + 1 : Nat) : Int) : Value) ∧ ρ 17 = (.bool (false) : Value) ∧ ρ 27 = (.bool (false) : Value) ∧ True) ⟨T0, T1, rfl, rfl, rfl, T7, T17, T27, trivial⟩ fun ρ69 ⟨T0, T1, T4, T5, T6, T7, T17, T27, _⟩ => ?_
      refine thenF_normal (hK68 _ _ ?_)
      refine wpF_ret ?_
      refine postF_ret (fn := Try.f25) _ rfl [.int .i64 ((0 : Nat) : Int), .int .i64 ((0 : Nat) : Int), .int .i64 ((6 : Nat) : Int)] (.tuple #[.int .i64 ((0 : Nat) : Int), .int .i64 ((0 : Nat) : Int), .int .i64 ((6 : Nat) : Int)]) rfl ⟨T4, T5, T6, trivial⟩ ?_
      rw [hno]
      exact ⟨rfl, hE⟩
  · have hno : lebDec 0 (l.drop a) = none := lebDec_none j 0 _ (by omega) hbig (.inr (by omega))
    refine wpF_seq_k fun K70 hK70 => ?_
    refine wpF_seq_k fun K71 hK71 => ?_
    refine wpF_text ?_
    refine opsF_step rfl (YieldsK.move (show _ = (.int .i64 ((j + 1 : Nat) : Int) : Value) from T7) ?_)    -- ref.go:27 t18 := (Op.move (Operand.tmp 7))
    refine opsF_step rfl (YieldsK.eqI (a := ((j + 1 : Nat) : Int)) (b := ((9 : Nat) : Int)) (show _ = (.int .i64 ((j + 1 : Nat) : Int) : Value) from rfl) (show _ = (.int .i64 ((9 : Nat) : Int) : Value) from rfl) (k_leq _ .i64 (j + 1) (9)) ?_)    -- ref.go:27 t19 := (Op.binOp BinOp.leq 3 (Operand.tmp 18) (Operand.const (Value.int IntKind.i64 9)) 3)
    refine opsF_step rfl (YieldsK.move (show _ = (.bool (false) : Value) from (congrArg Value.bool (decide_eq_false (by omega)))) ?_)    -- ref.go:27 t20 := (Op.move (Operand.tmp 19))
    refine opsF_off (d := 20) rfl rfl rfl (show _ = (.bool (false) : Value) from rfl) rfl ?_    -- ref.go:27 t21 := (Op.move (Operand.tmp 7))
    refine opsF_off (d := 20) rfl rfl rfl (show _ = (.bool (false) : Value) from rfl) rfl ?_    -- ref.go:27 t22 := (Op.move (Operand.tmp 0))
    refine opsF_off (d := 20) rfl rfl rfl (show _ = (.bool (false) : Value) from rfl) rfl ?_    -- ref.go:27 t23 := (Op.call { callee := (Callee.builtin Builtin.len), args := #[(Operand.tmp 22)], argTypes := #[22] })
    refine opsF_off (d := 20) rfl rfl rfl (show _ = (.bool (false) : Value) from rfl) rfl ?_    -- ref.go:27 t24 := (Op.move (Operand.tmp 1))
    refine opsF_off (d := 20) rfl rfl rfl (show _ = (.bool (false) : Value) from rfl) rfl ?_    -- ref.go:27 t25 := (Op.binOp BinOp.sub 3 (Operand.tmp 23) (Operand.tmp 24) 3)
    refine opsF_off (d := 20) rfl rfl rfl (show _ = (.bool (false) : Value) from rfl) rfl ?_    -- ref.go:27 t26 := (Op.binOp BinOp.leq 3 (Operand.tmp 21) (Operand.tmp 25) 3)
    refine opsF_step rfl (YieldsK.pickF (show _ = (.bool (false) : Value) from rfl) (show _ = (.bool (false) : Value) from rfl) ?_)    -- ref.go:27 t27 := (Op.pick (Operand.tmp 20) (Operand.tmp 26) (Operand.const (Value.bool false)))
    refine opsF_end (fun ρ => ρ 0 = (v : Value) ∧ ρ 1 = (.int .i64 ((a : Nat) : Int) : Value) ∧ ρ 7 = (.int .i64 ((j + 1 : Nat) : Int) : Value) ∧ ρ 17 = (.bool (false) : Value) ∧ ρ 27 = (.bool (false) : Value) ∧ True) ⟨T0, T1, T7, T17, rfl, trivial⟩ fun ρ72 ⟨T0, T1, T7, T17, T27, _⟩ => ?_
    refine thenF_normal (hK71 _ _ ?_)
    refine wpF_false (show _ = (.bool (false) : Value) from T27) ?_
    refine wpF_exit (thenF_exit (thenF_exit (inBlockF_hit ?_)))
    refine thenF_normal (hK6 _ _ ?_)
    refine wpF_seq_k fun K73 hK73 => ?_
    refine wpF_text ?_
    refine opsF_step rfl (YieldsK.assign (show _ = (.int .i64 ((0 : Nat) : Int) : Value) from rfl) ?_)    -- ref.go:40 t4 := (Op.assign (Operand.const (Value.int IntKind.i64 0)))
    refine opsF_step rfl (YieldsK.assign (show _ = (.int .i64 ((0 : Nat) : Int) : Value) from rfl) ?_)    -- ref.go:40 t5 := (Op.assign (Operand.const (Value.int IntKind.i64 0)))
    refine opsF_step rfl (YieldsK.assign (show _ = (.int .i64 ((6 : Nat) : Int) : Value) from rfl) ?_)    -- ref.go:40 t6 := (Op.assign (Operand.const (Value.int IntKind.i64 6)))
    refine opsF_end (fun ρ => ρ 0 = (v : Value) ∧ ρ 1 = (.int .i64 ((a : Nat) : Int) : Value) ∧ ρ 4 = (.int .i64 ((0 : Nat) : Int) : Value) ∧ ρ 5 = (.int .i64 ((0 : Nat) : Int) : Value) ∧ ρ 6 = (.int .i64 ((6 : Nat) : Int) : Value) ∧ ρ 7 = (.int .i64 ((j + 1 : Nat) : Int) : Value) ∧ ρ 17 = (.bool (false) : Value) ∧ ρ 27 = (.bool (false) : Value) ∧ True) ⟨T0, T1, rfl, rfl, rfl, T7, T17, T27, trivial⟩ fun ρ74 ⟨T0, T1, T4, T5, T6, T7, T17, T27, _⟩ => ?_
    refine thenF_normal (hK73 _ _ ?_)
    refine wpF_ret ?_
    refine postF_ret (fn := Try.f25) _ rfl [.int .i64 ((0 : Nat) : Int), .int .i64 ((0 : Nat) : Int), .int .i64 ((6 : Nat) : Int)] (.tuple #[.int .i64 ((0 : Nat) : Int), .int .i64 ((0 : Nat) : Int), .int .i64 ((6 : Nat) : Int)]) rfl ⟨T4, T5, T6, trivial⟩ ?_
    rw [hno]
    exact ⟨rfl, hE⟩
end Go.Proofs.Ytfjmbcjcgdfkfaa
