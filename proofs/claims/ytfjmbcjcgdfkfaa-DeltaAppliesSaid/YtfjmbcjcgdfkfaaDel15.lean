/- The reference's Make. -/
import Derived.Test.YtfjmbcjcgdfkfaaDelRef
namespace Go.Proofs.Ytfjmbcjcgdfkfaa
open Go.RowKit
theorem del15_ty22 : Try.prog.underlying 22 = some (.slice 5) := by kernel_rfl
theorem del15_pl20 : Plain Try.prog 20 := fun _ _ => by kernel_rfl
theorem del15_inf5 : (Try.prog.info? 5).map (fun i => (i.zero, i.size, i.bytes)) = some (some (.int .u8 0), 1, 1) := by kernel_rfl
theorem del15_pl21 : Plain Try.prog 21 := fun _ _ => by kernel_rfl
theorem del15_sz5 : ∀ w' : World, (sizeOf 5).run Try.prog w' = .ok 1 w' := fun _ => by kernel_rfl
theorem del15_ty5 : Try.prog.underlying 5 = some (.int .u8) := by kernel_rfl
theorem del15_l1_22 (z : Int) (w : World) : (Instr.buildSlice 22 1 #[(0, .int .u8 z)]).run Try.prog w = .ok (.slice (some ⟨w.heap.size, 0, none⟩) 1 1) (w.alloc (.cells #[.int .u8 z] 5)) := by kernel_rfl
theorem del15_pl22 : Plain Try.prog 22 := fun _ _ => by kernel_rfl
theorem added_any (w : World) (v : Value) (b : List UInt8) (hr : RB w v b) (hb : b.length ≤ 1048576) :
    Calls Try.prog 22 #[v] w fun e w' => ∃ v', e = .returned v' ∧ RB w' v' (addP b) ∧ Ext w w' := by
  refine calls_of_wpF (args := [v]) Try.func22 rfl 12 rfl (Nat.le_of_ble_eq_true rfl) ?_
  intro ρ0 hb
  have T0 : ρ0 0 = (v : Value) := hb.get 0
  clear hb
  have hE := Ext.refl w
  refine wpF_seq_k fun K1 hK1 => ?_
  refine wpF_text ?_
  refine opsF_step rfl (YieldsK.assign (show _ = ((Value.slice none 0 0) : Value) from rfl) ?_)    -- ref.go:27 t2 := (Op.assign (Operand.const (Value.slice none 0 0)))
  refine opsF_end (fun ρ => ρ 0 = (v : Value) ∧ ρ 2 = ((Value.slice none 0 0) : Value) ∧ True) ⟨T0, rfl, trivial⟩ fun ρ2 ⟨T0, T2, _⟩ => ?_
  refine thenF_normal (hK1 _ _ ?_)
  refine wpF_seq_k fun K3 hK3 => ?_
  refine wpF_seq_k fun K4 hK4 => ?_
  refine wpF_text ?_
  refine opsF_step rfl (YieldsK.move (show _ = (v : Value) from T0) ?_)    -- ref.go:28 t3 := (Op.move (Operand.tmp 0))
  refine opsF_step rfl (YieldsK.lenRB del15_ty22 (RB.of (hr.keep hE) (show _ = (v : Value) from rfl)) ?_)    -- ref.go:28 t4 := (Op.call { callee := (Callee.builtin Builtin.len), args := #[(Operand.tmp 3)], argTypes := #[22] })
  refine opsF_step rfl (YieldsK.eqI (a := ((b.length : Nat) : Int)) (b := ((0 : Nat) : Int)) (show _ = (.int .i64 ((b.length : Nat) : Int) : Value) from rfl) (show _ = (.int .i64 ((0 : Nat) : Int) : Value) from rfl) (k_eql _ .i64 (b.length) (0)) ?_)    -- ref.go:28 t5 := (Op.binOp BinOp.eql 3 (Operand.tmp 4) (Operand.const (Value.int IntKind.i64 0)) 3)
  refine opsF_end (fun ρ => ρ 0 = (v : Value) ∧ ρ 2 = ((Value.slice none 0 0) : Value) ∧ ρ 5 = (.bool (decide ((b.length : Nat) = (0))) : Value) ∧ True) ⟨T0, T2, rfl, trivial⟩ fun ρ5 ⟨T0, T2, T5, _⟩ => ?_
  refine thenF_normal (hK4 _ _ ?_)
  refine wpF_cond ((b.length : Nat) = (0)) (show _ = (.bool (decide ((b.length : Nat) = (0))) : Value) from T5) (fun hc => ?_) (fun hc => ?_)
  · refine wpF_seq_k fun K6 hK6 => ?_
    refine wpF_text ?_
    refine opsF_step rfl (YieldsK.assign (show _ = ((Value.slice none 0 0) : Value) from rfl) ?_)    -- ref.go:29 t2 := (Op.assign (Operand.const (Value.slice none 0 0)))
    refine opsF_end (fun ρ => ρ 0 = (v : Value) ∧ ρ 2 = ((Value.slice none 0 0) : Value) ∧ True) ⟨T0, rfl, trivial⟩ fun ρ7 ⟨T0, T2, _⟩ => ?_
    refine thenF_normal (hK6 _ _ ?_)
    refine wpF_ret (thenF_ret ?_)
    refine postF_ret (fn := Try.f22) _ rfl [(Value.slice none 0 0)] ((Value.slice none 0 0)) rfl ⟨T2, trivial⟩ ?_
    rw [addP, if_pos hc]
    exact ⟨_, rfl, RB.nil _, hE⟩
  · refine wpF_skip ?_
    refine thenF_normal (hK3 _ _ ?_)
    refine wpF_seq_k fun K8 hK8 => ?_
    refine wpF_text ?_
    refine opsF_step rfl (YieldsK.move (show _ = (v : Value) from T0) ?_)    -- ref.go:31 t6 := (Op.move (Operand.tmp 0))
    refine opsF_step rfl (YieldsK.lenRB del15_ty22 (RB.of (hr.keep hE) (show _ = (v : Value) from rfl)) ?_)    -- ref.go:31 t7 := (Op.call { callee := (Callee.builtin Builtin.len), args := #[(Operand.tmp 6)], argTypes := #[22] })
    refine opsF_step rfl (YieldsK.bin (xv := .int .i64 ((2 : Nat) : Int)) (yv := .int .i64 ((b.length : Nat) : Int)) (show _ = (.int .i64 ((2 : Nat) : Int) : Value) from rfl) (show _ = (.int .i64 ((b.length : Nat) : Int) : Value) from rfl) rfl (i64_mul _ (2) (b.length) (by omega)) ?_)    -- ref.go:31 t8 := (Op.binOp BinOp.mul 3 (Operand.const (Value.int IntKind.i64 2)) (Operand.tmp 7) 3)
    refine opsF_step rfl (YieldsK.callA1 del15_pl20 (show _ = (.int .i64 (((2) * (b.length) : Nat) : Int) : Value) from rfl) ?_)    -- ref.go:31 t9 := (Op.call { callee := (Callee.value (Operand.func 20)), args := #[(Operand.tmp 8)], argTypes := #[3] })
    refine (refNumber_any _ ((2) * (b.length)) (by omega)).mono ?_
    rintro e w11 ⟨v9, rfl, hN10⟩
    refine ⟨_, rfl, ?_⟩
    have hE : Ext w w11 := (hE.trans hN10.ext)
    have ho12 := hN10.own; clear hN10
    refine opsF_step rfl (YieldsK.move (show _ = (v : Value) from T0) ?_)    -- ref.go:31 t10 := (Op.move (Operand.tmp 0))
    refine opsF_step rfl (YieldsK.appendRB _ _ w.heap.size (.int .u8 0) del15_ty22 del15_inf5 rfl del15_ty22 (Lib.uvarint ((2) * (b.length))) (b) (own_of ho12 (show _ = (v9 : Value) from rfl)) (RB.of (hr.keep hE) (show _ = (v : Value) from rfl)) (by have := uvarint_len63 (2 * b.length) (by omega); omega) hE.size fun v13 w14 ho15 hg16 => ?_)    -- ref.go:31 t11 := (Op.call { callee := (Callee.builtin Builtin.append), args := #[(Operand.tmp 9), (Operand.tmp 10)], argTypes :
    have hg16 : Grew w11 w14 v9 v13 := hg16
    have hE : Ext w w14 := ext_grew hE hg16 ho12 (Nat.le_refl _)
    clear ho12
    refine opsF_step rfl (YieldsK.assign (show _ = (v13 : Value) from rfl) ?_)    -- ref.go:31 t2 := (Op.assign (Operand.tmp 11))
    refine opsF_end (fun ρ => ρ 0 = (v : Value) ∧ ρ 2 = (v13 : Value) ∧ True) ⟨T0, rfl, trivial⟩ fun ρ17 ⟨T0, T2, _⟩ => ?_
    refine thenF_normal (hK8 _ _ ?_)
    refine wpF_ret ?_
    refine postF_ret (fn := Try.f22) _ rfl [v13] (v13) rfl ⟨T2, trivial⟩ ?_
    rw [addP, if_neg hc]
    exact ⟨_, rfl, RB.ofOwn ho15, hE⟩

theorem refMake_any (w : World) (vb vt : Value) (B T : List UInt8) (hrb : RB w vb B) (hrt : RB w vt T) (hB : B.length ≤ 1048576) (hT : T.length ≤ 1048576) :
    Calls Try.prog 10 #[vb, vt] w fun e w' => ∃ v', e = .returned v' ∧ RB w' v' (makeP B T) ∧ Ext w w' := by
  refine calls_of_wpF (args := [vb, vt]) Try.func10 rfl 60 rfl (Nat.le_of_ble_eq_true rfl) ?_
  intro ρ0 hb
  have T0 : ρ0 0 = (vb : Value) := hb.get 0
  have T1 : ρ0 1 = (vt : Value) := hb.get 1
  clear hb
  have hE := Ext.refl w
  refine wpF_seq_k fun K1 hK1 => ?_
  refine wpF_text ?_
  refine opsF_step rfl (YieldsK.assign (show _ = ((Value.slice none 0 0) : Value) from rfl) ?_)    -- ref.go:35 t4 := (Op.assign (Operand.const (Value.slice none 0 0)))
  refine opsF_end (fun ρ => ρ 0 = (vb : Value) ∧ ρ 1 = (vt : Value) ∧ ρ 4 = ((Value.slice none 0 0) : Value) ∧ True) ⟨T0, T1, rfl, trivial⟩ fun ρ2 ⟨T0, T1, T4, _⟩ => ?_
  refine thenF_normal (hK1 _ _ ?_)
  refine wpF_seq_k fun K3 hK3 => ?_
  refine wpF_text ?_
  refine opsF_step rfl (YieldsK.move (show _ = (vb : Value) from T0) ?_)    -- ref.go:36 t10 := (Op.move (Operand.tmp 0))
  refine opsF_step rfl (YieldsK.lenRB del15_ty22 (RB.of (hrb.keep hE) (show _ = (vb : Value) from rfl)) ?_)    -- ref.go:36 t11 := (Op.call { callee := (Callee.builtin Builtin.len), args := #[(Operand.tmp 10)], argTypes := #[22] })
  refine opsF_step rfl (YieldsK.callA1 del15_pl20 (show _ = (.int .i64 ((B.length : Nat) : Int) : Value) from rfl) ?_)    -- ref.go:36 t12 := (Op.call { callee := (Callee.value (Operand.func 20)), args := #[(Operand.tmp 11)], argTypes := #[3] })
  refine (refNumber_any _ (B.length) (by omega)).mono ?_
  rintro e w6 ⟨v4, rfl, hN5⟩
  refine ⟨_, rfl, ?_⟩
  have hE : Ext w w6 := (hE.trans hN5.ext)
  have ho7 := hN5.own; clear hN5
  refine opsF_step rfl (YieldsK.move (show _ = (vt : Value) from T1) ?_)    -- ref.go:36 t13 := (Op.move (Operand.tmp 1))
  refine opsF_step rfl (YieldsK.lenRB del15_ty22 (RB.of (hrt.keep hE) (show _ = (vt : Value) from rfl)) ?_)    -- ref.go:36 t14 := (Op.call { callee := (Callee.builtin Builtin.len), args := #[(Operand.tmp 13)], argTypes := #[22] })
  refine opsF_step rfl (YieldsK.callA1 del15_pl20 (show _ = (.int .i64 ((T.length : Nat) : Int) : Value) from rfl) ?_)    -- ref.go:36 t15 := (Op.call { callee := (Callee.value (Operand.func 20)), args := #[(Operand.tmp 14)], argTypes := #[3] })
  refine (refNumber_any _ (T.length) (by omega)).mono ?_
  rintro e w10 ⟨v8, rfl, hN9⟩
  refine ⟨_, rfl, ?_⟩
  have hA11 := Ext.refl w6
  have hea12 := hE
  have hz13 : w.heap.size ≤ w6.heap.size := hE.size
  have hE : Ext w w10 := (hE.trans hN9.ext)
  have ho7 : w10.ownsRow w.heap.size 5 1 v4 (Lib.uvarint (B.length) : List UInt8).length (Lib.byteCells (Lib.uvarint (B.length))) := (Stab.own _ _ _ _ _ _ _ _ ho7 hN9.ext)
  have hA11 : Ext w6 w10 := (hA11.trans hN9.ext)
  have ho14 := hN9.own; clear hN9
  refine opsF_step rfl (YieldsK.appendRB _ _ w.heap.size (.int .u8 0) del15_ty22 del15_inf5 rfl del15_ty22 (Lib.uvarint (B.length)) (Lib.uvarint (T.length)) (own_of ho7 (show _ = (v4 : Value) from rfl)) (RB.of (RB.ofOwn ho14) (show _ = (v8 : Value) from rfl)) (by have := uvarint_len63 B.length (by omega); have := uvarint_len63 T.length (by omega); omega) hE.size fun v15 w16 ho17 hg18 => ?_)    -- ref.go:36 t16 := (Op.call { callee := (Callee.builtin Builtin.append), args := #[(Operand.tmp 12), (Operand.tmp 15)], argTypes 
  have hg18 : Grew w10 w16 v4 v15 := hg18
  have hE : Ext w w16 := ext_grew hE hg18 ho7 (Nat.le_refl _)
  clear ho7
  clear hA11
  clear ho14
  refine opsF_step rfl (YieldsK.assign (show _ = (v15 : Value) from rfl) ?_)    -- ref.go:36 t5 := (Op.assign (Operand.tmp 16))
  refine opsF_end (fun ρ => ρ 0 = (vb : Value) ∧ ρ 1 = (vt : Value) ∧ ρ 4 = ((Value.slice none 0 0) : Value) ∧ ρ 5 = (v15 : Value) ∧ True) ⟨T0, T1, T4, rfl, trivial⟩ fun ρ19 ⟨T0, T1, T4, T5, _⟩ => ?_
  refine thenF_normal (hK3 _ _ ?_)
  refine wpF_seq_k fun K20 hK20 => ?_
  refine wpF_text ?_
  refine opsF_step rfl (YieldsK.assign (show _ = ((Value.slice none 0 0) : Value) from rfl) ?_)    -- ref.go:37 t6 := (Op.assign (Operand.const (Value.slice none 0 0)))
  refine opsF_end (fun ρ => ρ 0 = (vb : Value) ∧ ρ 1 = (vt : Value) ∧ ρ 4 = ((Value.slice none 0 0) : Value) ∧ ρ 5 = (v15 : Value) ∧ ρ 6 = ((Value.slice none 0 0) : Value) ∧ True) ⟨T0, T1, T4, T5, rfl, trivial⟩ fun ρ21 ⟨T0, T1, T4, T5, T6, _⟩ => ?_
  refine thenF_normal (hK20 _ _ ?_)
  refine wpF_seq_k fun K22 hK22 => ?_
  refine wpF_seq_k fun K23 hK23 => ?_
  refine wpF_text ?_
  refine opsF_step rfl (YieldsK.assign (show _ = (.int .i64 ((0 : Nat) : Int) : Value) from rfl) ?_)    -- ref.go:38 t7 := (Op.assign (Operand.const (Value.int IntKind.i64 0)))
  refine opsF_end (fun ρ => ρ 0 = (vb : Value) ∧ ρ 1 = (vt : Value) ∧ ρ 4 = ((Value.slice none 0 0) : Value) ∧ ρ 5 = (v15 : Value) ∧ ρ 6 = ((Value.slice none 0 0) : Value) ∧ ρ 7 = (.int .i64 ((0 : Nat) : Int) : Value) ∧ True) ⟨T0, T1, T4, T5, T6, rfl, trivial⟩ fun ρ24 ⟨T0, T1, T4, T5, T6, T7, _⟩ => ?_
  refine thenF_normal (hK23 _ _ ?_)
  refine wpF_block ?_
  have hM0 : RM w w16 v15 (Lib.uvarint (B.length) ++ Lib.uvarint (T.length)) (Value.slice none 0 0) ([]) := ⟨hE, ownsRow_base ho17 (by have := hE.size; have := hE; omega), World.ownsRow_nil _ _ _ 1, fun k _ hk => by simp [Value.ownBlock] at hk⟩
  refine wpF_loop (fun (ρ : Slots) (wz : World) => ∃ ia : Nat, ∃ fr : Nat, ∃ f : Nat, ∃ o : List UInt8, ∃ va : Value, ∃ vd : Value, ρ 0 = (vb : Value) ∧ ρ 1 = (vt : Value) ∧ ρ 4 = ((Value.slice none 0 0) : Value) ∧ ρ 7 = (.int .i64 ((ia : Nat) : Int) : Value) ∧ ρ 5 = (va : Value) ∧ ρ 6 = (vd : Value) ∧ Ext w wz ∧ RM w wz va (o) vd ((T.drop fr).take (ia - fr)) ∧ (makeGo B T f ia fr o = makeP B T) ∧ (T.length ≤ ia + f) ∧ (fr ≤ ia) ∧ (ia ≤ T.length) ∧ (o.length ≤ 20 + 40 * fr) ∧ True) (fun ρ _ => T.length - (intOf (ρ 7)).toNat) ⟨0, 0, T.length, Lib.uvarint (B.length) ++ Lib.uvarint (T.length), v15, .slice none 0 0, T0, T1, T4, T7, T5, T6, hE, (show RM w _ _ _ _ _ from by simpa using hM0), rfl, by omega, Nat.le_refl _, Nat.zero_le _, by have := uvarint_len63 B.length (by omega); have := uvarint_len63 T.length (by omega); simp only [List.length_append]; omega, trivial⟩ ?_
  clear hM0
  clear hE
  rintro ρ25 w26 ⟨ia, fr, f, o, va, vd, T0, T1, T4, T7, T5, T6, hE, hM, hgo, hf, hfr, hat, hol, -⟩
  have q7 := T7
  have hld : ((T.drop fr).take (ia - fr)).length = ia - fr := by rw [List.length_take, List.length_drop]; omega
  refine wpF_seq_k fun K27 hK27 => ?_
  refine wpF_seq_k fun K28 hK28 => ?_
  refine wpF_text ?_
  refine opsF_step rfl (YieldsK.move (show _ = (.int .i64 ((ia : Nat) : Int) : Value) from T7) ?_)    -- ref.go:38 t17 := (Op.move (Operand.tmp 7))
  refine opsF_step rfl (YieldsK.move (show _ = (vt : Value) from T1) ?_)    -- ref.go:38 t18 := (Op.move (Operand.tmp 1))
  refine opsF_step rfl (YieldsK.lenRB del15_ty22 (RB.of (hrt.keep hE) (show _ = (vt : Value) from rfl)) ?_)    -- ref.go:38 t19 := (Op.call { callee := (Callee.builtin Builtin.len), args := #[(Operand.tmp 18)], argTypes := #[22] })
  refine opsF_step rfl (YieldsK.eqI (a := ((ia : Nat) : Int)) (b := ((T.length : Nat) : Int)) (show _ = (.int .i64 ((ia : Nat) : Int) : Value) from rfl) (show _ = (.int .i64 ((T.length : Nat) : Int) : Value) from rfl) (k_lss _ .i64 (ia) (T.length)) ?_)    -- ref.go:38 t20 := (Op.binOp BinOp.lss 3 (Operand.tmp 17) (Operand.tmp 19) 3)
  refine opsF_end (fun ρ => ρ 0 = (vb : Value) ∧ ρ 1 = (vt : Value) ∧ ρ 4 = ((Value.slice none 0 0) : Value) ∧ ρ 5 = (va : Value) ∧ ρ 6 = (vd : Value) ∧ ρ 7 = (.int .i64 ((ia : Nat) : Int) : Value) ∧ ρ 20 = (.bool (decide ((ia) < (T.length))) : Value) ∧ True) ⟨T0, T1, T4, T5, T6, T7, rfl, trivial⟩ fun ρ29 ⟨T0, T1, T4, T5, T6, T7, T20, _⟩ => ?_
  refine thenF_normal (hK28 _ _ ?_)
  refine wpF_cond ((ia) < (T.length)) (show _ = (.bool (decide ((ia) < (T.length))) : Value) from T20) (fun hc0 => ?_) (fun hc0 => ?_)
  · obtain ⟨f', rfl⟩ : ∃ f', f = f' + 1 := ⟨f - 1, by omega⟩
    refine wpF_skip ?_
    refine thenF_normal (hK27 _ _ ?_)
    refine wpF_block ?_
    refine wpF_seq_k fun K30 hK30 => ?_
    refine wpF_text ?_
    refine opsF_step rfl (YieldsK.move (show _ = (vb : Value) from T0) ?_)    -- ref.go:39 t22 := (Op.move (Operand.tmp 0))
    refine opsF_step rfl (YieldsK.move (show _ = (vt : Value) from T1) ?_)    -- ref.go:39 t23 := (Op.move (Operand.tmp 1))
    refine opsF_step rfl (YieldsK.move (show _ = (.int .i64 ((ia : Nat) : Int) : Value) from T7) ?_)    -- ref.go:39 t24 := (Op.move (Operand.tmp 7))
    refine opsF_step rfl (YieldsK.callA3 del15_pl21 (show _ = (vb : Value) from rfl) (show _ = (vt : Value) from rfl) (show _ = (.int .i64 ((ia : Nat) : Int) : Value) from rfl) ?_)    -- ref.go:39 t25 := (Op.call { callee := (Callee.value (Operand.func 21)), args := #[(Operand.tmp 22), (Operand.tmp 23), (Operand.
    refine (longest_any _ vb vt B T (hrb.keep hE) (hrt.keep hE) ia hat (by omega) (by omega)).mono ?_
    rintro e w32 ⟨rfl, hx31⟩
    refine ⟨_, rfl, ?_⟩
    have hE : Ext w w32 := (hE.trans hx31)
    have hM : RM w w32 va (o) vd ((T.drop fr).take (ia - fr)) := (hM.keep hx31)
    refine opsF_step rfl (YieldsK.move (show _ = (.tuple #[.int .i64 (((longP B T ia).1 : Nat) : Int), .int .i64 (((longP B T ia).2 : Nat) : Int)] : Value) from rfl) ?_)    -- ref.go:39 t21 := (Op.move (Operand.tmp 25))
    refine opsF_step rfl (YieldsK.extract (vs := [.int .i64 (((longP B T ia).1 : Nat) : Int), .int .i64 (((longP B T ia).2 : Nat) : Int)]) (show _ = (.tuple #[.int .i64 (((longP B T ia).1 : Nat) : Int), .int .i64 (((longP B T ia).2 : Nat) : Int)] : Value) from rfl) (show _ = some (.int .i64 (((longP B T ia).1 : Nat) : Int) : Value) from rfl) ?_)    -- ref.go:39 t26 := (Op.extract (Operand.tmp 21) 0)
    refine opsF_step rfl (YieldsK.extract (vs := [.int .i64 (((longP B T ia).1 : Nat) : Int), .int .i64 (((longP B T ia).2 : Nat) : Int)]) (show _ = (.tuple #[.int .i64 (((longP B T ia).1 : Nat) : Int), .int .i64 (((longP B T ia).2 : Nat) : Int)] : Value) from rfl) (show _ = some (.int .i64 (((longP B T ia).2 : Nat) : Int) : Value) from rfl) ?_)    -- ref.go:39 t27 := (Op.extract (Operand.tmp 21) 1)
    refine opsF_step rfl (YieldsK.assign (show _ = (.int .i64 (((longP B T ia).1 : Nat) : Int) : Value) from rfl) ?_)    -- ref.go:39 t8 := (Op.assign (Operand.tmp 26))
    refine opsF_step rfl (YieldsK.assign (show _ = (.int .i64 (((longP B T ia).2 : Nat) : Int) : Value) from rfl) ?_)    -- ref.go:39 t9 := (Op.assign (Operand.tmp 27))
    refine opsF_end (fun ρ => ρ 0 = (vb : Value) ∧ ρ 1 = (vt : Value) ∧ ρ 4 = ((Value.slice none 0 0) : Value) ∧ ρ 5 = (va : Value) ∧ ρ 6 = (vd : Value) ∧ ρ 7 = (.int .i64 ((ia : Nat) : Int) : Value) ∧ ρ 8 = (.int .i64 (((longP B T ia).1 : Nat) : Int) : Value) ∧ ρ 9 = (.int .i64 (((longP B T ia).2 : Nat) : Int) : Value) ∧ True) ⟨T0, T1, T4, T5, T6, T7, rfl, rfl, trivial⟩ fun ρ33 ⟨T0, T1, T4, T5, T6, T7, T8, T9, _⟩ => ?_
    obtain ⟨p, hp⟩ : ∃ p, p = (longP B T ia).1 := ⟨_, rfl⟩
    obtain ⟨n, hn⟩ : ∃ n, n = (longP B T ia).2 := ⟨_, rfl⟩
    have hbl := best_long B T ia hat
    rw [← hn] at T9 hbl
    rw [← hp] at T8
    have hble := best_le B T ia hat
    refine thenF_normal (hK30 _ _ ?_)
    refine wpF_seq_k fun K34 hK34 => ?_
    refine wpF_seq_k fun K35 hK35 => ?_
    refine wpF_text ?_
    refine opsF_step rfl (YieldsK.move (show _ = (.int .i64 ((n : Nat) : Int) : Value) from T9) ?_)    -- ref.go:40 t28 := (Op.move (Operand.tmp 9))
    refine opsF_step rfl (YieldsK.eqI (a := ((n : Nat) : Int)) (b := ((8 : Nat) : Int)) (show _ = (.int .i64 ((n : Nat) : Int) : Value) from rfl) (show _ = (.int .i64 ((8 : Nat) : Int) : Value) from rfl) (k_lss _ .i64 (n) (8)) ?_)    -- ref.go:40 t29 := (Op.binOp BinOp.lss 3 (Operand.tmp 28) (Operand.const (Value.int IntKind.i64 8)) 3)
    refine opsF_end (fun ρ => ρ 0 = (vb : Value) ∧ ρ 1 = (vt : Value) ∧ ρ 4 = ((Value.slice none 0 0) : Value) ∧ ρ 5 = (va : Value) ∧ ρ 6 = (vd : Value) ∧ ρ 7 = (.int .i64 ((ia : Nat) : Int) : Value) ∧ ρ 8 = (.int .i64 ((p : Nat) : Int) : Value) ∧ ρ 9 = (.int .i64 ((n : Nat) : Int) : Value) ∧ ρ 29 = (.bool (decide ((n) < (8))) : Value) ∧ True) ⟨T0, T1, T4, T5, T6, T7, T8, T9, rfl, trivial⟩ fun ρ36 ⟨T0, T1, T4, T5, T6, T7, T8, T9, T29, _⟩ => ?_
    refine thenF_normal (hK35 _ _ ?_)
    refine wpF_cond ((n) < (8)) (show _ = (.bool (decide ((n) < (8))) : Value) from T29) (fun hc1 => ?_) (fun hc1 => ?_)
    · have hb0 : (best B T ia).2 = 0 := by omega
      refine wpF_seq_k fun K37 hK37 => ?_
      refine wpF_text ?_
      refine opsF_step rfl (YieldsK.move (show _ = (vd : Value) from T6) ?_)    -- ref.go:41 t30 := (Op.move (Operand.tmp 6))
      refine opsF_step rfl (YieldsK.move (show _ = (vt : Value) from T1) ?_)    -- ref.go:41 t31 := (Op.move (Operand.tmp 1))
      refine opsF_step rfl (YieldsK.move (show _ = (.int .i64 ((ia : Nat) : Int) : Value) from T7) ?_)    -- ref.go:41 t32 := (Op.move (Operand.tmp 7))
      refine opsF_step rfl (YieldsK.atRB (l := T) (i := ia) del15_ty22 del15_sz5 (RB.of (hrt.keep hE) (show _ = (vt : Value) from rfl)) (show _ = (.int .i64 ((ia : Nat) : Int) : Value) from rfl) (hc0) fun v38 hp39 => ?_)    -- ref.go:41 t33 := (Op.indexAddr 22 (Operand.tmp 31) (Operand.tmp 32))
      refine opsF_step rfl (YieldsK.loadC del15_ty5 rfl (PCell.of hp39 (show _ = (v38 : Value) from rfl)) ?_)    -- ref.go:41 t34 := (Op.load 5 (Operand.tmp 33))
      refine opsF_step rfl (YieldsK.lit1 (b := T.getD (ia) 0) del15_l1_22 (show _ = (B8 (T.getD (ia) 0) : Value) from rfl) fun v40 w41 hN42 => ?_)    -- ref.go:41 t35 := (Op.buildSlice 22 1 #[(0, (Operand.tmp 34))])
      have hA43 := Ext.refl w32
      have hea44 := hE
      have hz45 : w.heap.size ≤ w32.heap.size := hE.size
      have hE : Ext w w41 := (hE.trans hN42.ext)
      have hA43 : Ext w32 w41 := (hA43.trans hN42.ext)
      have ho46 := hN42.own; clear hN42
      refine opsF_step rfl (YieldsK.appendRB _ _ w.heap.size (.int .u8 0) del15_ty22 del15_inf5 rfl del15_ty22 ((T.drop fr).take (ia - fr)) ([(T.getD (ia) 0 : UInt8)]) (own_of (hM.keep hA43).b (show _ = (vd : Value) from rfl)) (RB.of (RB.ofOwn ho46) (show _ = (v40 : Value) from rfl)) (by rw [List.length_take, List.length_drop]; simp; omega) (hM.keep hA43).ext.size fun v47 w48 ho49 hg50 => ?_)    -- ref.go:41 t36 := (Op.call { callee := (Callee.builtin Builtin.append), args := #[(Operand.tmp 30), (Operand.tmp 35)], argTypes 
      have hM51 := RM.growB (hM.keep hA43) hg50 ho49
      have hE : Ext w w48 := hM51.ext
      clear hA43
      clear ho46
      refine opsF_step rfl (YieldsK.assign (show _ = (v47 : Value) from rfl) ?_)    -- ref.go:41 t6 := (Op.assign (Operand.tmp 36))
      refine opsF_end (fun ρ => ρ 0 = (vb : Value) ∧ ρ 1 = (vt : Value) ∧ ρ 4 = ((Value.slice none 0 0) : Value) ∧ ρ 5 = (va : Value) ∧ ρ 6 = (v47 : Value) ∧ ρ 7 = (.int .i64 ((ia : Nat) : Int) : Value) ∧ ρ 8 = (.int .i64 ((p : Nat) : Int) : Value) ∧ ρ 9 = (.int .i64 ((n : Nat) : Int) : Value) ∧ True) ⟨T0, T1, T4, T5, rfl, T7, T8, T9, trivial⟩ fun ρ52 ⟨T0, T1, T4, T5, T6, T7, T8, T9, _⟩ => ?_
      refine thenF_normal (hK37 _ _ ?_)
      refine wpF_seq_k fun K53 hK53 => ?_
      refine wpF_text ?_
      refine opsF_step rfl (YieldsK.move (show _ = (.int .i64 ((ia : Nat) : Int) : Value) from T7) ?_)    -- ref.go:42 t37 := (Op.move (Operand.tmp 7))
      refine opsF_step rfl (YieldsK.bin (xv := .int .i64 ((ia : Nat) : Int)) (yv := .int .i64 ((1 : Nat) : Int)) (show _ = (.int .i64 ((ia : Nat) : Int) : Value) from rfl) (show _ = (.int .i64 ((1 : Nat) : Int) : Value) from rfl) rfl (i64_add _ (ia) (1) (by omega)) ?_)    -- ref.go:42 t38 := (Op.binOp BinOp.add 3 (Operand.tmp 37) (Operand.const (Value.int IntKind.i64 1)) 3)
      refine opsF_step rfl (YieldsK.assign (show _ = (.int .i64 (((ia) + (1) : Nat) : Int) : Value) from rfl) ?_)    -- ref.go:42 t7 := (Op.assign (Operand.tmp 38))
      refine opsF_end (fun ρ => ρ 0 = (vb : Value) ∧ ρ 1 = (vt : Value) ∧ ρ 4 = ((Value.slice none 0 0) : Value) ∧ ρ 5 = (va : Value) ∧ ρ 6 = (v47 : Value) ∧ ρ 7 = (.int .i64 (((ia) + (1) : Nat) : Int) : Value) ∧ ρ 8 = (.int .i64 ((p : Nat) : Int) : Value) ∧ ρ 9 = (.int .i64 ((n : Nat) : Int) : Value) ∧ True) ⟨T0, T1, T4, T5, T6, rfl, T8, T9, trivial⟩ fun ρ54 ⟨T0, T1, T4, T5, T6, T7, T8, T9, _⟩ => ?_
      refine thenF_normal (hK53 _ _ ?_)
      refine wpF_exit (thenF_exit (inBlockF_hit ?_))
      refine thenF_normal (And.intro ⟨ia + 1, fr, f', o, va, v47, T0, T1, T4, T7, T5, T6, hE, (show RM w _ _ _ _ _ from by rw [← take_one_more T fr ia hfr hc0]; exact hM51), by rw [makeGo, if_pos hc0, if_pos hb0] at hgo; exact hgo, by omega, by omega, by omega, hol, trivial⟩ ?_)
      show T.length - (intOf (ρ54 7)).toNat < T.length - (intOf (ρ25 7)).toNat
      rw [T7, q7]
      simp only [intOf, Int.toNat_natCast]; omega
    · have hbe : best B T ia = (p, n) := by rw [hp, hn]; exact (hbl.resolve_left (by omega)).2
      rw [hbe] at hble; simp only at hble
      refine wpF_skip ?_
      refine thenF_normal (hK34 _ _ ?_)
      refine wpF_seq_k fun K55 hK55 => ?_
      refine wpF_text ?_
      refine opsF_step rfl (YieldsK.move (show _ = (va : Value) from T5) ?_)    -- ref.go:45 t39 := (Op.move (Operand.tmp 5))
      refine opsF_step rfl (YieldsK.move (show _ = (vd : Value) from T6) ?_)    -- ref.go:45 t40 := (Op.move (Operand.tmp 6))
      refine opsF_step rfl (YieldsK.callA1 del15_pl22 (show _ = (vd : Value) from rfl) ?_)    -- ref.go:45 t41 := (Op.call { callee := (Callee.value (Operand.func 22)), args := #[(Operand.tmp 40)], argTypes := #[22] })
      refine (added_any _ vd ((T.drop fr).take (ia - fr)) (RB.ofOwn hM.b) (by rw [List.length_take, List.length_drop]; omega)).mono ?_
      rintro e w59 ⟨v56, rfl, hr57, hx58⟩
      refine ⟨_, rfl, ?_⟩
      have hE : Ext w w59 := (hE.trans hx58)
      have hM : RM w w59 va (o) vd ((T.drop fr).take (ia - fr)) := (hM.keep hx58)
      refine opsF_step rfl (YieldsK.appendRB _ _ w.heap.size (.int .u8 0) del15_ty22 del15_inf5 rfl del15_ty22 (o) (addP ((T.drop fr).take (ia - fr))) (own_of hM.a (show _ = (va : Value) from rfl)) (RB.of hr57 (show _ = (v56 : Value) from rfl)) (by have h5 := flushP_length T fr ia o (by omega); rw [flushP_T] at h5; rw [addP_flush T fr ia hfr hat]; simp only [List.length_append] at h5; omega) hM.ext.size fun v60 w61 ho62 hg63 => ?_)    -- ref.go:45 t42 := (Op.call { callee := (Callee.builtin Builtin.append), args := #[(Operand.tmp 39), (Operand.tmp 41)], argTypes 
      have hM64 := RM.growA hM hg63 ho62
      have hE : Ext w w61 := hM64.ext
      clear hM
      clear hr57
      refine opsF_step rfl (YieldsK.assign (show _ = (v60 : Value) from rfl) ?_)    -- ref.go:45 t5 := (Op.assign (Operand.tmp 42))
      refine opsF_end (fun ρ => ρ 0 = (vb : Value) ∧ ρ 1 = (vt : Value) ∧ ρ 4 = ((Value.slice none 0 0) : Value) ∧ ρ 5 = (v60 : Value) ∧ ρ 6 = (vd : Value) ∧ ρ 7 = (.int .i64 ((ia : Nat) : Int) : Value) ∧ ρ 8 = (.int .i64 ((p : Nat) : Int) : Value) ∧ ρ 9 = (.int .i64 ((n : Nat) : Int) : Value) ∧ True) ⟨T0, T1, T4, rfl, T6, T7, T8, T9, trivial⟩ fun ρ65 ⟨T0, T1, T4, T5, T6, T7, T8, T9, _⟩ => ?_
      refine thenF_normal (hK55 _ _ ?_)
      refine wpF_seq_k fun K66 hK66 => ?_
      refine wpF_text ?_
      refine opsF_step rfl (YieldsK.assign (show _ = ((Value.slice none 0 0) : Value) from rfl) ?_)    -- ref.go:46 t6 := (Op.assign (Operand.const (Value.slice none 0 0)))
      refine opsF_end (fun ρ => ρ 0 = (vb : Value) ∧ ρ 1 = (vt : Value) ∧ ρ 4 = ((Value.slice none 0 0) : Value) ∧ ρ 5 = (v60 : Value) ∧ ρ 6 = ((Value.slice none 0 0) : Value) ∧ ρ 7 = (.int .i64 ((ia : Nat) : Int) : Value) ∧ ρ 8 = (.int .i64 ((p : Nat) : Int) : Value) ∧ ρ 9 = (.int .i64 ((n : Nat) : Int) : Value) ∧ True) ⟨T0, T1, T4, T5, rfl, T7, T8, T9, trivial⟩ fun ρ67 ⟨T0, T1, T4, T5, T6, T7, T8, T9, _⟩ => ?_
      have hM68 := RM.reset hM64
      refine thenF_normal (hK66 _ _ ?_)
      refine wpF_seq_k fun K69 hK69 => ?_
      refine wpF_text ?_
      refine opsF_step rfl (YieldsK.move (show _ = (v60 : Value) from T5) ?_)    -- ref.go:47 t43 := (Op.move (Operand.tmp 5))
      refine opsF_step rfl (YieldsK.move (show _ = (.int .i64 ((n : Nat) : Int) : Value) from T9) ?_)    -- ref.go:47 t44 := (Op.move (Operand.tmp 9))
      refine opsF_step rfl (YieldsK.bin (xv := .int .i64 ((2 : Nat) : Int)) (yv := .int .i64 ((n : Nat) : Int)) (show _ = (.int .i64 ((2 : Nat) : Int) : Value) from rfl) (show _ = (.int .i64 ((n : Nat) : Int) : Value) from rfl) rfl (i64_mul _ (2) (n) (by omega)) ?_)    -- ref.go:47 t45 := (Op.binOp BinOp.mul 3 (Operand.const (Value.int IntKind.i64 2)) (Operand.tmp 44) 3)
      refine opsF_step rfl (YieldsK.bin (xv := .int .i64 (((2) * (n) : Nat) : Int)) (yv := .int .i64 ((1 : Nat) : Int)) (show _ = (.int .i64 (((2) * (n) : Nat) : Int) : Value) from rfl) (show _ = (.int .i64 ((1 : Nat) : Int) : Value) from rfl) rfl (i64_add _ ((2) * (n)) (1) (by omega)) ?_)    -- ref.go:47 t46 := (Op.binOp BinOp.add 3 (Operand.tmp 45) (Operand.const (Value.int IntKind.i64 1)) 3)
      refine opsF_step rfl (YieldsK.callA1 del15_pl20 (show _ = (.int .i64 ((((2) * (n)) + (1) : Nat) : Int) : Value) from rfl) ?_)    -- ref.go:47 t47 := (Op.call { callee := (Callee.value (Operand.func 20)), args := #[(Operand.tmp 46)], argTypes := #[3] })
      refine (refNumber_any _ (((2) * (n)) + (1)) (by omega)).mono ?_
      rintro e w72 ⟨v70, rfl, hN71⟩
      refine ⟨_, rfl, ?_⟩
      have hA73 := Ext.refl w61
      have hea74 := hE
      have hz75 : w.heap.size ≤ w61.heap.size := hE.size
      have hE : Ext w w72 := (hE.trans hN71.ext)
      have hA73 : Ext w61 w72 := (hA73.trans hN71.ext)
      have ho76 := hN71.own; clear hN71
      refine opsF_step rfl (YieldsK.appendRB _ _ w.heap.size (.int .u8 0) del15_ty22 del15_inf5 rfl del15_ty22 ((o) ++ (addP ((T.drop fr).take (ia - fr)) : List UInt8)) (Lib.uvarint (((2) * (n)) + (1))) (own_of (hM68.keep hA73).a (show _ = (v60 : Value) from rfl)) (RB.of (RB.ofOwn ho76) (show _ = (v70 : Value) from rfl)) (by have h5 := flushP_length T fr ia o (by omega); rw [flushP_T] at h5; rw [addP_flush T fr ia hfr hat]; have h6 := uvarint_len63 (2 * n + 1) (by omega); have h7 := uvarint_len63 p (by omega); simp only [List.length_append] at h5 ⊢; omega) (hM68.keep hA73).ext.size fun v77 w78 ho79 hg80 => ?_)    -- ref.go:47 t48 := (Op.call { callee := (Callee.builtin Builtin.append), args := #[(Operand.tmp 43), (Operand.tmp 47)], argTypes 
      have hM81 := RM.growA (hM68.keep hA73) hg80 ho79
      have hE : Ext w w78 := hM81.ext
      clear hA73
      clear ho76
      refine opsF_step rfl (YieldsK.assign (show _ = (v77 : Value) from rfl) ?_)    -- ref.go:47 t5 := (Op.assign (Operand.tmp 48))
      refine opsF_end (fun ρ => ρ 0 = (vb : Value) ∧ ρ 1 = (vt : Value) ∧ ρ 4 = ((Value.slice none 0 0) : Value) ∧ ρ 5 = (v77 : Value) ∧ ρ 6 = ((Value.slice none 0 0) : Value) ∧ ρ 7 = (.int .i64 ((ia : Nat) : Int) : Value) ∧ ρ 8 = (.int .i64 ((p : Nat) : Int) : Value) ∧ ρ 9 = (.int .i64 ((n : Nat) : Int) : Value) ∧ True) ⟨T0, T1, T4, rfl, T6, T7, T8, T9, trivial⟩ fun ρ82 ⟨T0, T1, T4, T5, T6, T7, T8, T9, _⟩ => ?_
      refine thenF_normal (hK69 _ _ ?_)
      refine wpF_seq_k fun K83 hK83 => ?_
      refine wpF_text ?_
      refine opsF_step rfl (YieldsK.move (show _ = (v77 : Value) from T5) ?_)    -- ref.go:48 t49 := (Op.move (Operand.tmp 5))
      refine opsF_step rfl (YieldsK.move (show _ = (.int .i64 ((p : Nat) : Int) : Value) from T8) ?_)    -- ref.go:48 t50 := (Op.move (Operand.tmp 8))
      refine opsF_step rfl (YieldsK.callA1 del15_pl20 (show _ = (.int .i64 ((p : Nat) : Int) : Value) from rfl) ?_)    -- ref.go:48 t51 := (Op.call { callee := (Callee.value (Operand.func 20)), args := #[(Operand.tmp 50)], argTypes := #[3] })
      refine (refNumber_any _ (p) (by omega)).mono ?_
      rintro e w86 ⟨v84, rfl, hN85⟩
      refine ⟨_, rfl, ?_⟩
      have hA87 := Ext.refl w78
      have hea88 := hE
      have hz89 : w.heap.size ≤ w78.heap.size := hE.size
      have hE : Ext w w86 := (hE.trans hN85.ext)
      have hA87 : Ext w78 w86 := (hA87.trans hN85.ext)
      have ho90 := hN85.own; clear hN85
      refine opsF_step rfl (YieldsK.appendRB _ _ w.heap.size (.int .u8 0) del15_ty22 del15_inf5 rfl del15_ty22 (((o) ++ (addP ((T.drop fr).take (ia - fr)) : List UInt8)) ++ (Lib.uvarint (((2) * (n)) + (1)) : List UInt8)) (Lib.uvarint (p)) (own_of (hM81.keep hA87).a (show _ = (v77 : Value) from rfl)) (RB.of (RB.ofOwn ho90) (show _ = (v84 : Value) from rfl)) (by have h5 := flushP_length T fr ia o (by omega); rw [flushP_T] at h5; rw [addP_flush T fr ia hfr hat]; have h6 := uvarint_len63 (2 * n + 1) (by omega); have h7 := uvarint_len63 p (by omega); simp only [List.length_append] at h5 ⊢; omega) (hM81.keep hA87).ext.size fun v91 w92 ho93 hg94 => ?_)    -- ref.go:48 t52 := (Op.call { callee := (Callee.builtin Builtin.append), args := #[(Operand.tmp 49), (Operand.tmp 51)], argTypes 
      have hM95 := RM.growA (hM81.keep hA87) hg94 ho93
      have hE : Ext w w92 := hM95.ext
      clear hA87
      clear ho90
      refine opsF_step rfl (YieldsK.assign (show _ = (v91 : Value) from rfl) ?_)    -- ref.go:48 t5 := (Op.assign (Operand.tmp 52))
      refine opsF_end (fun ρ => ρ 0 = (vb : Value) ∧ ρ 1 = (vt : Value) ∧ ρ 4 = ((Value.slice none 0 0) : Value) ∧ ρ 5 = (v91 : Value) ∧ ρ 6 = ((Value.slice none 0 0) : Value) ∧ ρ 7 = (.int .i64 ((ia : Nat) : Int) : Value) ∧ ρ 8 = (.int .i64 ((p : Nat) : Int) : Value) ∧ ρ 9 = (.int .i64 ((n : Nat) : Int) : Value) ∧ True) ⟨T0, T1, T4, rfl, T6, T7, T8, T9, trivial⟩ fun ρ96 ⟨T0, T1, T4, T5, T6, T7, T8, T9, _⟩ => ?_
      refine thenF_normal (hK83 _ _ ?_)
      refine wpF_text ?_
      refine opsF_step rfl (YieldsK.move (show _ = (.int .i64 ((ia : Nat) : Int) : Value) from T7) ?_)    -- ref.go:49 t53 := (Op.move (Operand.tmp 7))
      refine opsF_step rfl (YieldsK.move (show _ = (.int .i64 ((n : Nat) : Int) : Value) from T9) ?_)    -- ref.go:49 t54 := (Op.move (Operand.tmp 9))
      refine opsF_step rfl (YieldsK.bin (xv := .int .i64 ((ia : Nat) : Int)) (yv := .int .i64 ((n : Nat) : Int)) (show _ = (.int .i64 ((ia : Nat) : Int) : Value) from rfl) (show _ = (.int .i64 ((n : Nat) : Int) : Value) from rfl) rfl (i64_add _ (ia) (n) (by omega)) ?_)    -- ref.go:49 t55 := (Op.binOp BinOp.add 3 (Operand.tmp 53) (Operand.tmp 54) 3)
      refine opsF_step rfl (YieldsK.assign (show _ = (.int .i64 (((ia) + (n) : Nat) : Int) : Value) from rfl) ?_)    -- ref.go:49 t7 := (Op.assign (Operand.tmp 55))
      refine opsF_end (fun ρ => ρ 0 = (vb : Value) ∧ ρ 1 = (vt : Value) ∧ ρ 4 = ((Value.slice none 0 0) : Value) ∧ ρ 5 = (v91 : Value) ∧ ρ 6 = ((Value.slice none 0 0) : Value) ∧ ρ 7 = (.int .i64 (((ia) + (n) : Nat) : Int) : Value) ∧ ρ 8 = (.int .i64 ((p : Nat) : Int) : Value) ∧ ρ 9 = (.int .i64 ((n : Nat) : Int) : Value) ∧ True) ⟨T0, T1, T4, T5, T6, rfl, T8, T9, trivial⟩ fun ρ97 ⟨T0, T1, T4, T5, T6, T7, T8, T9, _⟩ => ?_
      refine inBlockF_normal ?_
      refine thenF_normal (And.intro ⟨ia + n, ia + n, f', (((o) ++ (addP ((T.drop fr).take (ia - fr)) : List UInt8)) ++ (Lib.uvarint (((2) * (n)) + (1)) : List UInt8)) ++ (Lib.uvarint (p) : List UInt8), v91, .slice none 0 0, T0, T1, T4, T7, T5, T6, hE, (show RM w _ _ _ _ _ from by rw [Nat.sub_self, List.take_zero]; exact hM95), by rw [makeGo, if_pos hc0, if_neg (by rw [hbe]; omega), hbe, flushP_T] at hgo; rw [addP_flush T fr ia hfr hat]; exact hgo, by omega, by omega, by omega, by rw [addP_flush T fr ia hfr hat]; have h5 := flushP_length T fr ia o (by omega); rw [flushP_T] at h5; have h6 := uvarint_len63 (2 * n + 1) (by omega); have h7 := uvarint_len63 p (by omega); simp only [List.length_append] at h5 ⊢; omega, trivial⟩ ?_)
      show T.length - (intOf (ρ97 7)).toNat < T.length - (intOf (ρ25 7)).toNat
      rw [T7, q7]
      simp only [intOf, Int.toNat_natCast]; omega
  · rw [makeGo_end hc0, flushP_T] at hgo
    have hie : ia = T.length := by omega
    refine wpF_exit (thenF_exit (thenF_exit (inBlockF_hit ?_)))
    refine thenF_normal (hK22 _ _ ?_)
    refine wpF_seq_k fun K98 hK98 => ?_
    refine wpF_text ?_
    refine opsF_step rfl (YieldsK.move (show _ = (va : Value) from T5) ?_)    -- ref.go:51 t56 := (Op.move (Operand.tmp 5))
    refine opsF_step rfl (YieldsK.move (show _ = (vd : Value) from T6) ?_)    -- ref.go:51 t57 := (Op.move (Operand.tmp 6))
    refine opsF_step rfl (YieldsK.callA1 del15_pl22 (show _ = (vd : Value) from rfl) ?_)    -- ref.go:51 t58 := (Op.call { callee := (Callee.value (Operand.func 22)), args := #[(Operand.tmp 57)], argTypes := #[22] })
    refine (added_any _ vd ((T.drop fr).take (ia - fr)) (RB.ofOwn hM.b) (by rw [List.length_take, List.length_drop]; omega)).mono ?_
    rintro e w102 ⟨v99, rfl, hr100, hx101⟩
    refine ⟨_, rfl, ?_⟩
    have hE : Ext w w102 := (hE.trans hx101)
    have hM : RM w w102 va (o) vd ((T.drop fr).take (ia - fr)) := (hM.keep hx101)
    refine opsF_step rfl (YieldsK.appendRB _ _ w.heap.size (.int .u8 0) del15_ty22 del15_inf5 rfl del15_ty22 (o) (addP ((T.drop fr).take (ia - fr))) (own_of hM.a (show _ = (va : Value) from rfl)) (RB.of hr100 (show _ = (v99 : Value) from rfl)) (by have h5 := flushP_length T fr ia o (by omega); rw [flushP_T] at h5; rw [addP_flush T fr ia hfr hat]; simp only [List.length_append] at h5; omega) hM.ext.size fun v103 w104 ho105 hg106 => ?_)    -- ref.go:51 t59 := (Op.call { callee := (Callee.builtin Builtin.append), args := #[(Operand.tmp 56), (Operand.tmp 58)], argTypes 
    have hM107 := RM.growA hM hg106 ho105
    have hE : Ext w w104 := hM107.ext
    clear hM
    clear hr100
    refine opsF_step rfl (YieldsK.assign (show _ = (v103 : Value) from rfl) ?_)    -- ref.go:51 t4 := (Op.assign (Operand.tmp 59))
    refine opsF_end (fun ρ => ρ 0 = (vb : Value) ∧ ρ 1 = (vt : Value) ∧ ρ 4 = (v103 : Value) ∧ ρ 5 = (va : Value) ∧ ρ 6 = (vd : Value) ∧ ρ 7 = (.int .i64 ((ia : Nat) : Int) : Value) ∧ True) ⟨T0, T1, rfl, T5, T6, T7, trivial⟩ fun ρ108 ⟨T0, T1, T4, T5, T6, T7, _⟩ => ?_
    refine thenF_normal (hK98 _ _ ?_)
    refine wpF_ret ?_
    refine postF_ret (fn := Try.f10) _ rfl [v103] (v103) rfl ⟨T4, trivial⟩ ?_
    have hR := RB.ofOwn hM107.a
    rw [addP_flush T fr ia hfr hat] at hR
    rw [hie, hgo] at hR
    exact ⟨_, rfl, hR, hM107.ext⟩
end Go.Proofs.Ytfjmbcjcgdfkfaa
