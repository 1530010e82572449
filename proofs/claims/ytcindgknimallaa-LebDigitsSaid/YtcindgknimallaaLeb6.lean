/- strings.Builder: what WriteByte does. -/
import Derived.Test.YtcindgknimallaaBuilder
import Derived.Test.YtcindgknimallaaRows
namespace Go.Proofs.Ytcindgknimallaa
open Go.RowKit
theorem leb6_tyU64 : Try.prog.underlying 64 = some .unsafePointer := by kernel_rfl
theorem leb6_ne (a : Option Addr) (w : World) : (callFunc 35 #[.pointer a]).run Try.prog w = .ok (.value (.pointer a)) w := by kernel_rfl
theorem leb6_li : liesAt Try.prog Try.prog.depth 57 (2 / Try.prog.cellsOf 57) 0 57 1 = true := by kernel_rfl
theorem leb6_fo57_0 : FieldOff Try.prog 57 0 0 := fun b o w => by simp [go_sem]
theorem leb6_ty55 : Try.prog.underlying 55 = some (.pointer 57) := by kernel_rfl
theorem leb6_isz57 : (Try.prog.info? 57).map (·.size) = some 2 := by kernel_rfl
theorem leb6_isz55 : (Try.prog.info? 55).map (·.size) = some 1 := by kernel_rfl
theorem leb6_pl32 : Plain Try.prog 32 := fun _ _ => by kernel_rfl
theorem leb6_fo57_1 : FieldOff Try.prog 57 1 1 := fun b o w => by simp [go_sem]
theorem leb6_ty22 : Try.prog.underlying 22 = some (.slice 5) := by kernel_rfl
theorem leb6_l1_22 (z : Int) (w : World) : (Instr.buildSlice 22 1 #[(0, .int .u8 z)]).run Try.prog w = .ok (.slice (some ⟨w.heap.size, 0, none⟩) 1 1) (w.alloc (.cells #[.int .u8 z] 5)) := by kernel_rfl
theorem leb6_inf5 : (Try.prog.info? 5).map (fun i => (i.zero, i.size, i.bytes)) = some (some (.int .u8 0), 1, 1) := by kernel_rfl
theorem leb6_isz22 : (Try.prog.info? 22).map (·.size) = some 1 := by kernel_rfl
theorem copyCheck_none (w : World) (b : Nat) (v : Value) (hb : w.heap[b]? = some (.cells ([.pointer none, v] : List Value).toArray 57 (0, 0))) :
    Calls Try.prog 32 #[.pointer (some ⟨b, 0, none⟩)] w fun e w' => e = .returned (.tuple #[]) ∧ w'.heap[b]? = some (.cells ([.pointer (some ⟨b, 0, none⟩), v] : List Value).toArray 57 (0, 0)) ∧ w.grownBy w' (some b) := by
  have hgr : w.grownBy w (some b) := World.grownBy.refl _ _
  refine calls_of_wpF (args := [.pointer (some ⟨b, 0, none⟩)]) Try.func32 rfl 20 rfl (Nat.le_of_ble_eq_true rfl) ?_
  intro ρ0 hb
  have T0 : ρ0 0 = (.pointer (some ⟨b, 0, none⟩) : Value) := hb.get 0
  clear hb
  refine wpF_seq_k fun K1 hK1 => ?_
  refine wpF_text ?_
  refine opsF_step rfl (YieldsK.move (show _ = (.pointer (some ⟨b, 0, none⟩) : Value) from T0) ?_)    -- builder.go:33 t2 := (Op.move (Operand.tmp 0))
  refine opsF_step rfl (YieldsK.nilCheck (show _ = (.pointer (some ⟨b, 0, none⟩) : Value) from rfl) ?_)    -- builder.go:33 t3 := (Op.nilCheck (Operand.tmp 2))
  refine opsF_step rfl (YieldsK.fieldAt leb6_fo57_0 (show _ = (.pointer (some ⟨b, 0, none⟩) : Value) from rfl) ?_)    -- builder.go:33 t4 := (Op.fieldAddr 57 (Operand.tmp 3) 0)
  refine opsF_step rfl (YieldsK.cell1 leb6_ty55 rfl (show _ = (.pointer (some ⟨b, 0, none⟩) : Value) from rfl) (cellAt hb (show _ = some (.pointer none : Value) from rfl)) ?_)    -- builder.go:33 t5 := (Op.load 55 (Operand.tmp 4))
  refine opsF_step rfl (YieldsK.eqlNil leb6_ty55 (show _ = (.pointer none : Value) from rfl) ?_)    -- builder.go:33 t6 := (Op.binOp BinOp.eql 55 (Operand.tmp 5) (Operand.const (Value.pointer none)) 55)
  refine opsF_end (fun ρ => ρ 0 = (.pointer (some ⟨b, 0, none⟩) : Value) ∧ ρ 6 = (.bool (true) : Value) ∧ True) ⟨T0, rfl, trivial⟩ fun ρ2 ⟨T0, T6, _⟩ => ?_
  refine thenF_normal (hK1 _ _ ?_)
  refine wpF_true (show _ = (.bool (true) : Value) from T6) ?_
  refine wpF_text ?_
  refine opsF_step rfl (YieldsK.move (show _ = (.pointer (some ⟨b, 0, none⟩) : Value) from T0) ?_)    -- builder.go:39 t7 := (Op.move (Operand.tmp 0))
  refine opsF_step rfl (YieldsK.move (show _ = (.pointer (some ⟨b, 0, none⟩) : Value) from T0) ?_)    -- builder.go:39 t8 := (Op.move (Operand.tmp 0))
  refine opsF_step rfl (YieldsK.toUnsafe leb6_ty55 leb6_tyU64 leb6_isz57 (by decide) (show _ = (.pointer (some ⟨b, 0, none⟩) : Value) from rfl) hb (Nat.le_of_ble_eq_true rfl) ?_)    -- builder.go:39 t9 := (Op.convert 55 64 (Operand.tmp 8))
  refine opsF_step rfl (YieldsK.extern1 (show _ = (.pointer (some ⟨b, 0, none⟩) : Value) from rfl) (leb6_ne _ _) ?_)    -- builder.go:39 t10 := (Op.call { callee := (Callee.value (Operand.func 35)), args := #[(Operand.tmp 9)], argTypes := #[64] })
  refine opsF_step rfl (YieldsK.fromUnsafe leb6_tyU64 leb6_ty55 leb6_isz57 (show _ = (.pointer (some ⟨b, 0, none⟩) : Value) from rfl) hb (m := 2) rfl leb6_li ?_)    -- builder.go:39 t11 := (Op.convert 64 55 (Operand.tmp 10))
  refine opsF_step rfl (YieldsK.nilCheck (show _ = (.pointer (some ⟨b, 0, none⟩) : Value) from rfl) ?_)    -- builder.go:39 t12 := (Op.nilCheck (Operand.tmp 7))
  refine opsF_step rfl (YieldsK.fieldAt leb6_fo57_0 (show _ = (.pointer (some ⟨b, 0, none⟩) : Value) from rfl) ?_)    -- builder.go:39 t13 := (Op.fieldAddr 57 (Operand.tmp 12) 0)
  refine opsF_step rfl (YieldsK.storeC (i := 0) (v := .pointer (some ⟨b, 0, none⟩)) (show _ = (.pointer (some ⟨b, 0, none⟩) : Value) from rfl) (show _ = (.pointer (some ⟨b, 0, none⟩) : Value) from rfl) hb (Nat.le_of_ble_eq_true rfl) leb6_isz55 rfl rfl fun w3 hb4 hg5 hs6 => ?_)    -- builder.go:39 tNone := (Op.store 55 (Operand.tmp 13) (Operand.tmp 11))
  clear hb
  have hgr : w.grownBy w3 (some b) := grownBy_trans hgr hg5 (fun _ e => .inl e)
  have hb := hb4; clear hb4
  have hl7 : b < w3.heap.size := (Array.getElem?_eq_some_iff.1 hb).1
  refine opsF_end (fun ρ => ρ 0 = (.pointer (some ⟨b, 0, none⟩) : Value) ∧ ρ 6 = (.bool (true) : Value) ∧ True) ⟨T0, T6, trivial⟩ fun ρ8 ⟨T0, T6, _⟩ => ?_
  refine postF_end (fn := Try.f32) [] rfl [] (.tuple #[]) rfl trivial ?_
  exact ⟨rfl, hb, hgr⟩

theorem copyCheck_some (w : World) (b : Nat) (v : Value) (hb : w.heap[b]? = some (.cells ([.pointer (some ⟨b, 0, none⟩), v] : List Value).toArray 57 (0, 0))) :
    Calls Try.prog 32 #[.pointer (some ⟨b, 0, none⟩)] w fun e w' => e = .returned (.tuple #[]) ∧ w'.heap[b]? = some (.cells ([.pointer (some ⟨b, 0, none⟩), v] : List Value).toArray 57 (0, 0)) ∧ w.grownBy w' (some b) := by
  have hgr : w.grownBy w (some b) := World.grownBy.refl _ _
  refine calls_of_wpF (args := [.pointer (some ⟨b, 0, none⟩)]) Try.func32 rfl 20 rfl (Nat.le_of_ble_eq_true rfl) ?_
  intro ρ0 hb
  have T0 : ρ0 0 = (.pointer (some ⟨b, 0, none⟩) : Value) := hb.get 0
  clear hb
  refine wpF_seq_k fun K1 hK1 => ?_
  refine wpF_text ?_
  refine opsF_step rfl (YieldsK.move (show _ = (.pointer (some ⟨b, 0, none⟩) : Value) from T0) ?_)    -- builder.go:33 t2 := (Op.move (Operand.tmp 0))
  refine opsF_step rfl (YieldsK.nilCheck (show _ = (.pointer (some ⟨b, 0, none⟩) : Value) from rfl) ?_)    -- builder.go:33 t3 := (Op.nilCheck (Operand.tmp 2))
  refine opsF_step rfl (YieldsK.fieldAt leb6_fo57_0 (show _ = (.pointer (some ⟨b, 0, none⟩) : Value) from rfl) ?_)    -- builder.go:33 t4 := (Op.fieldAddr 57 (Operand.tmp 3) 0)
  refine opsF_step rfl (YieldsK.cell1 leb6_ty55 rfl (show _ = (.pointer (some ⟨b, 0, none⟩) : Value) from rfl) (cellAt hb (show _ = some (.pointer (some ⟨b, 0, none⟩) : Value) from rfl)) ?_)    -- builder.go:33 t5 := (Op.load 55 (Operand.tmp 4))
  refine opsF_step rfl (YieldsK.eqlNil leb6_ty55 (show _ = (.pointer (some ⟨b, 0, none⟩) : Value) from rfl) ?_)    -- builder.go:33 t6 := (Op.binOp BinOp.eql 55 (Operand.tmp 5) (Operand.const (Value.pointer none)) 55)
  refine opsF_end (fun ρ => ρ 0 = (.pointer (some ⟨b, 0, none⟩) : Value) ∧ ρ 6 = (.bool (false) : Value) ∧ True) ⟨T0, rfl, trivial⟩ fun ρ2 ⟨T0, T6, _⟩ => ?_
  refine thenF_normal (hK1 _ _ ?_)
  refine wpF_false (show _ = (.bool (false) : Value) from T6) ?_
  refine wpF_seq_k fun K3 hK3 => ?_
  refine wpF_text ?_
  refine opsF_step rfl (YieldsK.move (show _ = (.pointer (some ⟨b, 0, none⟩) : Value) from T0) ?_)    -- builder.go:40 t14 := (Op.move (Operand.tmp 0))
  refine opsF_step rfl (YieldsK.nilCheck (show _ = (.pointer (some ⟨b, 0, none⟩) : Value) from rfl) ?_)    -- builder.go:40 t15 := (Op.nilCheck (Operand.tmp 14))
  refine opsF_step rfl (YieldsK.fieldAt leb6_fo57_0 (show _ = (.pointer (some ⟨b, 0, none⟩) : Value) from rfl) ?_)    -- builder.go:40 t16 := (Op.fieldAddr 57 (Operand.tmp 15) 0)
  refine opsF_step rfl (YieldsK.cell1 leb6_ty55 rfl (show _ = (.pointer (some ⟨b, 0, none⟩) : Value) from rfl) (cellAt hb (show _ = some (.pointer (some ⟨b, 0, none⟩) : Value) from rfl)) ?_)    -- builder.go:40 t17 := (Op.load 55 (Operand.tmp 16))
  refine opsF_step rfl (YieldsK.move (show _ = (.pointer (some ⟨b, 0, none⟩) : Value) from T0) ?_)    -- builder.go:40 t18 := (Op.move (Operand.tmp 0))
  refine opsF_step rfl (YieldsK.neqSame leb6_ty55 leb6_isz57 (show _ = (.pointer (some ⟨b, 0, none⟩) : Value) from rfl) (show _ = (.pointer (some ⟨b, 0, none⟩) : Value) from rfl) ?_)    -- builder.go:40 t19 := (Op.binOp BinOp.neq 55 (Operand.tmp 17) (Operand.tmp 18) 55)
  refine opsF_end (fun ρ => ρ 0 = (.pointer (some ⟨b, 0, none⟩) : Value) ∧ ρ 6 = (.bool (false) : Value) ∧ ρ 19 = (.bool (false) : Value) ∧ True) ⟨T0, T6, rfl, trivial⟩ fun ρ4 ⟨T0, T6, T19, _⟩ => ?_
  refine thenF_normal (hK3 _ _ ?_)
  refine wpF_false (show _ = (.bool (false) : Value) from T19) ?_
  refine wpF_skip ?_
  refine postF_end (fn := Try.f32) [] rfl [] (.tuple #[]) rfl trivial ?_
  exact ⟨rfl, hb, hgr⟩

theorem copyCheck_any (w : World) (b : Nat) (p v : Value) (hp : p = .pointer none ∨ p = .pointer (some ⟨b, 0, none⟩)) (hb : w.heap[b]? = some (.cells ([p, v] : List Value).toArray 57 (0, 0))) :
    Calls Try.prog 32 #[.pointer (some ⟨b, 0, none⟩)] w fun e w' => e = .returned (.tuple #[]) ∧ w'.heap[b]? = some (.cells ([.pointer (some ⟨b, 0, none⟩), v] : List Value).toArray 57 (0, 0)) ∧ w.grownBy w' (some b) := by
  rcases hp with rfl | rfl
  · exact copyCheck_none w b v hb
  · exact copyCheck_some w b v hb

theorem writeByte_any (w0 w : World) (h0 : Ext w0 w) (b : Nat) (l : List UInt8) (hB : BAt w w0 b l) (c : UInt8) (hl : l.length < 140737488355328) :
    Calls Try.prog 28 #[.pointer (some ⟨b, 0, none⟩), B8 c] w fun e w' => e = .returned .nilIface ∧ BAt w' w0 b (l ++ [c]) ∧ Ext w0 w' := by
  obtain ⟨hb0, p, v, hp, hb, ho, hne⟩ := hB
  refine calls_of_wpF (args := [.pointer (some ⟨b, 0, none⟩), B8 (c)]) Try.func28 rfl 17 rfl (Nat.le_of_ble_eq_true rfl) ?_
  intro ρ0 hb
  have T0 : ρ0 0 = (.pointer (some ⟨b, 0, none⟩) : Value) := hb.get 0
  have T1 : ρ0 1 = (B8 (c) : Value) := hb.get 1
  clear hb
  refine wpF_seq_k fun K1 hK1 => ?_
  refine wpF_text ?_
  refine opsF_step rfl (YieldsK.assign (show _ = ((Value.nilIface) : Value) from rfl) ?_)    -- builder.go:95 t4 := (Op.assign (Operand.const Value.nilIface))
  refine opsF_end (fun ρ => ρ 0 = (.pointer (some ⟨b, 0, none⟩) : Value) ∧ ρ 1 = (B8 (c) : Value) ∧ ρ 4 = ((Value.nilIface) : Value) ∧ True) ⟨T0, T1, rfl, trivial⟩ fun ρ2 ⟨T0, T1, T4, _⟩ => ?_
  refine thenF_normal (hK1 _ _ ?_)
  refine wpF_seq_k fun K3 hK3 => ?_
  refine wpF_text ?_
  refine opsF_step rfl (YieldsK.move (show _ = (.pointer (some ⟨b, 0, none⟩) : Value) from T0) ?_)    -- builder.go:96 t5 := (Op.move (Operand.tmp 0))
  refine opsF_step rfl (YieldsK.callA1 leb6_pl32 (show _ = (.pointer (some ⟨b, 0, none⟩) : Value) from rfl) ?_)    -- builder.go:96 t6 := (Op.call { callee := (Callee.value (Operand.func 32)), args := #[(Operand.tmp 5)], argTypes := #[55] })
  refine (copyCheck_any _ b p v hp hb).mono ?_
  rintro e w4 ⟨rfl, hb1, hg1⟩
  refine ⟨_, rfl, ?_⟩
  have h0 : Ext w0 w4 := row_fresh h0 hg1 (Nat.le_trans (Nat.le_refl _) hb0)
  clear hb
  have ho : w4.ownsRow w0.heap.size 5 1 v l.length (Lib.byteCells l) := own_kept ho hg1 hne
  have hb := hb1; clear hb1
  refine opsF_end (fun ρ => ρ 0 = (.pointer (some ⟨b, 0, none⟩) : Value) ∧ ρ 1 = (B8 (c) : Value) ∧ ρ 4 = ((Value.nilIface) : Value) ∧ True) ⟨T0, T1, T4, trivial⟩ fun ρ5 ⟨T0, T1, T4, _⟩ => ?_
  refine thenF_normal (hK3 _ _ ?_)
  refine wpF_seq_k fun K6 hK6 => ?_
  refine wpF_text ?_
  refine opsF_step rfl (YieldsK.move (show _ = (.pointer (some ⟨b, 0, none⟩) : Value) from T0) ?_)    -- builder.go:97 t7 := (Op.move (Operand.tmp 0))
  refine opsF_step rfl (YieldsK.move (show _ = (.pointer (some ⟨b, 0, none⟩) : Value) from T0) ?_)    -- builder.go:97 t8 := (Op.move (Operand.tmp 0))
  refine opsF_step rfl (YieldsK.nilCheck (show _ = (.pointer (some ⟨b, 0, none⟩) : Value) from rfl) ?_)    -- builder.go:97 t9 := (Op.nilCheck (Operand.tmp 8))
  refine opsF_step rfl (YieldsK.fieldAt leb6_fo57_1 (show _ = (.pointer (some ⟨b, 0, none⟩) : Value) from rfl) ?_)    -- builder.go:97 t10 := (Op.fieldAddr 57 (Operand.tmp 9) 1)
  refine opsF_step rfl (YieldsK.cell1 leb6_ty22 rfl (show _ = (.pointer (some ⟨b, 1, none⟩) : Value) from rfl) (cellAt hb (show _ = some (v : Value) from rfl)) ?_)    -- builder.go:97 t11 := (Op.load 22 (Operand.tmp 10))
  refine opsF_step rfl (YieldsK.move (show _ = (B8 (c) : Value) from T1) ?_)    -- builder.go:97 t12 := (Op.move (Operand.tmp 1))
  refine opsF_step rfl (YieldsK.lit1 (b := c) leb6_l1_22 (show _ = (B8 (c) : Value) from rfl) fun v7 w8 hN9 => ?_)    -- builder.go:97 t13 := (Op.buildSlice 22 1 #[(0, (Operand.tmp 12))])
  have hA10 := Ext.refl w4
  have hea11 := h0
  have hz12 : w0.heap.size ≤ w4.heap.size := h0.size
  have hap13 : Value.ownBlock v7 ≠ some b := own_older hN9.own (Array.getElem?_eq_some_iff.1 hb).1
  have h0 : Ext w0 w8 := (h0.trans hN9.ext)
  have ho : w8.ownsRow w0.heap.size 5 1 v l.length (Lib.byteCells l) := (Stab.own _ _ _ _ _ _ _ _ ho hN9.ext)
  have hb : w8.heap[b]? = some (.cells ([.pointer (some ⟨b, 0, none⟩), v] : List Value).toArray 57 (0, 0)) := (Ext.blk' hN9.ext hb)
  have hA10 : Ext w4 w8 := (hA10.trans hN9.ext)
  have ho14 := hN9.own; clear hN9
  refine opsF_step rfl (YieldsK.appendRB _ _ w0.heap.size (.int .u8 0) leb6_ty22 leb6_inf5 rfl leb6_ty22 (l) ([(c : UInt8)]) (own_of ho (show _ = (v : Value) from rfl)) (RB.of (RB.ofOwn ho14) (show _ = (v7 : Value) from rfl)) (by simp; omega) h0.size fun v15 w16 ho17 hg18 => ?_)    -- builder.go:97 t14 := (Op.call { callee := (Callee.builtin Builtin.append), args := #[(Operand.tmp 11), (Operand.tmp 13)], argTypes 
  have hg18 : Grew w8 w16 v v15 := hg18
  have hap19 : Value.ownBlock v15 ≠ some b := apart_grew hg18 hne (Array.getElem?_eq_some_iff.1 hb).1
  have h0 : Ext w0 w16 := ext_grew h0 hg18 ho (Nat.le_refl _)
  clear ho
  have hb : w16.heap[b]? = some (.cells ([.pointer (some ⟨b, 0, none⟩), v] : List Value).toArray 57 (0, 0)) := blk_grew hb hg18 hne
  clear hA10
  clear ho14
  refine opsF_step rfl (YieldsK.nilCheck (show _ = (.pointer (some ⟨b, 0, none⟩) : Value) from rfl) ?_)    -- builder.go:97 t15 := (Op.nilCheck (Operand.tmp 7))
  refine opsF_step rfl (YieldsK.fieldAt leb6_fo57_1 (show _ = (.pointer (some ⟨b, 0, none⟩) : Value) from rfl) ?_)    -- builder.go:97 t16 := (Op.fieldAddr 57 (Operand.tmp 15) 1)
  refine opsF_step rfl (YieldsK.storeC (i := 1) (v := v15) (show _ = (.pointer (some ⟨b, 1, none⟩) : Value) from rfl) (show _ = (v15 : Value) from rfl) hb (Nat.le_of_ble_eq_true rfl) leb6_isz22 (own_one ho17).1 (own_one ho17).2 fun w20 hb21 hg22 hs23 => ?_)    -- builder.go:97 tNone := (Op.store 22 (Operand.tmp 16) (Operand.tmp 14))
  have h0 : Ext w0 w20 := row_fresh h0 hg22 (Nat.le_trans (Nat.le_refl _) (by omega))
  clear hb
  have ho17 : w20.ownsRow w0.heap.size 5 1 v15 (l ++ [(c : UInt8)] : List UInt8).length (Lib.byteCells (l ++ [(c : UInt8)])) := own_kept ho17 hg22 hap19
  have hb := hb21; clear hb21
  have hl24 : b < w20.heap.size := (Array.getElem?_eq_some_iff.1 hb).1
  refine opsF_end (fun ρ => ρ 0 = (.pointer (some ⟨b, 0, none⟩) : Value) ∧ ρ 1 = (B8 (c) : Value) ∧ ρ 4 = ((Value.nilIface) : Value) ∧ True) ⟨T0, T1, T4, trivial⟩ fun ρ25 ⟨T0, T1, T4, _⟩ => ?_
  refine thenF_normal (hK6 _ _ ?_)
  refine wpF_seq_k fun K26 hK26 => ?_
  refine wpF_text ?_
  refine opsF_step rfl (YieldsK.assign (show _ = ((Value.nilIface) : Value) from rfl) ?_)    -- builder.go:98 t4 := (Op.assign (Operand.const Value.nilIface))
  refine opsF_end (fun ρ => ρ 0 = (.pointer (some ⟨b, 0, none⟩) : Value) ∧ ρ 1 = (B8 (c) : Value) ∧ ρ 4 = ((Value.nilIface) : Value) ∧ True) ⟨T0, T1, rfl, trivial⟩ fun ρ27 ⟨T0, T1, T4, _⟩ => ?_
  refine thenF_normal (hK26 _ _ ?_)
  refine wpF_ret ?_
  refine postF_ret (fn := Try.f28) _ rfl [(Value.nilIface)] ((Value.nilIface)) rfl ⟨T4, trivial⟩ ?_
  exact ⟨rfl, ⟨hb0, _, _, .inr rfl, hb, ho17, hap19⟩, h0⟩
end Go.Proofs.Ytcindgknimallaa
