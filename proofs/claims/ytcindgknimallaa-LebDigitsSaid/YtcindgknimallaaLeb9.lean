/- The walks of LebHex and LebDigits. -/
import Derived.Test.YtcindgknimallaaLeb8
import Derived.Test.YtcindgknimallaaLebAwake
namespace Go.Proofs.Ytcindgknimallaa
open Go.RowKit
theorem leb9_isz33 : (Try.prog.info? 33).map (·.size) = some 32 := by kernel_rfl
theorem leb9_pl17 : Plain Try.prog 17 := fun _ _ => by kernel_rfl
theorem leb9_al33 {d : Option Tmp} {ty : TypeId} {pos : String} {af : Array Edge} {gd : Option (Nat × Bool)} (σ : Operand → Value) (w : World) : (execOp σ ⟨d, .alloc 33, ty, pos, af, gd⟩).run Try.prog w = .ok (.value (.pointer (some ⟨w.heap.size, 0, none⟩))) (w.alloc (.cells (Lib.byteCells (List.replicate 32 0)).toArray 33)) := by kernel_rfl
theorem leb9_pl18 : Plain Try.prog 18 := fun _ _ => by kernel_rfl
theorem leb9_ty33 : Try.prog.underlying 33 = some (.array 32 5) := by kernel_rfl
theorem leb9_pl19 : Plain Try.prog 19 := fun _ _ => by kernel_rfl
theorem leb9_pl20 : Plain Try.prog 20 := fun _ _ => by kernel_rfl
theorem leb9_eg33 : Try.prog.eqGuardType Try.prog.depth 33 = false := by kernel_rfl
theorem leb9_ty5 : Try.prog.underlying 5 = some (.int .u8) := by kernel_rfl
theorem leb9_sz5 : ∀ w' : World, (sizeOf 5).run Try.prog w' = .ok 1 w' := fun _ => by kernel_rfl
theorem leb9_ty4 : Try.prog.underlying 4 = some (.bool) := by kernel_rfl
theorem leb9_pl21 : Plain Try.prog 21 := fun _ _ => by kernel_rfl
theorem leb9_pl22 : Plain Try.prog 22 := fun _ _ => by kernel_rfl
theorem leb9_pl9 : Plain Try.prog 9 := fun _ _ => by kernel_rfl
theorem leb9_ty9 : Try.prog.underlying 9 = some (.string) := by kernel_rfl
theorem leb9_ty3 : Try.prog.underlying 3 = some (.int .i64) := by kernel_rfl
theorem lebHex_walk (w : World) (id : List UInt8) (hid : id.length = 32) (s : List UInt8) (hs : s.length ≤ 9223372036854775807) :
    Calls Try.prog 5 #[.agg (Lib.byteCells id).toArray, St s] w fun e w' => e = .returned (.bool true) ∧ Ext w w' := by
  refine calls_of_wpF (args := [.agg (Lib.byteCells id).toArray, .string ⟨(s).toArray⟩]) Try.func5 rfl 46 rfl (Nat.le_of_ble_eq_true rfl) ?_
  intro ρ0 hb
  have T0 : ρ0 0 = (.agg (Lib.byteCells id).toArray : Value) := hb.get 0
  have T1 : ρ0 1 = (.string ⟨(s).toArray⟩ : Value) := hb.get 1
  clear hb
  have hE := Ext.refl w
  refine wpF_seq_k fun K1 hK1 => ?_
  refine wpF_text ?_
  refine opsF_step rfl (YieldsK.box (cs := (Lib.byteCells id).toArray) (show _ = (.agg (Lib.byteCells id).toArray : Value) from T0) fun n2 w3 hn4 hb5 hx6 hs7 => ?_)    -- law.go:47 t2 := (Op.box 33 (Operand.tmp 0))
  have hE : Ext w w3 := (hE.trans hx6)
  have hb8 := hb5; clear hb5
  have hl9 : n2 < w3.heap.size := by omega
  refine opsF_step rfl (YieldsK.assign (show _ = (.bool (false) : Value) from rfl) ?_)    -- law.go:47 t4 := (Op.assign (Operand.const (Value.bool false)))
  refine opsF_end (fun ρ => ρ 0 = (.agg (Lib.byteCells id).toArray : Value) ∧ ρ 1 = (.string ⟨(s).toArray⟩ : Value) ∧ ρ 2 = (.pointer (some ⟨n2, 0, none⟩) : Value) ∧ ρ 4 = (.bool (false) : Value) ∧ True) ⟨T0, T1, rfl, rfl, trivial⟩ fun ρ10 ⟨T0, T1, T2, T4, _⟩ => ?_
  refine thenF_normal (hK1 _ _ ?_)
  refine wpF_seq_k fun K11 hK11 => ?_
  refine wpF_text ?_
  refine opsF_step rfl (YieldsK.move (show _ = (.string ⟨(s).toArray⟩ : Value) from T1) ?_)    -- law.go:48 t10 := (Op.move (Operand.tmp 1))
  refine opsF_step rfl (YieldsK.callA1 leb9_pl17 (show _ = (.string ⟨(s).toArray⟩ : Value) from rfl) ?_)    -- law.go:48 t11 := (Op.call { callee := (Callee.value (Operand.func 17)), args := #[(Operand.tmp 10)], argTypes := #[9] })
  refine (unhex_any _ (s) hs).mono ?_
  rintro e w13 ⟨rfl, hx12⟩
  refine ⟨_, rfl, ?_⟩
  have hE : Ext w w13 := (hE.trans hx12)
  have hb8 : w13.heap[n2]? = some (.cells (Lib.byteCells id).toArray 33 (0, 0)) := (Ext.blk' hx12 hb8)
  refine opsF_step rfl (YieldsK.move (show _ = (.tuple #[.agg (Lib.byteCells ((unhex (s)).1)).toArray, .bool ((unhex (s)).2)] : Value) from rfl) ?_)    -- law.go:48 t9 := (Op.move (Operand.tmp 11))
  refine opsF_step rfl (YieldsK.extract (vs := [.agg (Lib.byteCells ((unhex (s)).1)).toArray, .bool ((unhex (s)).2)]) (show _ = (.tuple #[.agg (Lib.byteCells ((unhex (s)).1)).toArray, .bool ((unhex (s)).2)] : Value) from rfl) (show _ = some (.agg (Lib.byteCells ((unhex (s)).1)).toArray : Value) from rfl) ?_)    -- law.go:48 t12 := (Op.extract (Operand.tmp 9) 0)
  refine opsF_step rfl (YieldsK.extract (vs := [.agg (Lib.byteCells ((unhex (s)).1)).toArray, .bool ((unhex (s)).2)]) (show _ = (.tuple #[.agg (Lib.byteCells ((unhex (s)).1)).toArray, .bool ((unhex (s)).2)] : Value) from rfl) (show _ = some (.bool ((unhex (s)).2) : Value) from rfl) ?_)    -- law.go:48 t13 := (Op.extract (Operand.tmp 9) 1)
  refine opsF_step rfl (YieldsK.alloc (cs := (Lib.byteCells (List.replicate 32 0)).toArray) leb9_al33 fun n14 w15 hn16 hb17 hx18 hs19 => ?_)    -- law.go:48 t5 := (Op.alloc 33)
  have hA20 := Ext.refl w13
  have hea21 := hE
  have hz22 : w.heap.size ≤ w13.heap.size := hE.size
  have hlt23 : n2 < n14 := by have := (Array.getElem?_eq_some_iff.1 hb8).1; omega
  have hE : Ext w w15 := (hE.trans hx18)
  have hb8 : w15.heap[n2]? = some (.cells (Lib.byteCells id).toArray 33 (0, 0)) := (Ext.blk' hx18 hb8)
  have hA20 : Ext w13 w15 := (hA20.trans hx18)
  have hb24 := hb17; clear hb17
  have hl25 : n14 < w15.heap.size := by omega
  refine opsF_step rfl (YieldsK.storeAll (show _ = (.pointer (some ⟨n14, 0, none⟩) : Value) from rfl) (show _ = (.agg (Lib.byteCells ((unhex (s)).1)).toArray : Value) from rfl) hb24 (by rw [List.size_toArray, Lib.byteCells_length]; rw [unhex_length]; rfl) (by rw [List.size_toArray, Lib.byteCells_length]; first | (rw [hid]; exact leb9_isz33) | (rw [unhex_length]; exact leb9_isz33)) (byteCells_one _) fun w26 hb27 hg28 hs29 => ?_)    -- law.go:48 tNone := (Op.store 33 (Operand.tmp 5) (Operand.tmp 12))
  have hE : Ext w w26 := row_fresh hE hg28 (Nat.le_trans hz22 (by omega))
  have hb8 : w26.heap[n2]? = some (.cells (Lib.byteCells id).toArray 33 (0, 0)) := (hg28.block _ (Array.getElem?_eq_some_iff.1 hb8).1 (by simp; omega)).trans hb8
  have hA20 : Ext w13 w26 := row_fresh hA20 hg28 (Nat.le_trans (Nat.le_refl _) (by omega))
  clear hb24
  have hb24 := hb27; clear hb27
  have hl30 : n14 < w26.heap.size := (Array.getElem?_eq_some_iff.1 hb24).1
  refine opsF_step rfl (YieldsK.assign (show _ = (.bool ((unhex (s)).2) : Value) from rfl) ?_)    -- law.go:48 t6 := (Op.assign (Operand.tmp 13))
  refine opsF_end (fun ρ => ρ 0 = (.agg (Lib.byteCells id).toArray : Value) ∧ ρ 1 = (.string ⟨(s).toArray⟩ : Value) ∧ ρ 2 = (.pointer (some ⟨n2, 0, none⟩) : Value) ∧ ρ 4 = (.bool (false) : Value) ∧ ρ 5 = (.pointer (some ⟨n14, 0, none⟩) : Value) ∧ ρ 6 = (.bool ((unhex (s)).2) : Value) ∧ True) ⟨T0, T1, T2, T4, rfl, rfl, trivial⟩ fun ρ31 ⟨T0, T1, T2, T4, T5, T6, _⟩ => ?_
  refine thenF_normal (hK11 _ _ ?_)
  refine wpF_seq_k fun K32 hK32 => ?_
  refine wpF_text ?_
  refine opsF_step rfl (YieldsK.move (show _ = (.string ⟨(s).toArray⟩ : Value) from T1) ?_)    -- law.go:49 t15 := (Op.move (Operand.tmp 1))
  refine opsF_step rfl (YieldsK.callA1 leb9_pl18 (show _ = (.string ⟨(s).toArray⟩ : Value) from rfl) ?_)    -- law.go:49 t16 := (Op.call { callee := (Callee.value (Operand.func 18)), args := #[(Operand.tmp 15)], argTypes := #[9] })
  refine (refUnhex_any _ (s) hs).mono ?_
  rintro e w34 ⟨rfl, hx33⟩
  refine ⟨_, rfl, ?_⟩
  have hE : Ext w w34 := (hE.trans hx33)
  have hb8 : w34.heap[n2]? = some (.cells (Lib.byteCells id).toArray 33 (0, 0)) := (Ext.blk' hx33 hb8)
  have hA20 : Ext w13 w34 := (hA20.trans hx33)
  have hb24 : w34.heap[n14]? = some (.cells (Lib.byteCells ((unhex (s)).1)).toArray 33 (0, 0)) := (Ext.blk' hx33 hb24)
  refine opsF_step rfl (YieldsK.move (show _ = (.tuple #[.agg (Lib.byteCells ((unhex (s)).1)).toArray, .bool ((unhex (s)).2)] : Value) from rfl) ?_)    -- law.go:49 t14 := (Op.move (Operand.tmp 16))
  refine opsF_step rfl (YieldsK.extract (vs := [.agg (Lib.byteCells ((unhex (s)).1)).toArray, .bool ((unhex (s)).2)]) (show _ = (.tuple #[.agg (Lib.byteCells ((unhex (s)).1)).toArray, .bool ((unhex (s)).2)] : Value) from rfl) (show _ = some (.agg (Lib.byteCells ((unhex (s)).1)).toArray : Value) from rfl) ?_)    -- law.go:49 t17 := (Op.extract (Operand.tmp 14) 0)
  refine opsF_step rfl (YieldsK.extract (vs := [.agg (Lib.byteCells ((unhex (s)).1)).toArray, .bool ((unhex (s)).2)]) (show _ = (.tuple #[.agg (Lib.byteCells ((unhex (s)).1)).toArray, .bool ((unhex (s)).2)] : Value) from rfl) (show _ = some (.bool ((unhex (s)).2) : Value) from rfl) ?_)    -- law.go:49 t18 := (Op.extract (Operand.tmp 14) 1)
  refine opsF_step rfl (YieldsK.alloc (cs := (Lib.byteCells (List.replicate 32 0)).toArray) leb9_al33 fun n35 w36 hn37 hb38 hx39 hs40 => ?_)    -- law.go:49 t7 := (Op.alloc 33)
  have hA41 := Ext.refl w34
  have hea42 := hE
  have hea43 := hA20
  have hz44 : w.heap.size ≤ w34.heap.size := hE.size
  have hz45 : w13.heap.size ≤ w34.heap.size := hA20.size
  have hlt46 : n2 < n35 := by have := (Array.getElem?_eq_some_iff.1 hb8).1; omega
  have hlt47 : n14 < n35 := by have := (Array.getElem?_eq_some_iff.1 hb24).1; omega
  have hE : Ext w w36 := (hE.trans hx39)
  have hb8 : w36.heap[n2]? = some (.cells (Lib.byteCells id).toArray 33 (0, 0)) := (Ext.blk' hx39 hb8)
  have hA20 : Ext w13 w36 := (hA20.trans hx39)
  have hb24 : w36.heap[n14]? = some (.cells (Lib.byteCells ((unhex (s)).1)).toArray 33 (0, 0)) := (Ext.blk' hx39 hb24)
  have hA41 : Ext w34 w36 := (hA41.trans hx39)
  have hb48 := hb38; clear hb38
  have hl49 : n35 < w36.heap.size := by omega
  refine opsF_step rfl (YieldsK.storeAll (show _ = (.pointer (some ⟨n35, 0, none⟩) : Value) from rfl) (show _ = (.agg (Lib.byteCells ((unhex (s)).1)).toArray : Value) from rfl) hb48 (by rw [List.size_toArray, Lib.byteCells_length]; rw [unhex_length]; rfl) (by rw [List.size_toArray, Lib.byteCells_length]; first | (rw [hid]; exact leb9_isz33) | (rw [unhex_length]; exact leb9_isz33)) (byteCells_one _) fun w50 hb51 hg52 hs53 => ?_)    -- law.go:49 tNone := (Op.store 33 (Operand.tmp 7) (Operand.tmp 17))
  have hE : Ext w w50 := row_fresh hE hg52 (Nat.le_trans hz44 (by omega))
  have hb8 : w50.heap[n2]? = some (.cells (Lib.byteCells id).toArray 33 (0, 0)) := (hg52.block _ (Array.getElem?_eq_some_iff.1 hb8).1 (by simp; omega)).trans hb8
  have hA20 : Ext w13 w50 := row_fresh hA20 hg52 (Nat.le_trans hz45 (by omega))
  have hb24 : w50.heap[n14]? = some (.cells (Lib.byteCells ((unhex (s)).1)).toArray 33 (0, 0)) := (hg52.block _ (Array.getElem?_eq_some_iff.1 hb24).1 (by simp; omega)).trans hb24
  have hA41 : Ext w34 w50 := row_fresh hA41 hg52 (Nat.le_trans (Nat.le_refl _) (by omega))
  clear hb48
  have hb48 := hb51; clear hb51
  have hl54 : n35 < w50.heap.size := (Array.getElem?_eq_some_iff.1 hb48).1
  refine opsF_step rfl (YieldsK.assign (show _ = (.bool ((unhex (s)).2) : Value) from rfl) ?_)    -- law.go:49 t8 := (Op.assign (Operand.tmp 18))
  refine opsF_end (fun ρ => ρ 0 = (.agg (Lib.byteCells id).toArray : Value) ∧ ρ 1 = (.string ⟨(s).toArray⟩ : Value) ∧ ρ 2 = (.pointer (some ⟨n2, 0, none⟩) : Value) ∧ ρ 4 = (.bool (false) : Value) ∧ ρ 5 = (.pointer (some ⟨n14, 0, none⟩) : Value) ∧ ρ 6 = (.bool ((unhex (s)).2) : Value) ∧ ρ 7 = (.pointer (some ⟨n35, 0, none⟩) : Value) ∧ ρ 8 = (.bool ((unhex (s)).2) : Value) ∧ True) ⟨T0, T1, T2, T4, T5, T6, rfl, rfl, trivial⟩ fun ρ55 ⟨T0, T1, T2, T4, T5, T6, T7, T8, _⟩ => ?_
  refine thenF_normal (hK32 _ _ ?_)
  refine wpF_seq_k fun K56 hK56 => ?_
  refine wpF_draw [Is (.agg (Lib.byteCells id).toArray), Is (.string ⟨(hexOf (id)).toArray⟩), Is (.agg (Lib.byteCells id).toArray), Is (.string ⟨(hexOf (id)).toArray⟩), Is (.bool (true)), Is (.bool (true)), Is (.agg (Lib.byteCells ((unhex (s)).1)).toArray), Is (.agg (Lib.byteCells ((unhex (s)).1)).toArray), Is (.bool (true)), Is (.bool (true)), Is (.bool (true)), Is (.bool ((unhex (s)).2)), Is (.bool ((unhex (s)).2)), Is (.bool (true)), Is (.bool (true)), Is (.bool (true)), Is (.agg (Lib.byteCells id).toArray), Is (.string ⟨(s).toArray⟩), Is (.bool (startsB (id) (s))), Is (.agg (Lib.byteCells id).toArray), Is (.string ⟨(s).toArray⟩), Is (.bool (startsB (id) (s))), Is (.bool (true)), Is (.bool (true)), Is (.bool (true)), Is (.bool (true)), Is (.bool (true)), Is (.bool (true))] (by kernel_rfl) [19, 20, 21, 22, 23, 24, 25, 26, 27, 28, 29, 30, 31, 32, 33, 34, 35, 36, 37, 38, 39, 40, 41, 42, 43, 44, 45, 4] (by kernel_rfl) (by kernel_rfl) ⟨Stab.is _, Stab.is _, Stab.is _, Stab.is _, Stab.is _, Stab.is _, Stab.is _, Stab.is _, Stab.is _, Stab.is _, Stab.is _, Stab.is _, Stab.is _, Stab.is _, Stab.is _, Stab.is _, Stab.is _, Stab.is _, Stab.is _, Stab.is _, Stab.is _, Stab.is _, Stab.is _, Stab.is _, Stab.is _, Stab.is _, Stab.is _, Stab.is _, trivial⟩ ?hs3 ?hQ3
  case hs3 =>
    refine ⟨?_, ?_, ?_, ?_, ?_, ?_, ?_, ?_, ?_, ?_, ?_, ?_, ?_, ?_, ?_, ?_, ?_, ?_, ?_, ?_, ?_, ?_, ?_, ?_, ?_, ?_, ?_, ?_, trivial⟩
    · refine stepN rfl fun σ w1 hC h => ?_    -- t19 := (Op.load 33 (Operand.tmp 2))
      have e2 : σ 2 = .pointer (some ⟨n2, 0, none⟩) := (show _ = _ from h 2 (by decide)).trans T2
      exact YieldsK.loadAll e2 (Ext.blk' hC hb8) leb9_ty33 rfl (by rw [List.size_toArray, Lib.byteCells_length]; first | (rw [hid]; exact leb9_isz33) | (rw [unhex_length]; exact leb9_isz33)) ⟨Ext.refl _, rfl⟩
    · refine stepN rfl fun σ w1 hC h => ?_    -- t20 := (Op.call { callee := (Callee.value (Operand.func 19)), args := #[(Operand.tmp 19)], argTypes := #[33] })
      have e19 : σ 19 = .agg (Lib.byteCells id).toArray := h 19 (by decide)
      refine YieldsK.callA1 leb9_pl19 e19 ?_
      refine (hex_any _ (id) hid).mono ?_
      rintro e w2 ⟨rfl, hx⟩
      exact ⟨_, rfl, hx, rfl⟩
    · refine stepN rfl fun σ w1 hC h => ?_    -- t21 := (Op.load 33 (Operand.tmp 2))
      have e2 : σ 2 = .pointer (some ⟨n2, 0, none⟩) := (show _ = _ from h 2 (by decide)).trans T2
      exact YieldsK.loadAll e2 (Ext.blk' hC hb8) leb9_ty33 rfl (by rw [List.size_toArray, Lib.byteCells_length]; first | (rw [hid]; exact leb9_isz33) | (rw [unhex_length]; exact leb9_isz33)) ⟨Ext.refl _, rfl⟩
    · refine stepN rfl fun σ w1 hC h => ?_    -- t22 := (Op.call { callee := (Callee.value (Operand.func 20)), args := #[(Operand.tmp 21)], argTypes := #[33] })
      have e21 : σ 21 = .agg (Lib.byteCells id).toArray := h 21 (by decide)
      refine YieldsK.callA1 leb9_pl20 e21 ?_
      refine (refHex_any _ (id) hid).mono ?_
      rintro e w2 ⟨rfl, hx⟩
      exact ⟨_, rfl, hx, rfl⟩
    · refine stepN rfl fun σ w1 hC h => ?_    -- t23 := (Op.binOp BinOp.eql 9 (Operand.tmp 20) (Operand.tmp 22) 9)
      have e20 : σ 20 = .string ⟨(hexOf (id)).toArray⟩ := h 20 (by decide)
      have e22 : σ 22 = .string ⟨(hexOf (id)).toArray⟩ := h 22 (by decide)
      exact YieldsK.eqSt (l := hexOf (id)) (m := hexOf (id)) (.inl rfl) e20 e22 (decide ((hexOf (id) : List UInt8) = (hexOf (id) : List UInt8))) rfl ⟨Ext.refl _, (congrArg Value.bool (decide_eq_true (rfl)))⟩
    · refine stepN rfl fun σ w1 hC h => ?_    -- t24 := (Op.move (Operand.tmp 23))
      have e23 : σ 23 = .bool (true) := h 23 (by decide)
      exact YieldsK.move e23 ⟨Ext.refl _, rfl⟩
    · refine stepY 5 true 24 rfl rfl (fun _ _ h => h) fun σ w1 hC h => ?_    -- t25 := (Op.load 33 (Operand.tmp 5))
      have e5 : σ 5 = .pointer (some ⟨n14, 0, none⟩) := (show _ = _ from h 5 (by decide)).trans T5
      exact YieldsK.loadAll e5 (Ext.blk' hC hb24) leb9_ty33 rfl (by rw [List.size_toArray, Lib.byteCells_length]; first | (rw [hid]; exact leb9_isz33) | (rw [unhex_length]; exact leb9_isz33)) ⟨Ext.refl _, rfl⟩
    · refine stepY 5 true 24 rfl rfl (fun _ _ h => h) fun σ w1 hC h => ?_    -- t26 := (Op.load 33 (Operand.tmp 7))
      have e7 : σ 7 = .pointer (some ⟨n35, 0, none⟩) := (show _ = _ from h 7 (by decide)).trans T7
      exact YieldsK.loadAll e7 (Ext.blk' hC hb48) leb9_ty33 rfl (by rw [List.size_toArray, Lib.byteCells_length]; first | (rw [hid]; exact leb9_isz33) | (rw [unhex_length]; exact leb9_isz33)) ⟨Ext.refl _, rfl⟩
    · refine stepY 5 true 24 rfl rfl (fun _ _ h => h) fun σ w1 hC h => ?_    -- t27 := (Op.binOp BinOp.eql 33 (Operand.tmp 25) (Operand.tmp 26) 33)
      have e25 : σ 25 = .agg (Lib.byteCells ((unhex (s)).1)).toArray := h 25 (by decide)
      have e26 : σ 26 = .agg (Lib.byteCells ((unhex (s)).1)).toArray := h 26 (by decide)
      exact YieldsK.eqArr (l1 := ((unhex (s)).1)) (l2 := ((unhex (s)).1)) leb9_ty33 leb9_ty5 leb9_sz5 leb9_eg33 e25 e26 (unhex_length _) (unhex_length _) ⟨Ext.refl _, (congrArg Value.bool (decide_eq_true (rfl)))⟩
    · refine stepN rfl fun σ w1 hC h => ?_    -- t28 := (Op.pick (Operand.tmp 24) (Operand.tmp 27) (Operand.const (Value.bool false)))
      have e24 : σ 24 = .bool (true) := h 24 (by decide)
      have e27 : σ 27 = .bool (true) := h 27 (by decide)
      exact YieldsK.pickT e24 e27 ⟨Ext.refl _, rfl⟩
    · refine stepN rfl fun σ w1 hC h => ?_    -- t29 := (Op.move (Operand.tmp 28))
      have e28 : σ 28 = .bool (true) := h 28 (by decide)
      exact YieldsK.move e28 ⟨Ext.refl _, rfl⟩
    · refine stepY 10 true 29 rfl rfl (fun _ _ h => h) fun σ w1 hC h => ?_    -- t30 := (Op.move (Operand.tmp 6))
      have e6 : σ 6 = .bool ((unhex (s)).2) := (show _ = _ from h 6 (by decide)).trans T6
      exact YieldsK.move e6 ⟨Ext.refl _, rfl⟩
    · refine stepY 10 true 29 rfl rfl (fun _ _ h => h) fun σ w1 hC h => ?_    -- t31 := (Op.move (Operand.tmp 8))
      have e8 : σ 8 = .bool ((unhex (s)).2) := (show _ = _ from h 8 (by decide)).trans T8
      exact YieldsK.move e8 ⟨Ext.refl _, rfl⟩
    · refine stepY 10 true 29 rfl rfl (fun _ _ h => h) fun σ w1 hC h => ?_    -- t32 := (Op.binOp BinOp.eql 4 (Operand.tmp 30) (Operand.tmp 31) 4)
      have e30 : σ 30 = .bool ((unhex (s)).2) := h 30 (by decide)
      have e31 : σ 31 = .bool ((unhex (s)).2) := h 31 (by decide)
      exact YieldsK.eqBool (a := (unhex (s)).2) (b := (unhex (s)).2) leb9_ty4 e30 e31 ⟨Ext.refl _, (congrArg Value.bool (beq_self_eq_true _))⟩
    · refine stepN rfl fun σ w1 hC h => ?_    -- t33 := (Op.pick (Operand.tmp 29) (Operand.tmp 32) (Operand.const (Value.bool false)))
      have e29 : σ 29 = .bool (true) := h 29 (by decide)
      have e32 : σ 32 = .bool (true) := h 32 (by decide)
      exact YieldsK.pickT e29 e32 ⟨Ext.refl _, rfl⟩
    · refine stepN rfl fun σ w1 hC h => ?_    -- t34 := (Op.move (Operand.tmp 33))
      have e33 : σ 33 = .bool (true) := h 33 (by decide)
      exact YieldsK.move e33 ⟨Ext.refl _, rfl⟩
    · refine stepY 15 true 34 rfl rfl (fun _ _ h => h) fun σ w1 hC h => ?_    -- t35 := (Op.load 33 (Operand.tmp 2))
      have e2 : σ 2 = .pointer (some ⟨n2, 0, none⟩) := (show _ = _ from h 2 (by decide)).trans T2
      exact YieldsK.loadAll e2 (Ext.blk' hC hb8) leb9_ty33 rfl (by rw [List.size_toArray, Lib.byteCells_length]; first | (rw [hid]; exact leb9_isz33) | (rw [unhex_length]; exact leb9_isz33)) ⟨Ext.refl _, rfl⟩
    · refine stepY 15 true 34 rfl rfl (fun _ _ h => h) fun σ w1 hC h => ?_    -- t36 := (Op.move (Operand.tmp 1))
      have e1 : σ 1 = .string ⟨(s).toArray⟩ := (show _ = _ from h 1 (by decide)).trans T1
      exact YieldsK.move e1 ⟨Ext.refl _, rfl⟩
    · refine stepY 15 true 34 rfl rfl (fun _ _ h => h) fun σ w1 hC h => ?_    -- t37 := (Op.call { callee := (Callee.value (Operand.func 21)), args := #[(Operand.tmp 35), (Operand.tmp 36)], argTypes
      have e35 : σ 35 = .agg (Lib.byteCells id).toArray := h 35 (by decide)
      have e36 : σ 36 = .string ⟨(s).toArray⟩ := h 36 (by decide)
      refine YieldsK.callA2 leb9_pl21 e35 e36 ?_
      refine (starts_any _ (id) hid (s)).mono ?_
      rintro e w2 ⟨rfl, hx⟩
      exact ⟨_, rfl, hx, rfl⟩
    · refine stepY 15 true 34 rfl rfl (fun _ _ h => h) fun σ w1 hC h => ?_    -- t38 := (Op.load 33 (Operand.tmp 2))
      have e2 : σ 2 = .pointer (some ⟨n2, 0, none⟩) := (show _ = _ from h 2 (by decide)).trans T2
      exact YieldsK.loadAll e2 (Ext.blk' hC hb8) leb9_ty33 rfl (by rw [List.size_toArray, Lib.byteCells_length]; first | (rw [hid]; exact leb9_isz33) | (rw [unhex_length]; exact leb9_isz33)) ⟨Ext.refl _, rfl⟩
    · refine stepY 15 true 34 rfl rfl (fun _ _ h => h) fun σ w1 hC h => ?_    -- t39 := (Op.move (Operand.tmp 1))
      have e1 : σ 1 = .string ⟨(s).toArray⟩ := (show _ = _ from h 1 (by decide)).trans T1
      exact YieldsK.move e1 ⟨Ext.refl _, rfl⟩
    · refine stepY 15 true 34 rfl rfl (fun _ _ h => h) fun σ w1 hC h => ?_    -- t40 := (Op.call { callee := (Callee.value (Operand.func 22)), args := #[(Operand.tmp 38), (Operand.tmp 39)], argTypes
      have e38 : σ 38 = .agg (Lib.byteCells id).toArray := h 38 (by decide)
      have e39 : σ 39 = .string ⟨(s).toArray⟩ := h 39 (by decide)
      refine YieldsK.callA2 leb9_pl22 e38 e39 ?_
      refine (refStarts_any _ (id) hid (s)).mono ?_
      rintro e w2 ⟨rfl, hx⟩
      exact ⟨_, rfl, hx, rfl⟩
    · refine stepY 15 true 34 rfl rfl (fun _ _ h => h) fun σ w1 hC h => ?_    -- t41 := (Op.binOp BinOp.eql 4 (Operand.tmp 37) (Operand.tmp 40) 4)
      have e37 : σ 37 = .bool (startsB (id) (s)) := h 37 (by decide)
      have e40 : σ 40 = .bool (startsB (id) (s)) := h 40 (by decide)
      exact YieldsK.eqBool (a := startsB (id) (s)) (b := startsB (id) (s)) leb9_ty4 e37 e40 ⟨Ext.refl _, (congrArg Value.bool (beq_self_eq_true _))⟩
    · refine stepN rfl fun σ w1 hC h => ?_    -- t42 := (Op.pick (Operand.tmp 34) (Operand.tmp 41) (Operand.const (Value.bool false)))
      have e34 : σ 34 = .bool (true) := h 34 (by decide)
      have e41 : σ 41 = .bool (true) := h 41 (by decide)
      exact YieldsK.pickT e34 e41 ⟨Ext.refl _, rfl⟩
    · refine stepN rfl fun σ w1 hC h => ?_    -- t43 := (Op.move (Operand.tmp 42))
      have e42 : σ 42 = .bool (true) := h 42 (by decide)
      exact YieldsK.move e42 ⟨Ext.refl _, rfl⟩
    · refine stepY 24 true 43 rfl rfl (fun _ _ h => h) fun σ w1 hC h => ?_    -- t44 := (Op.call { callee := (Callee.value (Operand.func 9)), args := #[], argTypes := #[] })
      refine YieldsK.callA0 leb9_pl9  ?_
      refine (awake02 _).mono ?_
      rintro e w2 ⟨rfl, hx⟩
      exact ⟨_, rfl, hx, rfl⟩
    · refine stepN rfl fun σ w1 hC h => ?_    -- t45 := (Op.pick (Operand.tmp 43) (Operand.tmp 44) (Operand.const (Value.bool false)))
      have e43 : σ 43 = .bool (true) := h 43 (by decide)
      have e44 : σ 44 = .bool (true) := h 44 (by decide)
      exact YieldsK.pickT e43 e44 ⟨Ext.refl _, rfl⟩
    · refine stepN rfl fun σ w1 hC h => ?_    -- t4 := (Op.assign (Operand.tmp 45))
      have e45 : σ 45 = .bool (true) := h 45 (by decide)
      exact YieldsK.assign e45 ⟨Ext.refl _, rfl⟩
  intro ρ57 w58 hx59 he hf
  obtain ⟨-, -, -, -, -, -, -, -, -, -, -, -, -, -, -, -, -, -, -, -, -, -, -, -, -, -, -, k4, -⟩ := hf
  have T0 : ρ57 0 = .agg (Lib.byteCells id).toArray := he.at_ T0 rfl
  have T1 : ρ57 1 = .string ⟨(s).toArray⟩ := he.at_ T1 rfl
  have T2 : ρ57 2 = .pointer (some ⟨n2, 0, none⟩) := he.at_ T2 rfl
  have T5 : ρ57 5 = .pointer (some ⟨n14, 0, none⟩) := he.at_ T5 rfl
  have T6 : ρ57 6 = .bool ((unhex (s)).2) := he.at_ T6 rfl
  have T7 : ρ57 7 = .pointer (some ⟨n35, 0, none⟩) := he.at_ T7 rfl
  have T8 : ρ57 8 = .bool ((unhex (s)).2) := he.at_ T8 rfl
  clear he
  have hE : Ext w w58 := (hE.trans hx59)
  have hb8 : w58.heap[n2]? = some (.cells (Lib.byteCells id).toArray 33 (0, 0)) := (Ext.blk' hx59 hb8)
  have hA20 : Ext w13 w58 := (hA20.trans hx59)
  have hb24 : w58.heap[n14]? = some (.cells (Lib.byteCells ((unhex (s)).1)).toArray 33 (0, 0)) := (Ext.blk' hx59 hb24)
  have hA41 : Ext w34 w58 := (hA41.trans hx59)
  have hb48 : w58.heap[n35]? = some (.cells (Lib.byteCells ((unhex (s)).1)).toArray 33 (0, 0)) := (Ext.blk' hx59 hb48)
  have T4 : ρ57 4 = .bool (true) := k4
  clear k4
  refine thenF_normal (hK56 _ _ ?_)
  refine wpF_ret ?_
  refine postF_ret (fn := Try.f5) _ rfl [.bool (true)] (.bool (true)) rfl ⟨T4, trivial⟩ ?_
  exact ⟨rfl, hE⟩

theorem u8_of {a : Int} (h : (Lit.int .u8 a).wf = true) : ∃ c : UInt8, a = (c.toNat : Int) := by
  have hb : 0 ≤ a ∧ a ≤ 255 := by simpa [Lit.wf, IntKind.min, IntKind.max, IntKind.signed, IntKind.bits] using h
  refine ⟨UInt8.ofNat a.toNat, ?_⟩
  simp
  omega
theorem unhexHex_any (w : World) (id : List UInt8) (hid : id.length = 32) :
    Calls Try.prog 17 #[St (hexOf id)] w fun e w' => e = .returned (.tuple #[.agg (Lib.byteCells id).toArray, .bool true]) ∧ Ext w w' := by
  have h := unhex_any w (hexOf id) (by rw [hexOf_length, hid]; decide)
  rw [unhex_hexOf id hid] at h
  exact h
theorem unhexB_any (w : World) (s : List UInt8) (hs : s.length ≤ 9223372036854775807) (b : Bool) (h : (unhex s).2 = b) :
    Calls Try.prog 17 #[St s] w fun e w' => e = .returned (.tuple #[.agg (Lib.byteCells ((unhex s).1)).toArray, .bool b]) ∧ Ext w w' :=
  h ▸ unhex_any w s hs
theorem startsB_any (w : World) (id : List UInt8) (hid : id.length = 32) (s : List UInt8) (b : Bool) (h : startsB id s = b) :
    Calls Try.prog 21 #[.agg (Lib.byteCells id).toArray, St s] w fun e w' => e = .returned (.bool b) ∧ Ext w w' :=
  h ▸ starts_any w id hid s
theorem starts_take (id : List UInt8) (hid : id.length = 32) (n : Nat) : startsB id (((hexOf id).drop 0).take (1 + n % 64 - 0)) = true := by
  have hl : (hexOf id).length = 64 := by rw [hexOf_length, hid]
  unfold startsB
  rw [List.drop_zero, Nat.sub_zero]
  refine decide_eq_true ⟨?_, ?_, ?_⟩
  · rw [List.length_take]; omega
  · rw [List.length_take]; omega
  · rw [List.length_take, hl, Nat.min_eq_left (by omega)]
theorem starts_more (id : List UInt8) (hid : id.length = 32) : startsB id (hexOf id ++ [48]) = false := by
  have hl : (hexOf id).length = 64 := by rw [hexOf_length, hid]
  unfold startsB
  refine decide_eq_false fun h => ?_
  have := h.2.1
  rw [List.length_append, hl] at this
  simp at this

theorem lebDigits_walk_true (w : World) (id : List UInt8) (hid : id.length = 32) (s : List UInt8) (hs : s.length ≤ 9223372036854775807) (n : UInt8) (hb : (unhex s).2 = true) :
    Calls Try.prog 6 #[.agg (Lib.byteCells id).toArray, St s, B8 n] w fun e w' => e = .returned (.bool true) ∧ Ext w w' := by
  refine calls_of_wpF (args := [.agg (Lib.byteCells id).toArray, .string ⟨(s).toArray⟩, B8 (n)]) Try.func6 rfl 64 rfl (Nat.le_of_ble_eq_true rfl) ?_
  intro ρ0 hb
  have T0 : ρ0 0 = (.agg (Lib.byteCells id).toArray : Value) := hb.get 0
  have T1 : ρ0 1 = (.string ⟨(s).toArray⟩ : Value) := hb.get 1
  have T2 : ρ0 2 = (B8 (n) : Value) := hb.get 2
  clear hb
  have hE := Ext.refl w
  refine wpF_seq_k fun K1 hK1 => ?_
  refine wpF_text ?_
  refine opsF_step rfl (YieldsK.box (cs := (Lib.byteCells id).toArray) (show _ = (.agg (Lib.byteCells id).toArray : Value) from T0) fun n2 w3 hn4 hb5 hx6 hs7 => ?_)    -- outright.go:42 t3 := (Op.box 33 (Operand.tmp 0))
  have hE : Ext w w3 := (hE.trans hx6)
  have hb8 := hb5; clear hb5
  have hl9 : n2 < w3.heap.size := by omega
  refine opsF_step rfl (YieldsK.assign (show _ = (.bool (false) : Value) from rfl) ?_)    -- outright.go:42 t6 := (Op.assign (Operand.const (Value.bool false)))
  refine opsF_end (fun ρ => ρ 0 = (.agg (Lib.byteCells id).toArray : Value) ∧ ρ 1 = (.string ⟨(s).toArray⟩ : Value) ∧ ρ 2 = (B8 (n) : Value) ∧ ρ 3 = (.pointer (some ⟨n2, 0, none⟩) : Value) ∧ ρ 6 = (.bool (false) : Value) ∧ True) ⟨T0, T1, T2, rfl, rfl, trivial⟩ fun ρ10 ⟨T0, T1, T2, T3, T6, _⟩ => ?_
  refine thenF_normal (hK1 _ _ ?_)
  refine wpF_seq_k fun K11 hK11 => ?_
  refine wpF_text ?_
  refine opsF_step rfl (YieldsK.loadAll (show _ = (.pointer (some ⟨n2, 0, none⟩) : Value) from T3) hb8 leb9_ty33 rfl (by rw [List.size_toArray, Lib.byteCells_length]; first | (rw [hid]; exact leb9_isz33) | (rw [unhex_length]; exact leb9_isz33)) ?_)    -- outright.go:43 t13 := (Op.load 33 (Operand.tmp 3))
  refine opsF_step rfl (YieldsK.callA1 leb9_pl19 (show _ = (.agg (Lib.byteCells id).toArray : Value) from rfl) ?_)    -- outright.go:43 t14 := (Op.call { callee := (Callee.value (Operand.func 19)), args := #[(Operand.tmp 13)], argTypes := #[33] })
  refine (hex_any _ id hid).mono ?_
  rintro e w13 ⟨rfl, hx12⟩
  refine ⟨_, rfl, ?_⟩
  have hE : Ext w w13 := (hE.trans hx12)
  have hb8 : w13.heap[n2]? = some (.cells (Lib.byteCells id).toArray 33 (0, 0)) := (Ext.blk' hx12 hb8)
  refine opsF_step rfl (YieldsK.callA1 leb9_pl17 (show _ = (.string ⟨(hexOf id).toArray⟩ : Value) from rfl) ?_)    -- outright.go:43 t15 := (Op.call { callee := (Callee.value (Operand.func 17)), args := #[(Operand.tmp 14)], argTypes := #[9] })
  refine (unhexHex_any _ id hid).mono ?_
  rintro e w15 ⟨rfl, hx14⟩
  refine ⟨_, rfl, ?_⟩
  have hE : Ext w w15 := (hE.trans hx14)
  have hb8 : w15.heap[n2]? = some (.cells (Lib.byteCells id).toArray 33 (0, 0)) := (Ext.blk' hx14 hb8)
  refine opsF_step rfl (YieldsK.move (show _ = (.tuple #[.agg (Lib.byteCells id).toArray, .bool (true)] : Value) from rfl) ?_)    -- outright.go:43 t12 := (Op.move (Operand.tmp 15))
  refine opsF_step rfl (YieldsK.extract (vs := [.agg (Lib.byteCells id).toArray, .bool (true)]) (show _ = (.tuple #[.agg (Lib.byteCells id).toArray, .bool (true)] : Value) from rfl) (show _ = some (.agg (Lib.byteCells id).toArray : Value) from rfl) ?_)    -- outright.go:43 t16 := (Op.extract (Operand.tmp 12) 0)
  refine opsF_step rfl (YieldsK.extract (vs := [.agg (Lib.byteCells id).toArray, .bool (true)]) (show _ = (.tuple #[.agg (Lib.byteCells id).toArray, .bool (true)] : Value) from rfl) (show _ = some (.bool (true) : Value) from rfl) ?_)    -- outright.go:43 t17 := (Op.extract (Operand.tmp 12) 1)
  refine opsF_step rfl (YieldsK.alloc (cs := (Lib.byteCells (List.replicate 32 0)).toArray) leb9_al33 fun n16 w17 hn18 hb19 hx20 hs21 => ?_)    -- outright.go:43 t7 := (Op.alloc 33)
  have hA22 := Ext.refl w15
  have hea23 := hE
  have hz24 : w.heap.size ≤ w15.heap.size := hE.size
  have hlt25 : n2 < n16 := by have := (Array.getElem?_eq_some_iff.1 hb8).1; omega
  have hE : Ext w w17 := (hE.trans hx20)
  have hb8 : w17.heap[n2]? = some (.cells (Lib.byteCells id).toArray 33 (0, 0)) := (Ext.blk' hx20 hb8)
  have hA22 : Ext w15 w17 := (hA22.trans hx20)
  have hb26 := hb19; clear hb19
  have hl27 : n16 < w17.heap.size := by omega
  refine opsF_step rfl (YieldsK.storeAll (show _ = (.pointer (some ⟨n16, 0, none⟩) : Value) from rfl) (show _ = (.agg (Lib.byteCells id).toArray : Value) from rfl) hb26 (by rw [List.size_toArray, Lib.byteCells_length]; rw [hid]; rfl) (by rw [List.size_toArray, Lib.byteCells_length]; first | (rw [hid]; exact leb9_isz33) | (rw [unhex_length]; exact leb9_isz33)) (byteCells_one _) fun w28 hb29 hg30 hs31 => ?_)    -- outright.go:43 tNone := (Op.store 33 (Operand.tmp 7) (Operand.tmp 16))
  have hE : Ext w w28 := row_fresh hE hg30 (Nat.le_trans hz24 (by omega))
  have hb8 : w28.heap[n2]? = some (.cells (Lib.byteCells id).toArray 33 (0, 0)) := (hg30.block _ (Array.getElem?_eq_some_iff.1 hb8).1 (by simp; omega)).trans hb8
  have hA22 : Ext w15 w28 := row_fresh hA22 hg30 (Nat.le_trans (Nat.le_refl _) (by omega))
  clear hb26
  have hb26 := hb29; clear hb29
  have hl32 : n16 < w28.heap.size := (Array.getElem?_eq_some_iff.1 hb26).1
  refine opsF_step rfl (YieldsK.assign (show _ = (.bool (true) : Value) from rfl) ?_)    -- outright.go:43 t8 := (Op.assign (Operand.tmp 17))
  refine opsF_end (fun ρ => ρ 0 = (.agg (Lib.byteCells id).toArray : Value) ∧ ρ 1 = (.string ⟨(s).toArray⟩ : Value) ∧ ρ 2 = (B8 (n) : Value) ∧ ρ 3 = (.pointer (some ⟨n2, 0, none⟩) : Value) ∧ ρ 6 = (.bool (false) : Value) ∧ ρ 7 = (.pointer (some ⟨n16, 0, none⟩) : Value) ∧ ρ 8 = (.bool (true) : Value) ∧ True) ⟨T0, T1, T2, T3, T6, rfl, rfl, trivial⟩ fun ρ33 ⟨T0, T1, T2, T3, T6, T7, T8, _⟩ => ?_
  refine thenF_normal (hK11 _ _ ?_)
  refine wpF_seq_k fun K34 hK34 => ?_
  refine wpF_text ?_
  refine opsF_step rfl (YieldsK.move (show _ = (.string ⟨(s).toArray⟩ : Value) from T1) ?_)    -- outright.go:44 t19 := (Op.move (Operand.tmp 1))
  refine opsF_step rfl (YieldsK.callA1 leb9_pl17 (show _ = (.string ⟨(s).toArray⟩ : Value) from rfl) ?_)    -- outright.go:44 t20 := (Op.call { callee := (Callee.value (Operand.func 17)), args := #[(Operand.tmp 19)], argTypes := #[9] })
  refine (unhexB_any _ s hs true hb).mono ?_
  rintro e w36 ⟨rfl, hx35⟩
  refine ⟨_, rfl, ?_⟩
  have hE : Ext w w36 := (hE.trans hx35)
  have hb8 : w36.heap[n2]? = some (.cells (Lib.byteCells id).toArray 33 (0, 0)) := (Ext.blk' hx35 hb8)
  have hA22 : Ext w15 w36 := (hA22.trans hx35)
  have hb26 : w36.heap[n16]? = some (.cells (Lib.byteCells id).toArray 33 (0, 0)) := (Ext.blk' hx35 hb26)
  refine opsF_step rfl (YieldsK.move (show _ = (.tuple #[.agg (Lib.byteCells ((unhex s).1)).toArray, .bool (true)] : Value) from rfl) ?_)    -- outright.go:44 t18 := (Op.move (Operand.tmp 20))
  refine opsF_step rfl (YieldsK.extract (vs := [.agg (Lib.byteCells ((unhex s).1)).toArray, .bool (true)]) (show _ = (.tuple #[.agg (Lib.byteCells ((unhex s).1)).toArray, .bool (true)] : Value) from rfl) (show _ = some (.agg (Lib.byteCells ((unhex s).1)).toArray : Value) from rfl) ?_)    -- outright.go:44 t21 := (Op.extract (Operand.tmp 18) 0)
  refine opsF_step rfl (YieldsK.extract (vs := [.agg (Lib.byteCells ((unhex s).1)).toArray, .bool (true)]) (show _ = (.tuple #[.agg (Lib.byteCells ((unhex s).1)).toArray, .bool (true)] : Value) from rfl) (show _ = some (.bool (true) : Value) from rfl) ?_)    -- outright.go:44 t22 := (Op.extract (Operand.tmp 18) 1)
  refine opsF_step rfl (YieldsK.alloc (cs := (Lib.byteCells (List.replicate 32 0)).toArray) leb9_al33 fun n37 w38 hn39 hb40 hx41 hs42 => ?_)    -- outright.go:44 t9 := (Op.alloc 33)
  have hA43 := Ext.refl w36
  have hea44 := hE
  have hea45 := hA22
  have hz46 : w.heap.size ≤ w36.heap.size := hE.size
  have hz47 : w15.heap.size ≤ w36.heap.size := hA22.size
  have hlt48 : n2 < n37 := by have := (Array.getElem?_eq_some_iff.1 hb8).1; omega
  have hlt49 : n16 < n37 := by have := (Array.getElem?_eq_some_iff.1 hb26).1; omega
  have hE : Ext w w38 := (hE.trans hx41)
  have hb8 : w38.heap[n2]? = some (.cells (Lib.byteCells id).toArray 33 (0, 0)) := (Ext.blk' hx41 hb8)
  have hA22 : Ext w15 w38 := (hA22.trans hx41)
  have hb26 : w38.heap[n16]? = some (.cells (Lib.byteCells id).toArray 33 (0, 0)) := (Ext.blk' hx41 hb26)
  have hA43 : Ext w36 w38 := (hA43.trans hx41)
  have hb50 := hb40; clear hb40
  have hl51 : n37 < w38.heap.size := by omega
  refine opsF_step rfl (YieldsK.storeAll (show _ = (.pointer (some ⟨n37, 0, none⟩) : Value) from rfl) (show _ = (.agg (Lib.byteCells ((unhex s).1)).toArray : Value) from rfl) hb50 (by rw [List.size_toArray, Lib.byteCells_length]; rw [unhex_length]; rfl) (by rw [List.size_toArray, Lib.byteCells_length]; first | (rw [hid]; exact leb9_isz33) | (rw [unhex_length]; exact leb9_isz33)) (byteCells_one _) fun w52 hb53 hg54 hs55 => ?_)    -- outright.go:44 tNone := (Op.store 33 (Operand.tmp 9) (Operand.tmp 21))
  have hE : Ext w w52 := row_fresh hE hg54 (Nat.le_trans hz46 (by omega))
  have hb8 : w52.heap[n2]? = some (.cells (Lib.byteCells id).toArray 33 (0, 0)) := (hg54.block _ (Array.getElem?_eq_some_iff.1 hb8).1 (by simp; omega)).trans hb8
  have hA22 : Ext w15 w52 := row_fresh hA22 hg54 (Nat.le_trans hz47 (by omega))
  have hb26 : w52.heap[n16]? = some (.cells (Lib.byteCells id).toArray 33 (0, 0)) := (hg54.block _ (Array.getElem?_eq_some_iff.1 hb26).1 (by simp; omega)).trans hb26
  have hA43 : Ext w36 w52 := row_fresh hA43 hg54 (Nat.le_trans (Nat.le_refl _) (by omega))
  clear hb50
  have hb50 := hb53; clear hb53
  have hl56 : n37 < w52.heap.size := (Array.getElem?_eq_some_iff.1 hb50).1
  refine opsF_step rfl (YieldsK.assign (show _ = (.bool (true) : Value) from rfl) ?_)    -- outright.go:44 t10 := (Op.assign (Operand.tmp 22))
  refine opsF_end (fun ρ => ρ 0 = (.agg (Lib.byteCells id).toArray : Value) ∧ ρ 1 = (.string ⟨(s).toArray⟩ : Value) ∧ ρ 2 = (B8 (n) : Value) ∧ ρ 3 = (.pointer (some ⟨n2, 0, none⟩) : Value) ∧ ρ 6 = (.bool (false) : Value) ∧ ρ 7 = (.pointer (some ⟨n16, 0, none⟩) : Value) ∧ ρ 8 = (.bool (true) : Value) ∧ ρ 9 = (.pointer (some ⟨n37, 0, none⟩) : Value) ∧ ρ 10 = (.bool (true) : Value) ∧ True) ⟨T0, T1, T2, T3, T6, T7, T8, rfl, rfl, trivial⟩ fun ρ57 ⟨T0, T1, T2, T3, T6, T7, T8, T9, T10, _⟩ => ?_
  refine thenF_normal (hK34 _ _ ?_)
  refine wpF_seq_k fun K58 hK58 => ?_
  refine wpF_text ?_
  refine opsF_step rfl (YieldsK.loadAll (show _ = (.pointer (some ⟨n2, 0, none⟩) : Value) from T3) hb8 leb9_ty33 rfl (by rw [List.size_toArray, Lib.byteCells_length]; first | (rw [hid]; exact leb9_isz33) | (rw [unhex_length]; exact leb9_isz33)) ?_)    -- outright.go:45 t23 := (Op.load 33 (Operand.tmp 3))
  refine opsF_step rfl (YieldsK.callA1 leb9_pl19 (show _ = (.agg (Lib.byteCells id).toArray : Value) from rfl) ?_)    -- outright.go:45 t24 := (Op.call { callee := (Callee.value (Operand.func 19)), args := #[(Operand.tmp 23)], argTypes := #[33] })
  refine (hex_any _ id hid).mono ?_
  rintro e w60 ⟨rfl, hx59⟩
  refine ⟨_, rfl, ?_⟩
  have hE : Ext w w60 := (hE.trans hx59)
  have hb8 : w60.heap[n2]? = some (.cells (Lib.byteCells id).toArray 33 (0, 0)) := (Ext.blk' hx59 hb8)
  have hA22 : Ext w15 w60 := (hA22.trans hx59)
  have hb26 : w60.heap[n16]? = some (.cells (Lib.byteCells id).toArray 33 (0, 0)) := (Ext.blk' hx59 hb26)
  have hA43 : Ext w36 w60 := (hA43.trans hx59)
  have hb50 : w60.heap[n37]? = some (.cells (Lib.byteCells ((unhex s).1)).toArray 33 (0, 0)) := (Ext.blk' hx59 hb50)
  refine opsF_step rfl (YieldsK.assign (show _ = (.string ⟨(hexOf id).toArray⟩ : Value) from rfl) ?_)    -- outright.go:45 t11 := (Op.assign (Operand.tmp 24))
  refine opsF_end (fun ρ => ρ 0 = (.agg (Lib.byteCells id).toArray : Value) ∧ ρ 1 = (.string ⟨(s).toArray⟩ : Value) ∧ ρ 2 = (B8 (n) : Value) ∧ ρ 3 = (.pointer (some ⟨n2, 0, none⟩) : Value) ∧ ρ 6 = (.bool (false) : Value) ∧ ρ 7 = (.pointer (some ⟨n16, 0, none⟩) : Value) ∧ ρ 8 = (.bool (true) : Value) ∧ ρ 9 = (.pointer (some ⟨n37, 0, none⟩) : Value) ∧ ρ 10 = (.bool (true) : Value) ∧ ρ 11 = (.string ⟨(hexOf id).toArray⟩ : Value) ∧ True) ⟨T0, T1, T2, T3, T6, T7, T8, T9, T10, rfl, trivial⟩ fun ρ61 ⟨T0, T1, T2, T3, T6, T7, T8, T9, T10, T11, _⟩ => ?_
  refine thenF_normal (hK58 _ _ ?_)
  refine wpF_seq_k fun K62 hK62 => ?_
  refine wpF_seq_k fun K63 hK63 => ?_
  refine wpF_text ?_
  refine opsF_step rfl (YieldsK.move (show _ = (.string ⟨(hexOf id).toArray⟩ : Value) from T11) ?_)    -- outright.go:46 t25 := (Op.move (Operand.tmp 11))
  refine opsF_step rfl (YieldsK.lenSt (l := hexOf id) leb9_ty9 (show _ = (.string ⟨(hexOf id).toArray⟩ : Value) from rfl) ?_)    -- outright.go:46 t26 := (Op.call { callee := (Callee.builtin Builtin.len), args := #[(Operand.tmp 25)], argTypes := #[9] })
  refine opsF_step rfl (YieldsK.eqI (a := (((hexOf id : List UInt8).length : Nat) : Int)) (b := ((64 : Nat) : Int)) (show _ = (.int .i64 (((hexOf id : List UInt8).length : Nat) : Int) : Value) from rfl) (show _ = (.int .i64 ((64 : Nat) : Int) : Value) from rfl) (k_neq _ .i64 ((hexOf id : List UInt8).length) (64)) ?_)    -- outright.go:46 t27 := (Op.binOp BinOp.neq 3 (Operand.tmp 26) (Operand.const (Value.int IntKind.i64 64)) 3)
  refine opsF_end (fun ρ => ρ 0 = (.agg (Lib.byteCells id).toArray : Value) ∧ ρ 1 = (.string ⟨(s).toArray⟩ : Value) ∧ ρ 2 = (B8 (n) : Value) ∧ ρ 3 = (.pointer (some ⟨n2, 0, none⟩) : Value) ∧ ρ 6 = (.bool (false) : Value) ∧ ρ 7 = (.pointer (some ⟨n16, 0, none⟩) : Value) ∧ ρ 8 = (.bool (true) : Value) ∧ ρ 9 = (.pointer (some ⟨n37, 0, none⟩) : Value) ∧ ρ 10 = (.bool (true) : Value) ∧ ρ 11 = (.string ⟨(hexOf id).toArray⟩ : Value) ∧ ρ 27 = (.bool (false) : Value) ∧ True) ⟨T0, T1, T2, T3, T6, T7, T8, T9, T10, T11, (congrArg Value.bool (decide_eq_false (by rw [hexOf_length, hid]; decide))), trivial⟩ fun ρ64 ⟨T0, T1, T2, T3, T6, T7, T8, T9, T10, T11, T27, _⟩ => ?_
  refine thenF_normal (hK63 _ _ ?_)
  refine wpF_false (show _ = (.bool (false) : Value) from T27) ?_
  refine wpF_skip ?_
  refine thenF_normal (hK62 _ _ ?_)
  refine wpF_seq_k fun K65 hK65 => ?_
  refine wpF_draw [Is (.bool (true)), Is (.bool (true)), Is (.agg (Lib.byteCells id).toArray), Is (.agg (Lib.byteCells id).toArray), Is (.bool (true)), Is (.bool (true)), Is (.bool (true)), Is (.bool (true)), Is (.bool (false)), Is (.bool (false)), Is (.agg (Lib.byteCells ((unhex s).1)).toArray), Is (.string ⟨(hexOf (unhex s).1).toArray⟩), Is (.string ⟨(s).toArray⟩), Is (.bool (true)), Is (.bool (true)), Is (.bool (true)), Is (.bool (true)), Is (.agg (Lib.byteCells id).toArray), Is (.string ⟨(hexOf id).toArray⟩), Is (B8 (n)), Is (.int .i64 (((n).toNat : Nat) : Int)), Is (.int .i64 ((((n).toNat) % (64) : Nat) : Int)), Is (.int .i64 (((1) + (((n).toNat) % (64)) : Nat) : Int)), Is (.string ⟨(((hexOf id : List UInt8).drop (0)).take (((1) + (((n).toNat) % (64))) - (0))).toArray⟩), Is (.bool (true)), Is (.bool (true)), Is (.bool (true)), Is (.agg (Lib.byteCells id).toArray), Is (.string ⟨(hexOf id).toArray⟩), Is (.string ⟨((hexOf id : List UInt8) ++ (([48] : List UInt8) : List UInt8)).toArray⟩), Is (.bool (false)), Is (.bool (true)), Is (.bool (true)), Is (.bool (true)), Is (.bool (true)), Is (.bool (true)), Is (.bool (true))] (by kernel_rfl) [28, 29, 30, 31, 32, 33, 34, 35, 36, 37, 38, 39, 40, 41, 42, 43, 44, 45, 46, 47, 48, 49, 50, 51, 52, 53, 54, 55, 56, 57, 58, 59, 60, 61, 62, 63, 6] (by kernel_rfl) (by kernel_rfl) ⟨Stab.is _, Stab.is _, Stab.is _, Stab.is _, Stab.is _, Stab.is _, Stab.is _, Stab.is _, Stab.is _, Stab.is _, Stab.is _, Stab.is _, Stab.is _, Stab.is _, Stab.is _, Stab.is _, Stab.is _, Stab.is _, Stab.is _, Stab.is _, Stab.is _, Stab.is _, Stab.is _, Stab.is _, Stab.is _, Stab.is _, Stab.is _, Stab.is _, Stab.is _, Stab.is _, Stab.is _, Stab.is _, Stab.is _, Stab.is _, Stab.is _, Stab.is _, Stab.is _, trivial⟩ ?hs6 ?hQ6
  case hs6 =>
    refine ⟨?_, ?_, ?_, ?_, ?_, ?_, ?_, ?_, ?_, ?_, ?_, ?_, ?_, ?_, ?_, ?_, ?_, ?_, ?_, ?_, ?_, ?_, ?_, ?_, ?_, ?_, ?_, ?_, ?_, ?_, ?_, ?_, ?_, ?_, ?_, ?_, ?_, trivial⟩
    · refine stepN rfl fun σ w1 hC h => ?_    -- t28 := (Op.move (Operand.tmp 8))
      have e8 : σ 8 = .bool (true) := (show _ = _ from h 8 (by decide)).trans T8
      exact YieldsK.move e8 ⟨Ext.refl _, rfl⟩
    · refine stepN rfl fun σ w1 hC h => ?_    -- t29 := (Op.move (Operand.tmp 28))
      have e28 : σ 28 = .bool (true) := h 28 (by decide)
      exact YieldsK.move e28 ⟨Ext.refl _, rfl⟩
    · refine stepY 1 true 29 rfl rfl (fun _ _ h => h) fun σ w1 hC h => ?_    -- t30 := (Op.load 33 (Operand.tmp 7))
      have e7 : σ 7 = .pointer (some ⟨n16, 0, none⟩) := (show _ = _ from h 7 (by decide)).trans T7
      exact YieldsK.loadAll e7 (Ext.blk' hC hb26) leb9_ty33 rfl (by rw [List.size_toArray, Lib.byteCells_length]; first | (rw [hid]; exact leb9_isz33) | (rw [unhex_length]; exact leb9_isz33)) ⟨Ext.refl _, rfl⟩
    · refine stepY 1 true 29 rfl rfl (fun _ _ h => h) fun σ w1 hC h => ?_    -- t31 := (Op.load 33 (Operand.tmp 3))
      have e3 : σ 3 = .pointer (some ⟨n2, 0, none⟩) := (show _ = _ from h 3 (by decide)).trans T3
      exact YieldsK.loadAll e3 (Ext.blk' hC hb8) leb9_ty33 rfl (by rw [List.size_toArray, Lib.byteCells_length]; first | (rw [hid]; exact leb9_isz33) | (rw [unhex_length]; exact leb9_isz33)) ⟨Ext.refl _, rfl⟩
    · refine stepY 1 true 29 rfl rfl (fun _ _ h => h) fun σ w1 hC h => ?_    -- t32 := (Op.binOp BinOp.eql 33 (Operand.tmp 30) (Operand.tmp 31) 33)
      have e30 : σ 30 = .agg (Lib.byteCells id).toArray := h 30 (by decide)
      have e31 : σ 31 = .agg (Lib.byteCells id).toArray := h 31 (by decide)
      exact YieldsK.eqArr (l1 := id) (l2 := id) leb9_ty33 leb9_ty5 leb9_sz5 leb9_eg33 e30 e31 (hid) (hid) ⟨Ext.refl _, (congrArg Value.bool (decide_eq_true (rfl)))⟩
    · refine stepN rfl fun σ w1 hC h => ?_    -- t33 := (Op.pick (Operand.tmp 29) (Operand.tmp 32) (Operand.const (Value.bool false)))
      have e29 : σ 29 = .bool (true) := h 29 (by decide)
      have e32 : σ 32 = .bool (true) := h 32 (by decide)
      exact YieldsK.pickT e29 e32 ⟨Ext.refl _, rfl⟩
    · refine stepN rfl fun σ w1 hC h => ?_    -- t34 := (Op.move (Operand.tmp 33))
      have e33 : σ 33 = .bool (true) := h 33 (by decide)
      exact YieldsK.move e33 ⟨Ext.refl _, rfl⟩
    · refine stepY 6 true 34 rfl rfl (fun _ _ h => h) fun σ w1 hC h => ?_    -- t35 := (Op.move (Operand.tmp 10))
      have e10 : σ 10 = .bool (true) := (show _ = _ from h 10 (by decide)).trans T10
      exact YieldsK.move e10 ⟨Ext.refl _, rfl⟩
    · refine stepY 6 true 34 rfl rfl (fun _ _ h => h) fun σ w1 hC h => ?_    -- t36 := (Op.unOp UnOp.not 4 (Operand.tmp 35))
      have e35 : σ 35 = .bool (true) := h 35 (by decide)
      exact YieldsK.notB e35 ⟨Ext.refl _, rfl⟩
    · refine stepY 6 true 34 rfl rfl (fun _ _ h => h) fun σ w1 hC h => ?_    -- t37 := (Op.move (Operand.tmp 36))
      have e36 : σ 36 = .bool (false) := h 36 (by decide)
      exact YieldsK.move e36 ⟨Ext.refl _, rfl⟩
    · refine stepY 9 false 37 rfl rfl (fun _ _ h => h) fun σ w1 hC h => ?_    -- t38 := (Op.load 33 (Operand.tmp 9))
      have e9 : σ 9 = .pointer (some ⟨n37, 0, none⟩) := (show _ = _ from h 9 (by decide)).trans T9
      exact YieldsK.loadAll e9 (Ext.blk' hC hb50) leb9_ty33 rfl (by rw [List.size_toArray, Lib.byteCells_length]; first | (rw [hid]; exact leb9_isz33) | (rw [unhex_length]; exact leb9_isz33)) ⟨Ext.refl _, rfl⟩
    · refine stepY 9 false 37 rfl rfl (fun _ _ h => h) fun σ w1 hC h => ?_    -- t39 := (Op.call { callee := (Callee.value (Operand.func 19)), args := #[(Operand.tmp 38)], argTypes := #[33] })
      have e38 : σ 38 = .agg (Lib.byteCells ((unhex s).1)).toArray := h 38 (by decide)
      refine YieldsK.callA1 leb9_pl19 e38 ?_
      refine (hex_any _ ((unhex s).1) (unhex_length _)).mono ?_
      rintro e w2 ⟨rfl, hx⟩
      exact ⟨_, rfl, hx, rfl⟩
    · refine stepY 9 false 37 rfl rfl (fun _ _ h => h) fun σ w1 hC h => ?_    -- t40 := (Op.move (Operand.tmp 1))
      have e1 : σ 1 = .string ⟨(s).toArray⟩ := (show _ = _ from h 1 (by decide)).trans T1
      exact YieldsK.move e1 ⟨Ext.refl _, rfl⟩
    · refine stepY 9 false 37 rfl rfl (fun _ _ h => h) fun σ w1 hC h => ?_    -- t41 := (Op.binOp BinOp.eql 9 (Operand.tmp 39) (Operand.tmp 40) 9)
      have e39 : σ 39 = .string ⟨(hexOf (unhex s).1).toArray⟩ := h 39 (by decide)
      have e40 : σ 40 = .string ⟨(s).toArray⟩ := h 40 (by decide)
      exact YieldsK.eqSt (l := hexOf (unhex s).1) (m := s) (.inl rfl) e39 e40 (decide ((hexOf (unhex s).1 : List UInt8) = s)) rfl ⟨Ext.refl _, (congrArg Value.bool (decide_eq_true (hexOf_unhex hb)))⟩
    · refine stepY 6 true 34 rfl rfl (fun _ _ h => h) fun σ w1 hC h => ?_    -- t42 := (Op.pick (Operand.tmp 37) (Operand.const (Value.bool true)) (Operand.tmp 41))
      have e37 : σ 37 = .bool (false) := h 37 (by decide)
      have e41 : σ 41 = .bool (true) := h 41 (by decide)
      exact YieldsK.pickF e37 e41 ⟨Ext.refl _, rfl⟩
    · refine stepN rfl fun σ w1 hC h => ?_    -- t43 := (Op.pick (Operand.tmp 34) (Operand.tmp 42) (Operand.const (Value.bool false)))
      have e34 : σ 34 = .bool (true) := h 34 (by decide)
      have e42 : σ 42 = .bool (true) := h 42 (by decide)
      exact YieldsK.pickT e34 e42 ⟨Ext.refl _, rfl⟩
    · refine stepN rfl fun σ w1 hC h => ?_    -- t44 := (Op.move (Operand.tmp 43))
      have e43 : σ 43 = .bool (true) := h 43 (by decide)
      exact YieldsK.move e43 ⟨Ext.refl _, rfl⟩
    · refine stepY 16 true 44 rfl rfl (fun _ _ h => h) fun σ w1 hC h => ?_    -- t45 := (Op.load 33 (Operand.tmp 3))
      have e3 : σ 3 = .pointer (some ⟨n2, 0, none⟩) := (show _ = _ from h 3 (by decide)).trans T3
      exact YieldsK.loadAll e3 (Ext.blk' hC hb8) leb9_ty33 rfl (by rw [List.size_toArray, Lib.byteCells_length]; first | (rw [hid]; exact leb9_isz33) | (rw [unhex_length]; exact leb9_isz33)) ⟨Ext.refl _, rfl⟩
    · refine stepY 16 true 44 rfl rfl (fun _ _ h => h) fun σ w1 hC h => ?_    -- t46 := (Op.move (Operand.tmp 11))
      have e11 : σ 11 = .string ⟨(hexOf id).toArray⟩ := (show _ = _ from h 11 (by decide)).trans T11
      exact YieldsK.move e11 ⟨Ext.refl _, rfl⟩
    · refine stepY 16 true 44 rfl rfl (fun _ _ h => h) fun σ w1 hC h => ?_    -- t47 := (Op.move (Operand.tmp 2))
      have e2 : σ 2 = B8 (n) := (show _ = _ from h 2 (by decide)).trans T2
      exact YieldsK.move e2 ⟨Ext.refl _, rfl⟩
    · refine stepY 16 true 44 rfl rfl (fun _ _ h => h) fun σ w1 hC h => ?_    -- t48 := (Op.convert 5 3 (Operand.tmp 47))
      have e47 : σ 47 = B8 (n) := h 47 (by decide)
      exact YieldsK.convI leb9_ty5 leb9_ty3 e47 (ofByte .i64 (n) (fun n hn => wrap_i64 n (by omega))) ⟨Ext.refl _, rfl⟩
    · refine stepY 16 true 44 rfl rfl (fun _ _ h => h) fun σ w1 hC h => ?_    -- t49 := (Op.binOp BinOp.rem 3 (Operand.tmp 48) (Operand.const (Value.int IntKind.i64 64)) 3)
      have e48 : σ 48 = .int .i64 (((n).toNat : Nat) : Int) := h 48 (by decide)
      exact YieldsK.bin (xv := .int .i64 (((n).toNat : Nat) : Int)) (yv := .int .i64 ((64 : Nat) : Int)) e48 (show _ = (.int .i64 ((64 : Nat) : Int) : Value) from rfl) rfl (i64_rem _ ((n).toNat) (64) (by decide)) ⟨Ext.refl _, rfl⟩
    · refine stepY 16 true 44 rfl rfl (fun _ _ h => h) fun σ w1 hC h => ?_    -- t50 := (Op.binOp BinOp.add 3 (Operand.const (Value.int IntKind.i64 1)) (Operand.tmp 49) 3)
      have e49 : σ 49 = .int .i64 ((((n).toNat) % (64) : Nat) : Int) := h 49 (by decide)
      exact YieldsK.bin (xv := .int .i64 ((1 : Nat) : Int)) (yv := .int .i64 ((((n).toNat) % (64) : Nat) : Int)) (show _ = (.int .i64 ((1 : Nat) : Int) : Value) from rfl) e49 rfl (i64_add _ (1) (((n).toNat) % (64)) (by omega)) ⟨Ext.refl _, rfl⟩
    · refine stepY 16 true 44 rfl rfl (fun _ _ h => h) fun σ w1 hC h => ?_    -- t51 := (Op.slice 9 (Operand.tmp 46) none (some (Operand.tmp 50)) none)
      have e46 : σ 46 = .string ⟨(hexOf id).toArray⟩ := h 46 (by decide)
      have e50 : σ 50 = .int .i64 (((1) + (((n).toNat) % (64)) : Nat) : Int) := h 50 (by decide)
      exact YieldsK.sliceSt (l := hexOf id) leb9_ty9 (0) ((1) + (((n).toNat) % (64))) e46 (.inl ⟨rfl, rfl⟩) (.inr ⟨.i64, congrArg some e50⟩) (by omega) (by rw [hexOf_length, hid]; omega) ⟨Ext.refl _, rfl⟩
    · refine stepY 16 true 44 rfl rfl (fun _ _ h => h) fun σ w1 hC h => ?_    -- t52 := (Op.call { callee := (Callee.value (Operand.func 21)), args := #[(Operand.tmp 45), (Operand.tmp 51)], argTypes
      have e45 : σ 45 = .agg (Lib.byteCells id).toArray := h 45 (by decide)
      have e51 : σ 51 = .string ⟨(((hexOf id : List UInt8).drop (0)).take (((1) + (((n).toNat) % (64))) - (0))).toArray⟩ := h 51 (by decide)
      refine YieldsK.callA2 leb9_pl21 e45 e51 ?_
      refine (startsB_any _ id hid (((hexOf id : List UInt8).drop (0)).take (((1) + (((n).toNat) % (64))) - (0))) true (starts_take id hid _)).mono ?_
      rintro e w2 ⟨rfl, hx⟩
      exact ⟨_, rfl, hx, rfl⟩
    · refine stepN rfl fun σ w1 hC h => ?_    -- t53 := (Op.pick (Operand.tmp 44) (Operand.tmp 52) (Operand.const (Value.bool false)))
      have e44 : σ 44 = .bool (true) := h 44 (by decide)
      have e52 : σ 52 = .bool (true) := h 52 (by decide)
      exact YieldsK.pickT e44 e52 ⟨Ext.refl _, rfl⟩
    · refine stepN rfl fun σ w1 hC h => ?_    -- t54 := (Op.move (Operand.tmp 53))
      have e53 : σ 53 = .bool (true) := h 53 (by decide)
      exact YieldsK.move e53 ⟨Ext.refl _, rfl⟩
    · refine stepY 26 true 54 rfl rfl (fun _ _ h => h) fun σ w1 hC h => ?_    -- t55 := (Op.load 33 (Operand.tmp 3))
      have e3 : σ 3 = .pointer (some ⟨n2, 0, none⟩) := (show _ = _ from h 3 (by decide)).trans T3
      exact YieldsK.loadAll e3 (Ext.blk' hC hb8) leb9_ty33 rfl (by rw [List.size_toArray, Lib.byteCells_length]; first | (rw [hid]; exact leb9_isz33) | (rw [unhex_length]; exact leb9_isz33)) ⟨Ext.refl _, rfl⟩
    · refine stepY 26 true 54 rfl rfl (fun _ _ h => h) fun σ w1 hC h => ?_    -- t56 := (Op.move (Operand.tmp 11))
      have e11 : σ 11 = .string ⟨(hexOf id).toArray⟩ := (show _ = _ from h 11 (by decide)).trans T11
      exact YieldsK.move e11 ⟨Ext.refl _, rfl⟩
    · refine stepY 26 true 54 rfl rfl (fun _ _ h => h) fun σ w1 hC h => ?_    -- t57 := (Op.binOp BinOp.add 9 (Operand.tmp 56) (Operand.const (Value.string { data := #[48] })) 9)
      have e56 : σ 56 = .string ⟨(hexOf id).toArray⟩ := h 56 (by decide)
      exact YieldsK.catSt (l := hexOf id) (m := ([48] : List UInt8)) e56 (show _ = (.string ⟨(([48] : List UInt8)).toArray⟩ : Value) from rfl) (by rw [hexOf_length, hid]; decide) ⟨Ext.refl _, rfl⟩
    · refine stepY 26 true 54 rfl rfl (fun _ _ h => h) fun σ w1 hC h => ?_    -- t58 := (Op.call { callee := (Callee.value (Operand.func 21)), args := #[(Operand.tmp 55), (Operand.tmp 57)], argTypes
      have e55 : σ 55 = .agg (Lib.byteCells id).toArray := h 55 (by decide)
      have e57 : σ 57 = .string ⟨((hexOf id : List UInt8) ++ (([48] : List UInt8) : List UInt8)).toArray⟩ := h 57 (by decide)
      refine YieldsK.callA2 leb9_pl21 e55 e57 ?_
      refine (startsB_any _ id hid ((hexOf id : List UInt8) ++ (([48] : List UInt8) : List UInt8)) false (starts_more id hid)).mono ?_
      rintro e w2 ⟨rfl, hx⟩
      exact ⟨_, rfl, hx, rfl⟩
    · refine stepY 26 true 54 rfl rfl (fun _ _ h => h) fun σ w1 hC h => ?_    -- t59 := (Op.unOp UnOp.not 4 (Operand.tmp 58))
      have e58 : σ 58 = .bool (false) := h 58 (by decide)
      exact YieldsK.notB e58 ⟨Ext.refl _, rfl⟩
    · refine stepN rfl fun σ w1 hC h => ?_    -- t60 := (Op.pick (Operand.tmp 54) (Operand.tmp 59) (Operand.const (Value.bool false)))
      have e54 : σ 54 = .bool (true) := h 54 (by decide)
      have e59 : σ 59 = .bool (true) := h 59 (by decide)
      exact YieldsK.pickT e54 e59 ⟨Ext.refl _, rfl⟩
    · refine stepN rfl fun σ w1 hC h => ?_    -- t61 := (Op.move (Operand.tmp 60))
      have e60 : σ 60 = .bool (true) := h 60 (by decide)
      exact YieldsK.move e60 ⟨Ext.refl _, rfl⟩
    · refine stepY 33 true 61 rfl rfl (fun _ _ h => h) fun σ w1 hC h => ?_    -- t62 := (Op.call { callee := (Callee.value (Operand.func 9)), args := #[], argTypes := #[] })
      refine YieldsK.callA0 leb9_pl9  ?_
      refine (awake02 _).mono ?_
      rintro e w2 ⟨rfl, hx⟩
      exact ⟨_, rfl, hx, rfl⟩
    · refine stepN rfl fun σ w1 hC h => ?_    -- t63 := (Op.pick (Operand.tmp 61) (Operand.tmp 62) (Operand.const (Value.bool false)))
      have e61 : σ 61 = .bool (true) := h 61 (by decide)
      have e62 : σ 62 = .bool (true) := h 62 (by decide)
      exact YieldsK.pickT e61 e62 ⟨Ext.refl _, rfl⟩
    · refine stepN rfl fun σ w1 hC h => ?_    -- t6 := (Op.assign (Operand.tmp 63))
      have e63 : σ 63 = .bool (true) := h 63 (by decide)
      exact YieldsK.assign e63 ⟨Ext.refl _, rfl⟩
  intro ρ66 w67 hx68 he hf
  obtain ⟨-, -, -, -, -, -, -, -, -, -, -, -, -, -, -, -, -, -, -, -, -, -, -, -, -, -, -, -, -, -, -, -, -, -, -, -, k6, -⟩ := hf
  have T0 : ρ66 0 = .agg (Lib.byteCells id).toArray := he.at_ T0 rfl
  have T1 : ρ66 1 = .string ⟨(s).toArray⟩ := he.at_ T1 rfl
  have T2 : ρ66 2 = B8 (n) := he.at_ T2 rfl
  have T3 : ρ66 3 = .pointer (some ⟨n2, 0, none⟩) := he.at_ T3 rfl
  have T7 : ρ66 7 = .pointer (some ⟨n16, 0, none⟩) := he.at_ T7 rfl
  have T8 : ρ66 8 = .bool (true) := he.at_ T8 rfl
  have T9 : ρ66 9 = .pointer (some ⟨n37, 0, none⟩) := he.at_ T9 rfl
  have T10 : ρ66 10 = .bool (true) := he.at_ T10 rfl
  have T11 : ρ66 11 = .string ⟨(hexOf id).toArray⟩ := he.at_ T11 rfl
  have T27 : ρ66 27 = .bool (false) := he.at_ T27 rfl
  clear he
  have hE : Ext w w67 := (hE.trans hx68)
  have hb8 : w67.heap[n2]? = some (.cells (Lib.byteCells id).toArray 33 (0, 0)) := (Ext.blk' hx68 hb8)
  have hA22 : Ext w15 w67 := (hA22.trans hx68)
  have hb26 : w67.heap[n16]? = some (.cells (Lib.byteCells id).toArray 33 (0, 0)) := (Ext.blk' hx68 hb26)
  have hA43 : Ext w36 w67 := (hA43.trans hx68)
  have hb50 : w67.heap[n37]? = some (.cells (Lib.byteCells ((unhex s).1)).toArray 33 (0, 0)) := (Ext.blk' hx68 hb50)
  have T6 : ρ66 6 = .bool (true) := k6
  clear k6
  refine thenF_normal (hK65 _ _ ?_)
  refine wpF_ret ?_
  refine postF_ret (fn := Try.f6) _ rfl [.bool (true)] (.bool (true)) rfl ⟨T6, trivial⟩ ?_
  exact ⟨rfl, hE⟩

theorem lebDigits_walk_false (w : World) (id : List UInt8) (hid : id.length = 32) (s : List UInt8) (hs : s.length ≤ 9223372036854775807) (n : UInt8) (hb : (unhex s).2 = false) :
    Calls Try.prog 6 #[.agg (Lib.byteCells id).toArray, St s, B8 n] w fun e w' => e = .returned (.bool true) ∧ Ext w w' := by
  refine calls_of_wpF (args := [.agg (Lib.byteCells id).toArray, .string ⟨(s).toArray⟩, B8 (n)]) Try.func6 rfl 64 rfl (Nat.le_of_ble_eq_true rfl) ?_
  intro ρ0 hb
  have T0 : ρ0 0 = (.agg (Lib.byteCells id).toArray : Value) := hb.get 0
  have T1 : ρ0 1 = (.string ⟨(s).toArray⟩ : Value) := hb.get 1
  have T2 : ρ0 2 = (B8 (n) : Value) := hb.get 2
  clear hb
  have hE := Ext.refl w
  refine wpF_seq_k fun K1 hK1 => ?_
  refine wpF_text ?_
  refine opsF_step rfl (YieldsK.box (cs := (Lib.byteCells id).toArray) (show _ = (.agg (Lib.byteCells id).toArray : Value) from T0) fun n2 w3 hn4 hb5 hx6 hs7 => ?_)    -- outright.go:42 t3 := (Op.box 33 (Operand.tmp 0))
  have hE : Ext w w3 := (hE.trans hx6)
  have hb8 := hb5; clear hb5
  have hl9 : n2 < w3.heap.size := by omega
  refine opsF_step rfl (YieldsK.assign (show _ = (.bool (false) : Value) from rfl) ?_)    -- outright.go:42 t6 := (Op.assign (Operand.const (Value.bool false)))
  refine opsF_end (fun ρ => ρ 0 = (.agg (Lib.byteCells id).toArray : Value) ∧ ρ 1 = (.string ⟨(s).toArray⟩ : Value) ∧ ρ 2 = (B8 (n) : Value) ∧ ρ 3 = (.pointer (some ⟨n2, 0, none⟩) : Value) ∧ ρ 6 = (.bool (false) : Value) ∧ True) ⟨T0, T1, T2, rfl, rfl, trivial⟩ fun ρ10 ⟨T0, T1, T2, T3, T6, _⟩ => ?_
  refine thenF_normal (hK1 _ _ ?_)
  refine wpF_seq_k fun K11 hK11 => ?_
  refine wpF_text ?_
  refine opsF_step rfl (YieldsK.loadAll (show _ = (.pointer (some ⟨n2, 0, none⟩) : Value) from T3) hb8 leb9_ty33 rfl (by rw [List.size_toArray, Lib.byteCells_length]; first | (rw [hid]; exact leb9_isz33) | (rw [unhex_length]; exact leb9_isz33)) ?_)    -- outright.go:43 t13 := (Op.load 33 (Operand.tmp 3))
  refine opsF_step rfl (YieldsK.callA1 leb9_pl19 (show _ = (.agg (Lib.byteCells id).toArray : Value) from rfl) ?_)    -- outright.go:43 t14 := (Op.call { callee := (Callee.value (Operand.func 19)), args := #[(Operand.tmp 13)], argTypes := #[33] })
  refine (hex_any _ id hid).mono ?_
  rintro e w13 ⟨rfl, hx12⟩
  refine ⟨_, rfl, ?_⟩
  have hE : Ext w w13 := (hE.trans hx12)
  have hb8 : w13.heap[n2]? = some (.cells (Lib.byteCells id).toArray 33 (0, 0)) := (Ext.blk' hx12 hb8)
  refine opsF_step rfl (YieldsK.callA1 leb9_pl17 (show _ = (.string ⟨(hexOf id).toArray⟩ : Value) from rfl) ?_)    -- outright.go:43 t15 := (Op.call { callee := (Callee.value (Operand.func 17)), args := #[(Operand.tmp 14)], argTypes := #[9] })
  refine (unhexHex_any _ id hid).mono ?_
  rintro e w15 ⟨rfl, hx14⟩
  refine ⟨_, rfl, ?_⟩
  have hE : Ext w w15 := (hE.trans hx14)
  have hb8 : w15.heap[n2]? = some (.cells (Lib.byteCells id).toArray 33 (0, 0)) := (Ext.blk' hx14 hb8)
  refine opsF_step rfl (YieldsK.move (show _ = (.tuple #[.agg (Lib.byteCells id).toArray, .bool (true)] : Value) from rfl) ?_)    -- outright.go:43 t12 := (Op.move (Operand.tmp 15))
  refine opsF_step rfl (YieldsK.extract (vs := [.agg (Lib.byteCells id).toArray, .bool (true)]) (show _ = (.tuple #[.agg (Lib.byteCells id).toArray, .bool (true)] : Value) from rfl) (show _ = some (.agg (Lib.byteCells id).toArray : Value) from rfl) ?_)    -- outright.go:43 t16 := (Op.extract (Operand.tmp 12) 0)
  refine opsF_step rfl (YieldsK.extract (vs := [.agg (Lib.byteCells id).toArray, .bool (true)]) (show _ = (.tuple #[.agg (Lib.byteCells id).toArray, .bool (true)] : Value) from rfl) (show _ = some (.bool (true) : Value) from rfl) ?_)    -- outright.go:43 t17 := (Op.extract (Operand.tmp 12) 1)
  refine opsF_step rfl (YieldsK.alloc (cs := (Lib.byteCells (List.replicate 32 0)).toArray) leb9_al33 fun n16 w17 hn18 hb19 hx20 hs21 => ?_)    -- outright.go:43 t7 := (Op.alloc 33)
  have hA22 := Ext.refl w15
  have hea23 := hE
  have hz24 : w.heap.size ≤ w15.heap.size := hE.size
  have hlt25 : n2 < n16 := by have := (Array.getElem?_eq_some_iff.1 hb8).1; omega
  have hE : Ext w w17 := (hE.trans hx20)
  have hb8 : w17.heap[n2]? = some (.cells (Lib.byteCells id).toArray 33 (0, 0)) := (Ext.blk' hx20 hb8)
  have hA22 : Ext w15 w17 := (hA22.trans hx20)
  have hb26 := hb19; clear hb19
  have hl27 : n16 < w17.heap.size := by omega
  refine opsF_step rfl (YieldsK.storeAll (show _ = (.pointer (some ⟨n16, 0, none⟩) : Value) from rfl) (show _ = (.agg (Lib.byteCells id).toArray : Value) from rfl) hb26 (by rw [List.size_toArray, Lib.byteCells_length]; rw [hid]; rfl) (by rw [List.size_toArray, Lib.byteCells_length]; first | (rw [hid]; exact leb9_isz33) | (rw [unhex_length]; exact leb9_isz33)) (byteCells_one _) fun w28 hb29 hg30 hs31 => ?_)    -- outright.go:43 tNone := (Op.store 33 (Operand.tmp 7) (Operand.tmp 16))
  have hE : Ext w w28 := row_fresh hE hg30 (Nat.le_trans hz24 (by omega))
  have hb8 : w28.heap[n2]? = some (.cells (Lib.byteCells id).toArray 33 (0, 0)) := (hg30.block _ (Array.getElem?_eq_some_iff.1 hb8).1 (by simp; omega)).trans hb8
  have hA22 : Ext w15 w28 := row_fresh hA22 hg30 (Nat.le_trans (Nat.le_refl _) (by omega))
  clear hb26
  have hb26 := hb29; clear hb29
  have hl32 : n16 < w28.heap.size := (Array.getElem?_eq_some_iff.1 hb26).1
  refine opsF_step rfl (YieldsK.assign (show _ = (.bool (true) : Value) from rfl) ?_)    -- outright.go:43 t8 := (Op.assign (Operand.tmp 17))
  refine opsF_end (fun ρ => ρ 0 = (.agg (Lib.byteCells id).toArray : Value) ∧ ρ 1 = (.string ⟨(s).toArray⟩ : Value) ∧ ρ 2 = (B8 (n) : Value) ∧ ρ 3 = (.pointer (some ⟨n2, 0, none⟩) : Value) ∧ ρ 6 = (.bool (false) : Value) ∧ ρ 7 = (.pointer (some ⟨n16, 0, none⟩) : Value) ∧ ρ 8 = (.bool (true) : Value) ∧ True) ⟨T0, T1, T2, T3, T6, rfl, rfl, trivial⟩ fun ρ33 ⟨T0, T1, T2, T3, T6, T7, T8, _⟩ => ?_
  refine thenF_normal (hK11 _ _ ?_)
  refine wpF_seq_k fun K34 hK34 => ?_
  refine wpF_text ?_
  refine opsF_step rfl (YieldsK.move (show _ = (.string ⟨(s).toArray⟩ : Value) from T1) ?_)    -- outright.go:44 t19 := (Op.move (Operand.tmp 1))
  refine opsF_step rfl (YieldsK.callA1 leb9_pl17 (show _ = (.string ⟨(s).toArray⟩ : Value) from rfl) ?_)    -- outright.go:44 t20 := (Op.call { callee := (Callee.value (Operand.func 17)), args := #[(Operand.tmp 19)], argTypes := #[9] })
  refine (unhexB_any _ s hs false hb).mono ?_
  rintro e w36 ⟨rfl, hx35⟩
  refine ⟨_, rfl, ?_⟩
  have hE : Ext w w36 := (hE.trans hx35)
  have hb8 : w36.heap[n2]? = some (.cells (Lib.byteCells id).toArray 33 (0, 0)) := (Ext.blk' hx35 hb8)
  have hA22 : Ext w15 w36 := (hA22.trans hx35)
  have hb26 : w36.heap[n16]? = some (.cells (Lib.byteCells id).toArray 33 (0, 0)) := (Ext.blk' hx35 hb26)
  refine opsF_step rfl (YieldsK.move (show _ = (.tuple #[.agg (Lib.byteCells ((unhex s).1)).toArray, .bool (false)] : Value) from rfl) ?_)    -- outright.go:44 t18 := (Op.move (Operand.tmp 20))
  refine opsF_step rfl (YieldsK.extract (vs := [.agg (Lib.byteCells ((unhex s).1)).toArray, .bool (false)]) (show _ = (.tuple #[.agg (Lib.byteCells ((unhex s).1)).toArray, .bool (false)] : Value) from rfl) (show _ = some (.agg (Lib.byteCells ((unhex s).1)).toArray : Value) from rfl) ?_)    -- outright.go:44 t21 := (Op.extract (Operand.tmp 18) 0)
  refine opsF_step rfl (YieldsK.extract (vs := [.agg (Lib.byteCells ((unhex s).1)).toArray, .bool (false)]) (show _ = (.tuple #[.agg (Lib.byteCells ((unhex s).1)).toArray, .bool (false)] : Value) from rfl) (show _ = some (.bool (false) : Value) from rfl) ?_)    -- outright.go:44 t22 := (Op.extract (Operand.tmp 18) 1)
  refine opsF_step rfl (YieldsK.alloc (cs := (Lib.byteCells (List.replicate 32 0)).toArray) leb9_al33 fun n37 w38 hn39 hb40 hx41 hs42 => ?_)    -- outright.go:44 t9 := (Op.alloc 33)
  have hA43 := Ext.refl w36
  have hea44 := hE
  have hea45 := hA22
  have hz46 : w.heap.size ≤ w36.heap.size := hE.size
  have hz47 : w15.heap.size ≤ w36.heap.size := hA22.size
  have hlt48 : n2 < n37 := by have := (Array.getElem?_eq_some_iff.1 hb8).1; omega
  have hlt49 : n16 < n37 := by have := (Array.getElem?_eq_some_iff.1 hb26).1; omega
  have hE : Ext w w38 := (hE.trans hx41)
  have hb8 : w38.heap[n2]? = some (.cells (Lib.byteCells id).toArray 33 (0, 0)) := (Ext.blk' hx41 hb8)
  have hA22 : Ext w15 w38 := (hA22.trans hx41)
  have hb26 : w38.heap[n16]? = some (.cells (Lib.byteCells id).toArray 33 (0, 0)) := (Ext.blk' hx41 hb26)
  have hA43 : Ext w36 w38 := (hA43.trans hx41)
  have hb50 := hb40; clear hb40
  have hl51 : n37 < w38.heap.size := by omega
  refine opsF_step rfl (YieldsK.storeAll (show _ = (.pointer (some ⟨n37, 0, none⟩) : Value) from rfl) (show _ = (.agg (Lib.byteCells ((unhex s).1)).toArray : Value) from rfl) hb50 (by rw [List.size_toArray, Lib.byteCells_length]; rw [unhex_length]; rfl) (by rw [List.size_toArray, Lib.byteCells_length]; first | (rw [hid]; exact leb9_isz33) | (rw [unhex_length]; exact leb9_isz33)) (byteCells_one _) fun w52 hb53 hg54 hs55 => ?_)    -- outright.go:44 tNone := (Op.store 33 (Operand.tmp 9) (Operand.tmp 21))
  have hE : Ext w w52 := row_fresh hE hg54 (Nat.le_trans hz46 (by omega))
  have hb8 : w52.heap[n2]? = some (.cells (Lib.byteCells id).toArray 33 (0, 0)) := (hg54.block _ (Array.getElem?_eq_some_iff.1 hb8).1 (by simp; omega)).trans hb8
  have hA22 : Ext w15 w52 := row_fresh hA22 hg54 (Nat.le_trans hz47 (by omega))
  have hb26 : w52.heap[n16]? = some (.cells (Lib.byteCells id).toArray 33 (0, 0)) := (hg54.block _ (Array.getElem?_eq_some_iff.1 hb26).1 (by simp; omega)).trans hb26
  have hA43 : Ext w36 w52 := row_fresh hA43 hg54 (Nat.le_trans (Nat.le_refl _) (by omega))
  clear hb50
  have hb50 := hb53; clear hb53
  have hl56 : n37 < w52.heap.size := (Array.getElem?_eq_some_iff.1 hb50).1
  refine opsF_step rfl (YieldsK.assign (show _ = (.bool (false) : Value) from rfl) ?_)    -- outright.go:44 t10 := (Op.assign (Operand.tmp 22))
  refine opsF_end (fun ρ => ρ 0 = (.agg (Lib.byteCells id).toArray : Value) ∧ ρ 1 = (.string ⟨(s).toArray⟩ : Value) ∧ ρ 2 = (B8 (n) : Value) ∧ ρ 3 = (.pointer (some ⟨n2, 0, none⟩) : Value) ∧ ρ 6 = (.bool (false) : Value) ∧ ρ 7 = (.pointer (some ⟨n16, 0, none⟩) : Value) ∧ ρ 8 = (.bool (true) : Value) ∧ ρ 9 = (.pointer (some ⟨n37, 0, none⟩) : Value) ∧ ρ 10 = (.bool (false) : Value) ∧ True) ⟨T0, T1, T2, T3, T6, T7, T8, rfl, rfl, trivial⟩ fun ρ57 ⟨T0, T1, T2, T3, T6, T7, T8, T9, T10, _⟩ => ?_
  refine thenF_normal (hK34 _ _ ?_)
  refine wpF_seq_k fun K58 hK58 => ?_
  refine wpF_text ?_
  refine opsF_step rfl (YieldsK.loadAll (show _ = (.pointer (some ⟨n2, 0, none⟩) : Value) from T3) hb8 leb9_ty33 rfl (by rw [List.size_toArray, Lib.byteCells_length]; first | (rw [hid]; exact leb9_isz33) | (rw [unhex_length]; exact leb9_isz33)) ?_)    -- outright.go:45 t23 := (Op.load 33 (Operand.tmp 3))
  refine opsF_step rfl (YieldsK.callA1 leb9_pl19 (show _ = (.agg (Lib.byteCells id).toArray : Value) from rfl) ?_)    -- outright.go:45 t24 := (Op.call { callee := (Callee.value (Operand.func 19)), args := #[(Operand.tmp 23)], argTypes := #[33] })
  refine (hex_any _ id hid).mono ?_
  rintro e w60 ⟨rfl, hx59⟩
  refine ⟨_, rfl, ?_⟩
  have hE : Ext w w60 := (hE.trans hx59)
  have hb8 : w60.heap[n2]? = some (.cells (Lib.byteCells id).toArray 33 (0, 0)) := (Ext.blk' hx59 hb8)
  have hA22 : Ext w15 w60 := (hA22.trans hx59)
  have hb26 : w60.heap[n16]? = some (.cells (Lib.byteCells id).toArray 33 (0, 0)) := (Ext.blk' hx59 hb26)
  have hA43 : Ext w36 w60 := (hA43.trans hx59)
  have hb50 : w60.heap[n37]? = some (.cells (Lib.byteCells ((unhex s).1)).toArray 33 (0, 0)) := (Ext.blk' hx59 hb50)
  refine opsF_step rfl (YieldsK.assign (show _ = (.string ⟨(hexOf id).toArray⟩ : Value) from rfl) ?_)    -- outright.go:45 t11 := (Op.assign (Operand.tmp 24))
  refine opsF_end (fun ρ => ρ 0 = (.agg (Lib.byteCells id).toArray : Value) ∧ ρ 1 = (.string ⟨(s).toArray⟩ : Value) ∧ ρ 2 = (B8 (n) : Value) ∧ ρ 3 = (.pointer (some ⟨n2, 0, none⟩) : Value) ∧ ρ 6 = (.bool (false) : Value) ∧ ρ 7 = (.pointer (some ⟨n16, 0, none⟩) : Value) ∧ ρ 8 = (.bool (true) : Value) ∧ ρ 9 = (.pointer (some ⟨n37, 0, none⟩) : Value) ∧ ρ 10 = (.bool (false) : Value) ∧ ρ 11 = (.string ⟨(hexOf id).toArray⟩ : Value) ∧ True) ⟨T0, T1, T2, T3, T6, T7, T8, T9, T10, rfl, trivial⟩ fun ρ61 ⟨T0, T1, T2, T3, T6, T7, T8, T9, T10, T11, _⟩ => ?_
  refine thenF_normal (hK58 _ _ ?_)
  refine wpF_seq_k fun K62 hK62 => ?_
  refine wpF_seq_k fun K63 hK63 => ?_
  refine wpF_text ?_
  refine opsF_step rfl (YieldsK.move (show _ = (.string ⟨(hexOf id).toArray⟩ : Value) from T11) ?_)    -- outright.go:46 t25 := (Op.move (Operand.tmp 11))
  refine opsF_step rfl (YieldsK.lenSt (l := hexOf id) leb9_ty9 (show _ = (.string ⟨(hexOf id).toArray⟩ : Value) from rfl) ?_)    -- outright.go:46 t26 := (Op.call { callee := (Callee.builtin Builtin.len), args := #[(Operand.tmp 25)], argTypes := #[9] })
  refine opsF_step rfl (YieldsK.eqI (a := (((hexOf id : List UInt8).length : Nat) : Int)) (b := ((64 : Nat) : Int)) (show _ = (.int .i64 (((hexOf id : List UInt8).length : Nat) : Int) : Value) from rfl) (show _ = (.int .i64 ((64 : Nat) : Int) : Value) from rfl) (k_neq _ .i64 ((hexOf id : List UInt8).length) (64)) ?_)    -- outright.go:46 t27 := (Op.binOp BinOp.neq 3 (Operand.tmp 26) (Operand.const (Value.int IntKind.i64 64)) 3)
  refine opsF_end (fun ρ => ρ 0 = (.agg (Lib.byteCells id).toArray : Value) ∧ ρ 1 = (.string ⟨(s).toArray⟩ : Value) ∧ ρ 2 = (B8 (n) : Value) ∧ ρ 3 = (.pointer (some ⟨n2, 0, none⟩) : Value) ∧ ρ 6 = (.bool (false) : Value) ∧ ρ 7 = (.pointer (some ⟨n16, 0, none⟩) : Value) ∧ ρ 8 = (.bool (true) : Value) ∧ ρ 9 = (.pointer (some ⟨n37, 0, none⟩) : Value) ∧ ρ 10 = (.bool (false) : Value) ∧ ρ 11 = (.string ⟨(hexOf id).toArray⟩ : Value) ∧ ρ 27 = (.bool (false) : Value) ∧ True) ⟨T0, T1, T2, T3, T6, T7, T8, T9, T10, T11, (congrArg Value.bool (decide_eq_false (by rw [hexOf_length, hid]; decide))), trivial⟩ fun ρ64 ⟨T0, T1, T2, T3, T6, T7, T8, T9, T10, T11, T27, _⟩ => ?_
  refine thenF_normal (hK63 _ _ ?_)
  refine wpF_false (show _ = (.bool (false) : Value) from T27) ?_
  refine wpF_skip ?_
  refine thenF_normal (hK62 _ _ ?_)
  refine wpF_seq_k fun K65 hK65 => ?_
  refine wpF_draw [Is (.bool (true)), Is (.bool (true)), Is (.agg (Lib.byteCells id).toArray), Is (.agg (Lib.byteCells id).toArray), Is (.bool (true)), Is (.bool (true)), Is (.bool (true)), Is (.bool (false)), Is (.bool (true)), Is (.bool (true)), Is undef, Is undef, Is undef, Is undef, Is (.bool (true)), Is (.bool (true)), Is (.bool (true)), Is (.agg (Lib.byteCells id).toArray), Is (.string ⟨(hexOf id).toArray⟩), Is (B8 (n)), Is (.int .i64 (((n).toNat : Nat) : Int)), Is (.int .i64 ((((n).toNat) % (64) : Nat) : Int)), Is (.int .i64 (((1) + (((n).toNat) % (64)) : Nat) : Int)), Is (.string ⟨(((hexOf id : List UInt8).drop (0)).take (((1) + (((n).toNat) % (64))) - (0))).toArray⟩), Is (.bool (true)), Is (.bool (true)), Is (.bool (true)), Is (.agg (Lib.byteCells id).toArray), Is (.string ⟨(hexOf id).toArray⟩), Is (.string ⟨((hexOf id : List UInt8) ++ (([48] : List UInt8) : List UInt8)).toArray⟩), Is (.bool (false)), Is (.bool (true)), Is (.bool (true)), Is (.bool (true)), Is (.bool (true)), Is (.bool (true)), Is (.bool (true))] (by kernel_rfl) [28, 29, 30, 31, 32, 33, 34, 35, 36, 37, 38, 39, 40, 41, 42, 43, 44, 45, 46, 47, 48, 49, 50, 51, 52, 53, 54, 55, 56, 57, 58, 59, 60, 61, 62, 63, 6] (by kernel_rfl) (by kernel_rfl) ⟨Stab.is _, Stab.is _, Stab.is _, Stab.is _, Stab.is _, Stab.is _, Stab.is _, Stab.is _, Stab.is _, Stab.is _, Stab.is _, Stab.is _, Stab.is _, Stab.is _, Stab.is _, Stab.is _, Stab.is _, Stab.is _, Stab.is _, Stab.is _, Stab.is _, Stab.is _, Stab.is _, Stab.is _, Stab.is _, Stab.is _, Stab.is _, Stab.is _, Stab.is _, Stab.is _, Stab.is _, Stab.is _, Stab.is _, Stab.is _, Stab.is _, Stab.is _, Stab.is _, trivial⟩ ?hs6 ?hQ6
  case hs6 =>
    refine ⟨?_, ?_, ?_, ?_, ?_, ?_, ?_, ?_, ?_, ?_, ?_, ?_, ?_, ?_, ?_, ?_, ?_, ?_, ?_, ?_, ?_, ?_, ?_, ?_, ?_, ?_, ?_, ?_, ?_, ?_, ?_, ?_, ?_, ?_, ?_, ?_, ?_, trivial⟩
    · refine stepN rfl fun σ w1 hC h => ?_    -- t28 := (Op.move (Operand.tmp 8))
      have e8 : σ 8 = .bool (true) := (show _ = _ from h 8 (by decide)).trans T8
      exact YieldsK.move e8 ⟨Ext.refl _, rfl⟩
    · refine stepN rfl fun σ w1 hC h => ?_    -- t29 := (Op.move (Operand.tmp 28))
      have e28 : σ 28 = .bool (true) := h 28 (by decide)
      exact YieldsK.move e28 ⟨Ext.refl _, rfl⟩
    · refine stepY 1 true 29 rfl rfl (fun _ _ h => h) fun σ w1 hC h => ?_    -- t30 := (Op.load 33 (Operand.tmp 7))
      have e7 : σ 7 = .pointer (some ⟨n16, 0, none⟩) := (show _ = _ from h 7 (by decide)).trans T7
      exact YieldsK.loadAll e7 (Ext.blk' hC hb26) leb9_ty33 rfl (by rw [List.size_toArray, Lib.byteCells_length]; first | (rw [hid]; exact leb9_isz33) | (rw [unhex_length]; exact leb9_isz33)) ⟨Ext.refl _, rfl⟩
    · refine stepY 1 true 29 rfl rfl (fun _ _ h => h) fun σ w1 hC h => ?_    -- t31 := (Op.load 33 (Operand.tmp 3))
      have e3 : σ 3 = .pointer (some ⟨n2, 0, none⟩) := (show _ = _ from h 3 (by decide)).trans T3
      exact YieldsK.loadAll e3 (Ext.blk' hC hb8) leb9_ty33 rfl (by rw [List.size_toArray, Lib.byteCells_length]; first | (rw [hid]; exact leb9_isz33) | (rw [unhex_length]; exact leb9_isz33)) ⟨Ext.refl _, rfl⟩
    · refine stepY 1 true 29 rfl rfl (fun _ _ h => h) fun σ w1 hC h => ?_    -- t32 := (Op.binOp BinOp.eql 33 (Operand.tmp 30) (Operand.tmp 31) 33)
      have e30 : σ 30 = .agg (Lib.byteCells id).toArray := h 30 (by decide)
      have e31 : σ 31 = .agg (Lib.byteCells id).toArray := h 31 (by decide)
      exact YieldsK.eqArr (l1 := id) (l2 := id) leb9_ty33 leb9_ty5 leb9_sz5 leb9_eg33 e30 e31 (hid) (hid) ⟨Ext.refl _, (congrArg Value.bool (decide_eq_true (rfl)))⟩
    · refine stepN rfl fun σ w1 hC h => ?_    -- t33 := (Op.pick (Operand.tmp 29) (Operand.tmp 32) (Operand.const (Value.bool false)))
      have e29 : σ 29 = .bool (true) := h 29 (by decide)
      have e32 : σ 32 = .bool (true) := h 32 (by decide)
      exact YieldsK.pickT e29 e32 ⟨Ext.refl _, rfl⟩
    · refine stepN rfl fun σ w1 hC h => ?_    -- t34 := (Op.move (Operand.tmp 33))
      have e33 : σ 33 = .bool (true) := h 33 (by decide)
      exact YieldsK.move e33 ⟨Ext.refl _, rfl⟩
    · refine stepY 6 true 34 rfl rfl (fun _ _ h => h) fun σ w1 hC h => ?_    -- t35 := (Op.move (Operand.tmp 10))
      have e10 : σ 10 = .bool (false) := (show _ = _ from h 10 (by decide)).trans T10
      exact YieldsK.move e10 ⟨Ext.refl _, rfl⟩
    · refine stepY 6 true 34 rfl rfl (fun _ _ h => h) fun σ w1 hC h => ?_    -- t36 := (Op.unOp UnOp.not 4 (Operand.tmp 35))
      have e35 : σ 35 = .bool (false) := h 35 (by decide)
      exact YieldsK.notB e35 ⟨Ext.refl _, rfl⟩
    · refine stepY 6 true 34 rfl rfl (fun _ _ h => h) fun σ w1 hC h => ?_    -- t37 := (Op.move (Operand.tmp 36))
      have e36 : σ 36 = .bool (true) := h 36 (by decide)
      exact YieldsK.move e36 ⟨Ext.refl _, rfl⟩
    · refine stepX 9 false 37 rfl rfl (fun x _ (h : x = .bool true) => by rw [h]; intro h; cases h) fun _ => rfl    -- (Go.Op.load 33 (Go.Operand.tmp 9))
    · refine stepX 9 false 37 rfl rfl (fun x _ (h : x = .bool true) => by rw [h]; intro h; cases h) fun _ => rfl    -- (Go.Op.call { callee := (Go.Callee.value (Go.Operand.func 19)), args := #[(Go.Operand.tmp 
    · refine stepX 9 false 37 rfl rfl (fun x _ (h : x = .bool true) => by rw [h]; intro h; cases h) fun _ => rfl    -- (Go.Op.move (Go.Operand.tmp 1))
    · refine stepX 9 false 37 rfl rfl (fun x _ (h : x = .bool true) => by rw [h]; intro h; cases h) fun _ => rfl    -- (Go.Op.binOp Go.BinOp.eql 9 (Go.Operand.tmp 39) (Go.Operand.tmp 40) 9)
    · refine stepY 6 true 34 rfl rfl (fun _ _ h => h) fun σ w1 hC h => ?_    -- t42 := (Op.pick (Operand.tmp 37) (Operand.const (Value.bool true)) (Operand.tmp 41))
      have e37 : σ 37 = .bool (true) := h 37 (by decide)
      exact YieldsK.pickT e37 (show _ = (.bool (true) : Value) from rfl) ⟨Ext.refl _, rfl⟩
    · refine stepN rfl fun σ w1 hC h => ?_    -- t43 := (Op.pick (Operand.tmp 34) (Operand.tmp 42) (Operand.const (Value.bool false)))
      have e34 : σ 34 = .bool (true) := h 34 (by decide)
      have e42 : σ 42 = .bool (true) := h 42 (by decide)
      exact YieldsK.pickT e34 e42 ⟨Ext.refl _, rfl⟩
    · refine stepN rfl fun σ w1 hC h => ?_    -- t44 := (Op.move (Operand.tmp 43))
      have e43 : σ 43 = .bool (true) := h 43 (by decide)
      exact YieldsK.move e43 ⟨Ext.refl _, rfl⟩
    · refine stepY 16 true 44 rfl rfl (fun _ _ h => h) fun σ w1 hC h => ?_    -- t45 := (Op.load 33 (Operand.tmp 3))
      have e3 : σ 3 = .pointer (some ⟨n2, 0, none⟩) := (show _ = _ from h 3 (by decide)).trans T3
      exact YieldsK.loadAll e3 (Ext.blk' hC hb8) leb9_ty33 rfl (by rw [List.size_toArray, Lib.byteCells_length]; first | (rw [hid]; exact leb9_isz33) | (rw [unhex_length]; exact leb9_isz33)) ⟨Ext.refl _, rfl⟩
    · refine stepY 16 true 44 rfl rfl (fun _ _ h => h) fun σ w1 hC h => ?_    -- t46 := (Op.move (Operand.tmp 11))
      have e11 : σ 11 = .string ⟨(hexOf id).toArray⟩ := (show _ = _ from h 11 (by decide)).trans T11
      exact YieldsK.move e11 ⟨Ext.refl _, rfl⟩
    · refine stepY 16 true 44 rfl rfl (fun _ _ h => h) fun σ w1 hC h => ?_    -- t47 := (Op.move (Operand.tmp 2))
      have e2 : σ 2 = B8 (n) := (show _ = _ from h 2 (by decide)).trans T2
      exact YieldsK.move e2 ⟨Ext.refl _, rfl⟩
    · refine stepY 16 true 44 rfl rfl (fun _ _ h => h) fun σ w1 hC h => ?_    -- t48 := (Op.convert 5 3 (Operand.tmp 47))
      have e47 : σ 47 = B8 (n) := h 47 (by decide)
      exact YieldsK.convI leb9_ty5 leb9_ty3 e47 (ofByte .i64 (n) (fun n hn => wrap_i64 n (by omega))) ⟨Ext.refl _, rfl⟩
    · refine stepY 16 true 44 rfl rfl (fun _ _ h => h) fun σ w1 hC h => ?_    -- t49 := (Op.binOp BinOp.rem 3 (Operand.tmp 48) (Operand.const (Value.int IntKind.i64 64)) 3)
      have e48 : σ 48 = .int .i64 (((n).toNat : Nat) : Int) := h 48 (by decide)
      exact YieldsK.bin (xv := .int .i64 (((n).toNat : Nat) : Int)) (yv := .int .i64 ((64 : Nat) : Int)) e48 (show _ = (.int .i64 ((64 : Nat) : Int) : Value) from rfl) rfl (i64_rem _ ((n).toNat) (64) (by decide)) ⟨Ext.refl _, rfl⟩
    · refine stepY 16 true 44 rfl rfl (fun _ _ h => h) fun σ w1 hC h => ?_    -- t50 := (Op.binOp BinOp.add 3 (Operand.const (Value.int IntKind.i64 1)) (Operand.tmp 49) 3)
      have e49 : σ 49 = .int .i64 ((((n).toNat) % (64) : Nat) : Int) := h 49 (by decide)
      exact YieldsK.bin (xv := .int .i64 ((1 : Nat) : Int)) (yv := .int .i64 ((((n).toNat) % (64) : Nat) : Int)) (show _ = (.int .i64 ((1 : Nat) : Int) : Value) from rfl) e49 rfl (i64_add _ (1) (((n).toNat) % (64)) (by omega)) ⟨Ext.refl _, rfl⟩
    · refine stepY 16 true 44 rfl rfl (fun _ _ h => h) fun σ w1 hC h => ?_    -- t51 := (Op.slice 9 (Operand.tmp 46) none (some (Operand.tmp 50)) none)
      have e46 : σ 46 = .string ⟨(hexOf id).toArray⟩ := h 46 (by decide)
      have e50 : σ 50 = .int .i64 (((1) + (((n).toNat) % (64)) : Nat) : Int) := h 50 (by decide)
      exact YieldsK.sliceSt (l := hexOf id) leb9_ty9 (0) ((1) + (((n).toNat) % (64))) e46 (.inl ⟨rfl, rfl⟩) (.inr ⟨.i64, congrArg some e50⟩) (by omega) (by rw [hexOf_length, hid]; omega) ⟨Ext.refl _, rfl⟩
    · refine stepY 16 true 44 rfl rfl (fun _ _ h => h) fun σ w1 hC h => ?_    -- t52 := (Op.call { callee := (Callee.value (Operand.func 21)), args := #[(Operand.tmp 45), (Operand.tmp 51)], argTypes
      have e45 : σ 45 = .agg (Lib.byteCells id).toArray := h 45 (by decide)
      have e51 : σ 51 = .string ⟨(((hexOf id : List UInt8).drop (0)).take (((1) + (((n).toNat) % (64))) - (0))).toArray⟩ := h 51 (by decide)
      refine YieldsK.callA2 leb9_pl21 e45 e51 ?_
      refine (startsB_any _ id hid (((hexOf id : List UInt8).drop (0)).take (((1) + (((n).toNat) % (64))) - (0))) true (starts_take id hid _)).mono ?_
      rintro e w2 ⟨rfl, hx⟩
      exact ⟨_, rfl, hx, rfl⟩
    · refine stepN rfl fun σ w1 hC h => ?_    -- t53 := (Op.pick (Operand.tmp 44) (Operand.tmp 52) (Operand.const (Value.bool false)))
      have e44 : σ 44 = .bool (true) := h 44 (by decide)
      have e52 : σ 52 = .bool (true) := h 52 (by decide)
      exact YieldsK.pickT e44 e52 ⟨Ext.refl _, rfl⟩
    · refine stepN rfl fun σ w1 hC h => ?_    -- t54 := (Op.move (Operand.tmp 53))
      have e53 : σ 53 = .bool (true) := h 53 (by decide)
      exact YieldsK.move e53 ⟨Ext.refl _, rfl⟩
    · refine stepY 26 true 54 rfl rfl (fun _ _ h => h) fun σ w1 hC h => ?_    -- t55 := (Op.load 33 (Operand.tmp 3))
      have e3 : σ 3 = .pointer (some ⟨n2, 0, none⟩) := (show _ = _ from h 3 (by decide)).trans T3
      exact YieldsK.loadAll e3 (Ext.blk' hC hb8) leb9_ty33 rfl (by rw [List.size_toArray, Lib.byteCells_length]; first | (rw [hid]; exact leb9_isz33) | (rw [unhex_length]; exact leb9_isz33)) ⟨Ext.refl _, rfl⟩
    · refine stepY 26 true 54 rfl rfl (fun _ _ h => h) fun σ w1 hC h => ?_    -- t56 := (Op.move (Operand.tmp 11))
      have e11 : σ 11 = .string ⟨(hexOf id).toArray⟩ := (show _ = _ from h 11 (by decide)).trans T11
      exact YieldsK.move e11 ⟨Ext.refl _, rfl⟩
    · refine stepY 26 true 54 rfl rfl (fun _ _ h => h) fun σ w1 hC h => ?_    -- t57 := (Op.binOp BinOp.add 9 (Operand.tmp 56) (Operand.const (Value.string { data := #[48] })) 9)
      have e56 : σ 56 = .string ⟨(hexOf id).toArray⟩ := h 56 (by decide)
      exact YieldsK.catSt (l := hexOf id) (m := ([48] : List UInt8)) e56 (show _ = (.string ⟨(([48] : List UInt8)).toArray⟩ : Value) from rfl) (by rw [hexOf_length, hid]; decide) ⟨Ext.refl _, rfl⟩
    · refine stepY 26 true 54 rfl rfl (fun _ _ h => h) fun σ w1 hC h => ?_    -- t58 := (Op.call { callee := (Callee.value (Operand.func 21)), args := #[(Operand.tmp 55), (Operand.tmp 57)], argTypes
      have e55 : σ 55 = .agg (Lib.byteCells id).toArray := h 55 (by decide)
      have e57 : σ 57 = .string ⟨((hexOf id : List UInt8) ++ (([48] : List UInt8) : List UInt8)).toArray⟩ := h 57 (by decide)
      refine YieldsK.callA2 leb9_pl21 e55 e57 ?_
      refine (startsB_any _ id hid ((hexOf id : List UInt8) ++ (([48] : List UInt8) : List UInt8)) false (starts_more id hid)).mono ?_
      rintro e w2 ⟨rfl, hx⟩
      exact ⟨_, rfl, hx, rfl⟩
    · refine stepY 26 true 54 rfl rfl (fun _ _ h => h) fun σ w1 hC h => ?_    -- t59 := (Op.unOp UnOp.not 4 (Operand.tmp 58))
      have e58 : σ 58 = .bool (false) := h 58 (by decide)
      exact YieldsK.notB e58 ⟨Ext.refl _, rfl⟩
    · refine stepN rfl fun σ w1 hC h => ?_    -- t60 := (Op.pick (Operand.tmp 54) (Operand.tmp 59) (Operand.const (Value.bool false)))
      have e54 : σ 54 = .bool (true) := h 54 (by decide)
      have e59 : σ 59 = .bool (true) := h 59 (by decide)
      exact YieldsK.pickT e54 e59 ⟨Ext.refl _, rfl⟩
    · refine stepN rfl fun σ w1 hC h => ?_    -- t61 := (Op.move (Operand.tmp 60))
      have e60 : σ 60 = .bool (true) := h 60 (by decide)
      exact YieldsK.move e60 ⟨Ext.refl _, rfl⟩
    · refine stepY 33 true 61 rfl rfl (fun _ _ h => h) fun σ w1 hC h => ?_    -- t62 := (Op.call { callee := (Callee.value (Operand.func 9)), args := #[], argTypes := #[] })
      refine YieldsK.callA0 leb9_pl9  ?_
      refine (awake02 _).mono ?_
      rintro e w2 ⟨rfl, hx⟩
      exact ⟨_, rfl, hx, rfl⟩
    · refine stepN rfl fun σ w1 hC h => ?_    -- t63 := (Op.pick (Operand.tmp 61) (Operand.tmp 62) (Operand.const (Value.bool false)))
      have e61 : σ 61 = .bool (true) := h 61 (by decide)
      have e62 : σ 62 = .bool (true) := h 62 (by decide)
      exact YieldsK.pickT e61 e62 ⟨Ext.refl _, rfl⟩
    · refine stepN rfl fun σ w1 hC h => ?_    -- t6 := (Op.assign (Operand.tmp 63))
      have e63 : σ 63 = .bool (true) := h 63 (by decide)
      exact YieldsK.assign e63 ⟨Ext.refl _, rfl⟩
  intro ρ66 w67 hx68 he hf
  obtain ⟨-, -, -, -, -, -, -, -, -, -, -, -, -, -, -, -, -, -, -, -, -, -, -, -, -, -, -, -, -, -, -, -, -, -, -, -, k6, -⟩ := hf
  have T0 : ρ66 0 = .agg (Lib.byteCells id).toArray := he.at_ T0 rfl
  have T1 : ρ66 1 = .string ⟨(s).toArray⟩ := he.at_ T1 rfl
  have T2 : ρ66 2 = B8 (n) := he.at_ T2 rfl
  have T3 : ρ66 3 = .pointer (some ⟨n2, 0, none⟩) := he.at_ T3 rfl
  have T7 : ρ66 7 = .pointer (some ⟨n16, 0, none⟩) := he.at_ T7 rfl
  have T8 : ρ66 8 = .bool (true) := he.at_ T8 rfl
  have T9 : ρ66 9 = .pointer (some ⟨n37, 0, none⟩) := he.at_ T9 rfl
  have T10 : ρ66 10 = .bool (false) := he.at_ T10 rfl
  have T11 : ρ66 11 = .string ⟨(hexOf id).toArray⟩ := he.at_ T11 rfl
  have T27 : ρ66 27 = .bool (false) := he.at_ T27 rfl
  clear he
  have hE : Ext w w67 := (hE.trans hx68)
  have hb8 : w67.heap[n2]? = some (.cells (Lib.byteCells id).toArray 33 (0, 0)) := (Ext.blk' hx68 hb8)
  have hA22 : Ext w15 w67 := (hA22.trans hx68)
  have hb26 : w67.heap[n16]? = some (.cells (Lib.byteCells id).toArray 33 (0, 0)) := (Ext.blk' hx68 hb26)
  have hA43 : Ext w36 w67 := (hA43.trans hx68)
  have hb50 : w67.heap[n37]? = some (.cells (Lib.byteCells ((unhex s).1)).toArray 33 (0, 0)) := (Ext.blk' hx68 hb50)
  have T6 : ρ66 6 = .bool (true) := k6
  clear k6
  refine thenF_normal (hK65 _ _ ?_)
  refine wpF_ret ?_
  refine postF_ret (fn := Try.f6) _ rfl [.bool (true)] (.bool (true)) rfl ⟨T6, trivial⟩ ?_
  exact ⟨rfl, hE⟩

theorem lebDigits_walk (w : World) (id : List UInt8) (hid : id.length = 32) (s : List UInt8) (hs : s.length ≤ 9223372036854775807) (n : UInt8) :
    Calls Try.prog 6 #[.agg (Lib.byteCells id).toArray, St s, B8 n] w fun e w' => e = .returned (.bool true) ∧ Ext w w' := by
  cases hb : (unhex s).2
  · exact lebDigits_walk_false w id hid s hs n hb
  · exact lebDigits_walk_true w id hid s hs n hb
end Go.Proofs.Ytcindgknimallaa
