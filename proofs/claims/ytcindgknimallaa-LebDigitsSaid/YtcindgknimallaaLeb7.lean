/- Digits: Hex, Unhex and what they lean on, of the program and of the reference. -/
import Derived.Test.YtcindgknimallaaLeb6
import Derived.Test.YtcindgknimallaaHex
import Derived.Test.YtcindgknimallaaShelf
namespace Go.Proofs.Ytcindgknimallaa
open Go.RowKit
theorem u8_and15 (t : TypeId) (c : UInt8) : Go.binOp .and t (.int .u8 ((c.toNat : Nat) : Int)) (.int .u8 ((15 : Nat) : Int)) = pure (.int .u8 ((c.toNat % 16 : Nat) : Int)) := by
  rw [u8_and t _ _ c.toNat_lt (by decide), Nat.and_two_pow_sub_one_eq_mod _ 4]
theorem digs_cut (a b : Nat) (ha : a < 16) (hb : b < 16) : (digs.drop a).take (a + 1 - a) ++ (digs.drop b).take (b + 1 - b) = [digs.getD a 0, digs.getD b 0] := by
  have h : ∀ n : Fin 16, (digs.drop n.val).take 1 = [digs.getD n.val 0] := by decide
  rw [show a + 1 - a = 1 by omega, show b + 1 - b = 1 by omega, h ⟨a, ha⟩, h ⟨b, hb⟩]
  rfl
theorem hexB_app (l : List UInt8) (b : UInt8) : (l ++ [([48, 49, 50, 51, 52, 53, 54, 55, 56, 57, 97, 98, 99, 100, 101, 102] : List UInt8).getD (b.toNat / 2 ^ 4) 0]) ++ [([48, 49, 50, 51, 52, 53, 54, 55, 56, 57, 97, 98, 99, 100, 101, 102] : List UInt8).getD (b.toNat % 16) 0] = l ++ hexB b := by
  rw [List.append_assoc]
  rfl
theorem index_any (w : World) (c : UInt8) : Calls Try.prog 26 #[St ([48, 49, 50, 51, 52, 53, 54, 55, 56, 57, 97, 98, 99, 100, 101, 102] : List UInt8), B8 c] w fun e w' => e = .returned (.int .i64 (dgI c)) ∧ w' = w := by
  have h := Try.strings_IndexByte (⟨([48, 49, 50, 51, 52, 53, 54, 55, 56, 57, 97, 98, 99, 100, 101, 102] : List UInt8).toArray⟩ : ByteArray) (c.toNat : Int) w
  have e : Lib.indexByte (⟨([48, 49, 50, 51, 52, 53, 54, 55, 56, 57, 97, 98, 99, 100, 101, 102] : List UInt8).toArray⟩ : ByteArray).data.toList ((c.toNat : Int).toNat.toUInt8) = dgI c := by
    rw [← index_dg c]
    simp [digs]
  rw [e] at h
  exact h
theorem leb7_isz33 : (Try.prog.info? 33).map (·.size) = some 32 := by kernel_rfl
theorem leb7_al57 {d : Option Tmp} {ty : TypeId} {pos : String} {af : Array Edge} {gd : Option (Nat × Bool)} (σ : Operand → Value) (w : World) : (execOp σ ⟨d, .alloc 57, ty, pos, af, gd⟩).run Try.prog w = .ok (.value (.pointer (some ⟨w.heap.size, 0, none⟩))) (w.alloc (.cells ([.pointer none, (Value.slice none 0 0)]).toArray 57)) := by kernel_rfl
theorem leb7_ty33 : Try.prog.underlying 33 = some (.array 32 5) := by kernel_rfl
theorem leb7_ty5 : Try.prog.underlying 5 = some (.int .u8) := by kernel_rfl
theorem leb7_sz5 : ∀ w' : World, (sizeOf 5).run Try.prog w' = .ok 1 w' := fun _ => by kernel_rfl
theorem leb7_ty9 : Try.prog.underlying 9 = some (.string) := by kernel_rfl
theorem leb7_pl28 : Plain Try.prog 28 := fun _ _ => by kernel_rfl
theorem leb7_pl29 : Plain Try.prog 29 := fun _ _ => by kernel_rfl
theorem leb7_ty3 : Try.prog.underlying 3 = some (.int .i64) := by kernel_rfl
theorem leb7_pl26 : Plain Try.prog 26 := fun _ _ => by kernel_rfl
theorem hex_any (w : World) (id : List UInt8) (hid : id.length = 32) :
    Calls Try.prog 19 #[.agg (Lib.byteCells id).toArray] w fun e w' => e = .returned (St (hexOf id)) ∧ Ext w w' := by
  refine calls_of_wpF (args := [.agg (Lib.byteCells id).toArray]) Try.func19 rfl 20 rfl (Nat.le_of_ble_eq_true rfl) ?_
  intro ρ0 hb
  have T0 : ρ0 0 = (.agg (Lib.byteCells id).toArray : Value) := hb.get 0
  clear hb
  have hE := Ext.refl w
  refine wpF_seq_k fun K1 hK1 => ?_
  refine wpF_text ?_
  refine opsF_step rfl (YieldsK.box (cs := (Lib.byteCells id).toArray) (show _ = (.agg (Lib.byteCells id).toArray : Value) from T0) fun n2 w3 hn4 hb5 hx6 hs7 => ?_)    -- leb.go:94 t1 := (Op.box 33 (Operand.tmp 0))
  have hE : Ext w w3 := (hE.trans hx6)
  have hb8 := hb5; clear hb5
  have hl9 : n2 < w3.heap.size := by omega
  refine opsF_step rfl (YieldsK.assign (show _ = (.string ⟨(([] : List UInt8)).toArray⟩ : Value) from rfl) ?_)    -- leb.go:94 t2 := (Op.assign (Operand.const (Value.string { data := #[] })))
  refine opsF_end (fun ρ => ρ 0 = (.agg (Lib.byteCells id).toArray : Value) ∧ ρ 1 = (.pointer (some ⟨n2, 0, none⟩) : Value) ∧ ρ 2 = (.string ⟨(([] : List UInt8)).toArray⟩ : Value) ∧ True) ⟨T0, rfl, rfl, trivial⟩ fun ρ10 ⟨T0, T1, T2, _⟩ => ?_
  refine thenF_normal (hK1 _ _ ?_)
  refine wpF_seq_k fun K11 hK11 => ?_
  refine wpF_text ?_
  refine opsF_step rfl (YieldsK.alloc (cs := ([.pointer none, (Value.slice none 0 0)]).toArray) leb7_al57 fun n12 w13 hn14 hb15 hx16 hs17 => ?_)    -- leb.go:95 t3 := (Op.alloc 57)
  have hA18 := Ext.refl w3
  have hea19 := hE
  have hz20 : w.heap.size ≤ w3.heap.size := hE.size
  have hlt21 : n2 < n12 := by have := (Array.getElem?_eq_some_iff.1 hb8).1; omega
  have hE : Ext w w13 := (hE.trans hx16)
  have hb8 : w13.heap[n2]? = some (.cells (Lib.byteCells id).toArray 33 (0, 0)) := (Ext.blk' hx16 hb8)
  have hA18 : Ext w3 w13 := (hA18.trans hx16)
  have hb22 := hb15; clear hb15
  have hl23 : n12 < w13.heap.size := by omega
  refine opsF_end (fun ρ => ρ 0 = (.agg (Lib.byteCells id).toArray : Value) ∧ ρ 1 = (.pointer (some ⟨n2, 0, none⟩) : Value) ∧ ρ 2 = (.string ⟨(([] : List UInt8)).toArray⟩ : Value) ∧ ρ 3 = (.pointer (some ⟨n12, 0, none⟩) : Value) ∧ True) ⟨T0, T1, T2, rfl, trivial⟩ fun ρ24 ⟨T0, T1, T2, T3, _⟩ => ?_
  have hB0 : BAt w13 w3 n12 [] := BAt.fresh (by omega) hb22
  refine thenF_normal (hK11 _ _ ?_)
  refine wpF_seq_k fun K25 hK25 => ?_
  refine wpF_seq_k fun K26 hK26 => ?_
  refine wpF_text ?_
  refine opsF_step rfl (YieldsK.loadAll (show _ = (.pointer (some ⟨n2, 0, none⟩) : Value) from T1) hb8 leb7_ty33 rfl (by rw [List.size_toArray, Lib.byteCells_length, hid]; exact leb7_isz33) ?_)    -- leb.go:96 t6 := (Op.load 33 (Operand.tmp 1))
  refine opsF_step rfl (YieldsK.move (show _ = (.int .i64 ((0 : Nat) : Int) : Value) from rfl) ?_)    -- leb.go:96 t7 := (Op.move (Operand.const (Value.int IntKind.i64 0)))
  refine opsF_end (fun ρ => ρ 0 = (.agg (Lib.byteCells id).toArray : Value) ∧ ρ 1 = (.pointer (some ⟨n2, 0, none⟩) : Value) ∧ ρ 2 = (.string ⟨(([] : List UInt8)).toArray⟩ : Value) ∧ ρ 3 = (.pointer (some ⟨n12, 0, none⟩) : Value) ∧ ρ 6 = (.agg (Lib.byteCells id).toArray : Value) ∧ ρ 7 = (.int .i64 ((0 : Nat) : Int) : Value) ∧ True) ⟨T0, T1, T2, T3, rfl, rfl, trivial⟩ fun ρ27 ⟨T0, T1, T2, T3, T6, T7, _⟩ => ?_
  refine thenF_normal (hK26 _ _ ?_)
  refine wpF_block ?_
  refine wpF_loop (fun (ρ : Slots) (wz : World) => ∃ i : Nat, ρ 0 = (.agg (Lib.byteCells id).toArray : Value) ∧ ρ 1 = (.pointer (some ⟨n2, 0, none⟩) : Value) ∧ ρ 2 = (.string ⟨(([] : List UInt8)).toArray⟩ : Value) ∧ ρ 3 = (.pointer (some ⟨n12, 0, none⟩) : Value) ∧ ρ 6 = (.agg (Lib.byteCells id).toArray : Value) ∧ ρ 7 = (.int .i64 ((i : Nat) : Int) : Value) ∧ Ext w wz ∧ Ext w3 wz ∧ BAt wz w3 n12 (hexOf (id.take i)) ∧ i ≤ 32 ∧ True) (fun ρ _ => 32 - (intOf (ρ 7)).toNat) ⟨0, T0, T1, T2, T3, T6, T7, hE, hA18, hB0, Nat.zero_le _, trivial⟩ ?_
  clear hb8
  clear hB0
  clear hE hA18
  rintro ρ28 w29 ⟨i, T0, T1, T2, T3, T6, T7, hE, hA18, hBi, hi, -⟩
  have q7 := T7
  have hlt := (id.getD i 0).toNat_lt
  refine wpF_seq_k fun K30 hK30 => ?_
  refine wpF_text ?_
  refine opsF_step rfl (YieldsK.eqI (a := ((i : Nat) : Int)) (b := ((32 : Nat) : Int)) (show _ = (.int .i64 ((i : Nat) : Int) : Value) from T7) (show _ = (.int .i64 ((32 : Nat) : Int) : Value) from rfl) (k_lss _ .i64 (i) (32)) ?_)    -- leb.go:96 t8 := (Op.binOp BinOp.lss 3 (Operand.tmp 7) (Operand.const (Value.int IntKind.i64 32)) 3)
  refine opsF_end (fun ρ => ρ 0 = (.agg (Lib.byteCells id).toArray : Value) ∧ ρ 1 = (.pointer (some ⟨n2, 0, none⟩) : Value) ∧ ρ 2 = (.string ⟨(([] : List UInt8)).toArray⟩ : Value) ∧ ρ 3 = (.pointer (some ⟨n12, 0, none⟩) : Value) ∧ ρ 6 = (.agg (Lib.byteCells id).toArray : Value) ∧ ρ 7 = (.int .i64 ((i : Nat) : Int) : Value) ∧ ρ 8 = (.bool (decide ((i) < (32))) : Value) ∧ True) ⟨T0, T1, T2, T3, T6, T7, rfl, trivial⟩ fun ρ31 ⟨T0, T1, T2, T3, T6, T7, T8, _⟩ => ?_
  refine thenF_normal (hK30 _ _ ?_)
  refine wpF_seq_k fun K32 hK32 => ?_
  refine wpF_cond ((i) < (32)) (show _ = (.bool (decide ((i) < (32))) : Value) from T8) (fun hc0 => ?_) (fun hc0 => ?_)
  · refine wpF_skip ?_
    refine thenF_normal (hK32 _ _ ?_)
    refine wpF_seq_k fun K33 hK33 => ?_
    refine wpF_block ?_
    refine wpF_seq_k fun K34 hK34 => ?_
    refine wpF_text ?_
    refine opsF_step rfl (YieldsK.idxB (l := id) (i := i) leb7_ty33 leb7_ty5 rfl leb7_sz5 (show _ = (.agg (Lib.byteCells id).toArray : Value) from T6) (show _ = (.int .i64 ((i : Nat) : Int) : Value) from T7) (by omega) (hid) ?_)    -- leb.go:96 t9 := (Op.index 33 (Operand.tmp 6) (Operand.tmp 7))
    refine opsF_step rfl (YieldsK.assign (show _ = (B8 (id.getD (i) 0) : Value) from rfl) ?_)    -- leb.go:96 t5 := (Op.assign (Operand.tmp 9))
    refine opsF_end (fun ρ => ρ 0 = (.agg (Lib.byteCells id).toArray : Value) ∧ ρ 1 = (.pointer (some ⟨n2, 0, none⟩) : Value) ∧ ρ 2 = (.string ⟨(([] : List UInt8)).toArray⟩ : Value) ∧ ρ 3 = (.pointer (some ⟨n12, 0, none⟩) : Value) ∧ ρ 5 = (B8 (id.getD (i) 0) : Value) ∧ ρ 6 = (.agg (Lib.byteCells id).toArray : Value) ∧ ρ 7 = (.int .i64 ((i : Nat) : Int) : Value) ∧ True) ⟨T0, T1, T2, T3, rfl, T6, T7, trivial⟩ fun ρ35 ⟨T0, T1, T2, T3, T5, T6, T7, _⟩ => ?_
    refine thenF_normal (hK34 _ _ ?_)
    refine wpF_seq_k fun K36 hK36 => ?_
    refine wpF_text ?_
    refine opsF_step rfl (YieldsK.move (show _ = (B8 (id.getD (i) 0) : Value) from T5) ?_)    -- leb.go:97 t10 := (Op.move (Operand.tmp 5))
    refine opsF_step rfl (YieldsK.bin (xv := .int .u8 (((id.getD (i) 0).toNat : Nat) : Int)) (yv := .int .u64 ((4 : Nat) : Int)) (show _ = (B8 (id.getD (i) 0) : Value) from rfl) (show _ = (.int .u64 ((4 : Nat) : Int) : Value) from rfl) rfl (u8_shr _ ((id.getD (i) 0).toNat) _ (4) (by omega)) ?_)    -- leb.go:97 t11 := (Op.binOp BinOp.shr 5 (Operand.tmp 10) (Operand.const (Value.int IntKind.u64 4)) 53)
    refine opsF_step rfl (YieldsK.idxSt (l := ([48, 49, 50, 51, 52, 53, 54, 55, 56, 57, 97, 98, 99, 100, 101, 102] : List UInt8)) (i := ((id.getD (i) 0).toNat) / 2 ^ (4)) leb7_ty9 (show _ = (.string ⟨(([48, 49, 50, 51, 52, 53, 54, 55, 56, 57, 97, 98, 99, 100, 101, 102] : List UInt8)).toArray⟩ : Value) from rfl) (show _ = (.int .u8 ((((id.getD (i) 0).toNat) / 2 ^ (4) : Nat) : Int) : Value) from rfl) (by show _ < 16; omega) ?_)    -- leb.go:97 t12 := (Op.index 9 (Operand.const (Value.string { data := #[48, 49, 50, 51, 52, 53, 54, 55, 56, 57, 97, 98, 99, 100, 
    refine opsF_step rfl (YieldsK.callA2 leb7_pl28 (show _ = (.pointer (some ⟨n12, 0, none⟩) : Value) from T3) (show _ = (B8 ((([48, 49, 50, 51, 52, 53, 54, 55, 56, 57, 97, 98, 99, 100, 101, 102] : List UInt8) : List UInt8).getD (((id.getD (i) 0).toNat) / 2 ^ (4)) 0) : Value) from rfl) ?_)    -- leb.go:97 t13 := (Op.call { callee := (Callee.value (Operand.func 28)), args := #[(Operand.tmp 3), (Operand.tmp 12)], argTypes 
    refine (writeByte_any w3 _ hA18 n12 (hexOf (id.take i)) hBi ((([48, 49, 50, 51, 52, 53, 54, 55, 56, 57, 97, 98, 99, 100, 101, 102] : List UInt8) : List UInt8).getD (((id.getD (i) 0).toNat) / 2 ^ (4)) 0) (by have := hexOf_length (id.take i); simp at this ⊢; omega)).mono ?_
    rintro e w39 ⟨rfl, hB37, hv38⟩
    refine ⟨_, rfl, ?_⟩
    have hE : Ext w w39 := hea19.trans hv38
    have hA18 : Ext w3 w39 := hv38
    clear hBi
    refine opsF_end (fun ρ => ρ 0 = (.agg (Lib.byteCells id).toArray : Value) ∧ ρ 1 = (.pointer (some ⟨n2, 0, none⟩) : Value) ∧ ρ 2 = (.string ⟨(([] : List UInt8)).toArray⟩ : Value) ∧ ρ 3 = (.pointer (some ⟨n12, 0, none⟩) : Value) ∧ ρ 5 = (B8 (id.getD (i) 0) : Value) ∧ ρ 6 = (.agg (Lib.byteCells id).toArray : Value) ∧ ρ 7 = (.int .i64 ((i : Nat) : Int) : Value) ∧ True) ⟨T0, T1, T2, T3, T5, T6, T7, trivial⟩ fun ρ40 ⟨T0, T1, T2, T3, T5, T6, T7, _⟩ => ?_
    refine thenF_normal (hK36 _ _ ?_)
    refine wpF_text ?_
    refine opsF_step rfl (YieldsK.move (show _ = (B8 (id.getD (i) 0) : Value) from T5) ?_)    -- leb.go:98 t14 := (Op.move (Operand.tmp 5))
    refine opsF_step rfl (YieldsK.bin (xv := .int .u8 (((id.getD (i) 0).toNat : Nat) : Int)) (yv := .int .u8 ((15 : Nat) : Int)) (show _ = (B8 (id.getD (i) 0) : Value) from rfl) (show _ = (.int .u8 ((15 : Nat) : Int) : Value) from rfl) rfl (u8_and15 _ (id.getD (i) 0)) ?_)    -- leb.go:98 t15 := (Op.binOp BinOp.and 5 (Operand.tmp 14) (Operand.const (Value.int IntKind.u8 15)) 5)
    refine opsF_step rfl (YieldsK.idxSt (l := ([48, 49, 50, 51, 52, 53, 54, 55, 56, 57, 97, 98, 99, 100, 101, 102] : List UInt8)) (i := (id.getD (i) 0).toNat % 16) leb7_ty9 (show _ = (.string ⟨(([48, 49, 50, 51, 52, 53, 54, 55, 56, 57, 97, 98, 99, 100, 101, 102] : List UInt8)).toArray⟩ : Value) from rfl) (show _ = (.int .u8 (((id.getD (i) 0).toNat % 16 : Nat) : Int) : Value) from rfl) (by show _ < 16; omega) ?_)    -- leb.go:98 t16 := (Op.index 9 (Operand.const (Value.string { data := #[48, 49, 50, 51, 52, 53, 54, 55, 56, 57, 97, 98, 99, 100, 
    refine opsF_step rfl (YieldsK.callA2 leb7_pl28 (show _ = (.pointer (some ⟨n12, 0, none⟩) : Value) from T3) (show _ = (B8 ((([48, 49, 50, 51, 52, 53, 54, 55, 56, 57, 97, 98, 99, 100, 101, 102] : List UInt8) : List UInt8).getD ((id.getD (i) 0).toNat % 16) 0) : Value) from rfl) ?_)    -- leb.go:98 t17 := (Op.call { callee := (Callee.value (Operand.func 28)), args := #[(Operand.tmp 3), (Operand.tmp 16)], argTypes 
    refine (writeByte_any w3 _ hA18 n12 ((hexOf (id.take i) : List UInt8) ++ [(([48, 49, 50, 51, 52, 53, 54, 55, 56, 57, 97, 98, 99, 100, 101, 102] : List UInt8) : List UInt8).getD (((id.getD (i) 0).toNat) / 2 ^ (4)) 0]) hB37 ((([48, 49, 50, 51, 52, 53, 54, 55, 56, 57, 97, 98, 99, 100, 101, 102] : List UInt8) : List UInt8).getD ((id.getD (i) 0).toNat % 16) 0) (by have := hexOf_length (id.take i); simp at this ⊢; omega)).mono ?_
    rintro e w43 ⟨rfl, hB41, hv42⟩
    refine ⟨_, rfl, ?_⟩
    have hE : Ext w w43 := hea19.trans hv42
    have hA18 : Ext w3 w43 := hv42
    clear hB37
    refine opsF_end (fun ρ => ρ 0 = (.agg (Lib.byteCells id).toArray : Value) ∧ ρ 1 = (.pointer (some ⟨n2, 0, none⟩) : Value) ∧ ρ 2 = (.string ⟨(([] : List UInt8)).toArray⟩ : Value) ∧ ρ 3 = (.pointer (some ⟨n12, 0, none⟩) : Value) ∧ ρ 5 = (B8 (id.getD (i) 0) : Value) ∧ ρ 6 = (.agg (Lib.byteCells id).toArray : Value) ∧ ρ 7 = (.int .i64 ((i : Nat) : Int) : Value) ∧ True) ⟨T0, T1, T2, T3, T5, T6, T7, trivial⟩ fun ρ44 ⟨T0, T1, T2, T3, T5, T6, T7, _⟩ => ?_
    refine inBlockF_normal ?_
    refine thenF_normal (hK33 _ _ ?_)
    refine wpF_text ?_
    refine opsF_step rfl (YieldsK.bin (xv := .int .i64 ((i : Nat) : Int)) (yv := .int .i64 ((1 : Nat) : Int)) (show _ = (.int .i64 ((i : Nat) : Int) : Value) from T7) (show _ = (.int .i64 ((1 : Nat) : Int) : Value) from rfl) rfl (i64_add _ (i) (1) (by omega)) ?_)    -- leb.go:96 t18 := (Op.binOp BinOp.add 3 (Operand.tmp 7) (Operand.const (Value.int IntKind.i64 1)) 3)
    refine opsF_step rfl (YieldsK.move (show _ = (.int .i64 (((i) + (1) : Nat) : Int) : Value) from rfl) ?_)    -- leb.go:96 t7 := (Op.move (Operand.tmp 18))
    refine opsF_end (fun ρ => ρ 0 = (.agg (Lib.byteCells id).toArray : Value) ∧ ρ 1 = (.pointer (some ⟨n2, 0, none⟩) : Value) ∧ ρ 2 = (.string ⟨(([] : List UInt8)).toArray⟩ : Value) ∧ ρ 3 = (.pointer (some ⟨n12, 0, none⟩) : Value) ∧ ρ 5 = (B8 (id.getD (i) 0) : Value) ∧ ρ 6 = (.agg (Lib.byteCells id).toArray : Value) ∧ ρ 7 = (.int .i64 (((i) + (1) : Nat) : Int) : Value) ∧ True) ⟨T0, T1, T2, T3, T5, T6, rfl, trivial⟩ fun ρ45 ⟨T0, T1, T2, T3, T5, T6, T7, _⟩ => ?_
    refine thenF_normal (And.intro ⟨i + 1, T0, T1, T2, T3, T6, T7, hE, hA18, (show BAt _ _ _ _ from by rw [hexOf_take id i (by omega), ← hexB_app]; exact hB41), by omega, trivial⟩ ?_)
    show 32 - (intOf (ρ45 7)).toNat < 32 - (intOf (ρ28 7)).toNat
    rw [T7, q7]
    simp only [intOf, Int.toNat_natCast]; omega
  · have e32 : id.take i = id := List.take_of_length_le (by omega)
    refine wpF_exit (thenF_exit (thenF_exit (inBlockF_hit ?_)))
    refine thenF_normal (hK25 _ _ ?_)
    refine wpF_seq_k fun K46 hK46 => ?_
    refine wpF_text ?_
    refine opsF_step rfl (YieldsK.callA1 leb7_pl29 (show _ = (.pointer (some ⟨n12, 0, none⟩) : Value) from T3) ?_)    -- leb.go:100 t19 := (Op.call { callee := (Callee.value (Operand.func 29)), args := #[(Operand.tmp 3)], argTypes := #[57] })
    refine (Try.Builder_String_any _ n12 (hexOf (id.take i)) _ (BAt.lib hBi) hA18.size).mono ?_
    rintro e w48 ⟨rfl, hv47⟩
    refine ⟨_, rfl, ?_⟩
    have hv47t := Below.trans hA18 hv47
    have hE : Ext w w48 := hea19.trans hv47t
    have hA18 : Ext w3 w48 := hv47t
    clear hBi
    refine opsF_step rfl (YieldsK.assign (show _ = (.string ⟨(hexOf (id.take i)).toArray⟩ : Value) from rfl) ?_)    -- leb.go:100 t2 := (Op.assign (Operand.tmp 19))
    refine opsF_end (fun ρ => ρ 0 = (.agg (Lib.byteCells id).toArray : Value) ∧ ρ 1 = (.pointer (some ⟨n2, 0, none⟩) : Value) ∧ ρ 2 = (.string ⟨(hexOf (id.take i)).toArray⟩ : Value) ∧ ρ 3 = (.pointer (some ⟨n12, 0, none⟩) : Value) ∧ ρ 6 = (.agg (Lib.byteCells id).toArray : Value) ∧ ρ 7 = (.int .i64 ((i : Nat) : Int) : Value) ∧ True) ⟨T0, T1, rfl, T3, T6, T7, trivial⟩ fun ρ49 ⟨T0, T1, T2, T3, T6, T7, _⟩ => ?_
    refine thenF_normal (hK46 _ _ ?_)
    refine wpF_ret ?_
    refine postF_ret (fn := Try.f19) _ rfl [.string ⟨(hexOf (id.take i)).toArray⟩] (.string ⟨(hexOf (id.take i)).toArray⟩) rfl ⟨T2, trivial⟩ ?_
    exact ⟨by rw [e32], hE⟩

theorem refHex_any (w : World) (id : List UInt8) (hid : id.length = 32) :
    Calls Try.prog 20 #[.agg (Lib.byteCells id).toArray] w fun e w' => e = .returned (St (hexOf id)) ∧ Ext w w' := by
  refine calls_of_wpF (args := [.agg (Lib.byteCells id).toArray]) Try.func20 rfl 36 rfl (Nat.le_of_ble_eq_true rfl) ?_
  intro ρ0 hb
  have T0 : ρ0 0 = (.agg (Lib.byteCells id).toArray : Value) := hb.get 0
  clear hb
  have hE := Ext.refl w
  refine wpF_seq_k fun K1 hK1 => ?_
  refine wpF_text ?_
  refine opsF_step rfl (YieldsK.box (cs := (Lib.byteCells id).toArray) (show _ = (.agg (Lib.byteCells id).toArray : Value) from T0) fun n2 w3 hn4 hb5 hx6 hs7 => ?_)    -- ref.go:77 t1 := (Op.box 33 (Operand.tmp 0))
  have hE : Ext w w3 := (hE.trans hx6)
  have hb8 := hb5; clear hb5
  have hl9 : n2 < w3.heap.size := by omega
  refine opsF_step rfl (YieldsK.assign (show _ = (.string ⟨(([] : List UInt8)).toArray⟩ : Value) from rfl) ?_)    -- ref.go:77 t2 := (Op.assign (Operand.const (Value.string { data := #[] })))
  refine opsF_end (fun ρ => ρ 0 = (.agg (Lib.byteCells id).toArray : Value) ∧ ρ 1 = (.pointer (some ⟨n2, 0, none⟩) : Value) ∧ ρ 2 = (.string ⟨(([] : List UInt8)).toArray⟩ : Value) ∧ True) ⟨T0, rfl, rfl, trivial⟩ fun ρ10 ⟨T0, T1, T2, _⟩ => ?_
  refine thenF_normal (hK1 _ _ ?_)
  refine wpF_seq_k fun K11 hK11 => ?_
  refine wpF_text ?_
  refine opsF_step rfl (YieldsK.assign (show _ = (.string ⟨(([48, 49, 50, 51, 52, 53, 54, 55, 56, 57, 97, 98, 99, 100, 101, 102] : List UInt8)).toArray⟩ : Value) from rfl) ?_)    -- ref.go:78 t3 := (Op.assign (Operand.const (Value.string { data := #[48, 49, 50, 51, 52, 53, 54, 55, 56, 57, 97, 98, 99, 100, 1
  refine opsF_end (fun ρ => ρ 0 = (.agg (Lib.byteCells id).toArray : Value) ∧ ρ 1 = (.pointer (some ⟨n2, 0, none⟩) : Value) ∧ ρ 2 = (.string ⟨(([] : List UInt8)).toArray⟩ : Value) ∧ ρ 3 = (.string ⟨(([48, 49, 50, 51, 52, 53, 54, 55, 56, 57, 97, 98, 99, 100, 101, 102] : List UInt8)).toArray⟩ : Value) ∧ True) ⟨T0, T1, T2, rfl, trivial⟩ fun ρ12 ⟨T0, T1, T2, T3, _⟩ => ?_
  refine thenF_normal (hK11 _ _ ?_)
  refine wpF_seq_k fun K13 hK13 => ?_
  refine wpF_text ?_
  refine opsF_step rfl (YieldsK.assign (show _ = (.string ⟨(([] : List UInt8)).toArray⟩ : Value) from rfl) ?_)    -- ref.go:79 t4 := (Op.assign (Operand.const (Value.string { data := #[] })))
  refine opsF_end (fun ρ => ρ 0 = (.agg (Lib.byteCells id).toArray : Value) ∧ ρ 1 = (.pointer (some ⟨n2, 0, none⟩) : Value) ∧ ρ 2 = (.string ⟨(([] : List UInt8)).toArray⟩ : Value) ∧ ρ 3 = (.string ⟨(([48, 49, 50, 51, 52, 53, 54, 55, 56, 57, 97, 98, 99, 100, 101, 102] : List UInt8)).toArray⟩ : Value) ∧ ρ 4 = (.string ⟨(([] : List UInt8)).toArray⟩ : Value) ∧ True) ⟨T0, T1, T2, T3, rfl, trivial⟩ fun ρ14 ⟨T0, T1, T2, T3, T4, _⟩ => ?_
  refine thenF_normal (hK13 _ _ ?_)
  refine wpF_seq_k fun K15 hK15 => ?_
  refine wpF_seq_k fun K16 hK16 => ?_
  refine wpF_text ?_
  refine opsF_step rfl (YieldsK.assign (show _ = (.int .i64 ((0 : Nat) : Int) : Value) from rfl) ?_)    -- ref.go:80 t5 := (Op.assign (Operand.const (Value.int IntKind.i64 0)))
  refine opsF_end (fun ρ => ρ 0 = (.agg (Lib.byteCells id).toArray : Value) ∧ ρ 1 = (.pointer (some ⟨n2, 0, none⟩) : Value) ∧ ρ 2 = (.string ⟨(([] : List UInt8)).toArray⟩ : Value) ∧ ρ 3 = (.string ⟨(([48, 49, 50, 51, 52, 53, 54, 55, 56, 57, 97, 98, 99, 100, 101, 102] : List UInt8)).toArray⟩ : Value) ∧ ρ 4 = (.string ⟨(([] : List UInt8)).toArray⟩ : Value) ∧ ρ 5 = (.int .i64 ((0 : Nat) : Int) : Value) ∧ True) ⟨T0, T1, T2, T3, T4, rfl, trivial⟩ fun ρ17 ⟨T0, T1, T2, T3, T4, T5, _⟩ => ?_
  refine thenF_normal (hK16 _ _ ?_)
  refine wpF_block ?_
  refine wpF_loop (fun (ρ : Slots) (wz : World) => ∃ i : Nat, ρ 0 = (.agg (Lib.byteCells id).toArray : Value) ∧ ρ 1 = (.pointer (some ⟨n2, 0, none⟩) : Value) ∧ ρ 2 = (.string ⟨(([] : List UInt8)).toArray⟩ : Value) ∧ ρ 3 = (.string ⟨(([48, 49, 50, 51, 52, 53, 54, 55, 56, 57, 97, 98, 99, 100, 101, 102] : List UInt8)).toArray⟩ : Value) ∧ ρ 5 = (.int .i64 ((i : Nat) : Int) : Value) ∧ ρ 4 = (.string ⟨(hexOf (id.take i)).toArray⟩ : Value) ∧ Ext w wz ∧ wz.heap[n2]? = some (.cells (Lib.byteCells id).toArray 33 (0, 0)) ∧ i ≤ 32 ∧ True) (fun ρ _ => 32 - (intOf (ρ 5)).toNat) ⟨0, T0, T1, T2, T3, T5, T4, hE, hb8, Nat.zero_le _, trivial⟩ ?_
  clear hE hb8
  rintro ρ18 w19 ⟨i, T0, T1, T2, T3, T5, T4, hE, hb8, hi, -⟩
  have q5 := T5
  have hlt := (id.getD i 0).toNat_lt
  refine wpF_seq_k fun K20 hK20 => ?_
  refine wpF_seq_k fun K21 hK21 => ?_
  refine wpF_text ?_
  refine opsF_step rfl (YieldsK.move (show _ = (.int .i64 ((i : Nat) : Int) : Value) from T5) ?_)    -- ref.go:80 t8 := (Op.move (Operand.tmp 5))
  refine opsF_step rfl (YieldsK.eqI (a := ((i : Nat) : Int)) (b := ((32 : Nat) : Int)) (show _ = (.int .i64 ((i : Nat) : Int) : Value) from rfl) (show _ = (.int .i64 ((32 : Nat) : Int) : Value) from rfl) (k_lss _ .i64 (i) (32)) ?_)    -- ref.go:80 t9 := (Op.binOp BinOp.lss 3 (Operand.tmp 8) (Operand.const (Value.int IntKind.i64 32)) 3)
  refine opsF_end (fun ρ => ρ 0 = (.agg (Lib.byteCells id).toArray : Value) ∧ ρ 1 = (.pointer (some ⟨n2, 0, none⟩) : Value) ∧ ρ 2 = (.string ⟨(([] : List UInt8)).toArray⟩ : Value) ∧ ρ 3 = (.string ⟨(([48, 49, 50, 51, 52, 53, 54, 55, 56, 57, 97, 98, 99, 100, 101, 102] : List UInt8)).toArray⟩ : Value) ∧ ρ 4 = (.string ⟨(hexOf (id.take i)).toArray⟩ : Value) ∧ ρ 5 = (.int .i64 ((i : Nat) : Int) : Value) ∧ ρ 9 = (.bool (decide ((i) < (32))) : Value) ∧ True) ⟨T0, T1, T2, T3, T4, T5, rfl, trivial⟩ fun ρ22 ⟨T0, T1, T2, T3, T4, T5, T9, _⟩ => ?_
  refine thenF_normal (hK21 _ _ ?_)
  refine wpF_cond ((i) < (32)) (show _ = (.bool (decide ((i) < (32))) : Value) from T9) (fun hc0 => ?_) (fun hc0 => ?_)
  · refine wpF_skip ?_
    refine thenF_normal (hK20 _ _ ?_)
    refine wpF_seq_k fun K23 hK23 => ?_
    refine wpF_block ?_
    refine wpF_seq_k fun K24 hK24 => ?_
    refine wpF_draw [Is (.int .i64 ((i : Nat) : Int)), Is (.pointer (some ⟨n2, i, none⟩)), Is (B8 ((id).getD (i) 0)), Is (.int .i64 ((((id).getD (i) 0).toNat : Nat) : Int)), Is (.int .i64 (((((id).getD (i) 0).toNat) / (16) : Nat) : Int)), Is (.int .i64 ((i : Nat) : Int)), Is (.pointer (some ⟨n2, i, none⟩)), Is (B8 ((id).getD (i) 0)), Is (.int .i64 ((((id).getD (i) 0).toNat : Nat) : Int)), Is (.int .i64 (((((id).getD (i) 0).toNat) % (16) : Nat) : Int)), Is (.int .i64 (((((id).getD (i) 0).toNat) / (16) : Nat) : Int)), Is (.int .i64 (((((id).getD (i) 0).toNat) % (16) : Nat) : Int))] (by kernel_rfl) [12, 13, 14, 15, 16, 17, 18, 19, 20, 21, 6, 7] (by kernel_rfl) (by kernel_rfl) ⟨Stab.is _, Stab.is _, Stab.is _, Stab.is _, Stab.is _, Stab.is _, Stab.is _, Stab.is _, Stab.is _, Stab.is _, Stab.is _, Stab.is _, trivial⟩ ?hs6 ?hQ6
    case hs6 =>
      refine ⟨?_, ?_, ?_, ?_, ?_, ?_, ?_, ?_, ?_, ?_, ?_, ?_, trivial⟩
      · refine stepN rfl fun σ w1 hC h => ?_    -- t12 := (Op.move (Operand.tmp 5))
        have e5 : σ 5 = .int .i64 ((i : Nat) : Int) := (show _ = _ from h 5 (by decide)).trans T5
        exact YieldsK.move e5 ⟨Ext.refl _, rfl⟩
      · refine stepN rfl fun σ w1 hC h => ?_    -- t13 := (Op.indexAddr 33 (Operand.tmp 1) (Operand.tmp 12))
        have e1 : σ 1 = .pointer (some ⟨n2, 0, none⟩) := (show _ = _ from h 1 (by decide)).trans T1
        have e12 : σ 12 = .int .i64 ((i : Nat) : Int) := h 12 (by decide)
        exact YieldsK.atArr0 (i := i) leb7_ty33 leb7_sz5 e1 e12 (by omega) ⟨Ext.refl _, rfl⟩
      · refine stepN rfl fun σ w1 hC h => ?_    -- t14 := (Op.load 5 (Operand.tmp 13))
        have e13 : σ 13 = .pointer (some ⟨n2, i, none⟩) := h 13 (by decide)
        exact YieldsK.cell1 leb7_ty5 rfl e13 (cellAt (Ext.blk' hC hb8) (byte_at (i := i) (by omega))) ⟨Ext.refl _, rfl⟩
      · refine stepN rfl fun σ w1 hC h => ?_    -- t15 := (Op.convert 5 3 (Operand.tmp 14))
        have e14 : σ 14 = B8 ((id).getD (i) 0) := h 14 (by decide)
        exact YieldsK.convI leb7_ty5 leb7_ty3 e14 (ofByte .i64 ((id).getD (i) 0) (fun n hn => wrap_i64 n (by omega))) ⟨Ext.refl _, rfl⟩
      · refine stepN rfl fun σ w1 hC h => ?_    -- t16 := (Op.binOp BinOp.quo 3 (Operand.tmp 15) (Operand.const (Value.int IntKind.i64 16)) 3)
        have e15 : σ 15 = .int .i64 ((((id).getD (i) 0).toNat : Nat) : Int) := h 15 (by decide)
        exact YieldsK.bin (xv := .int .i64 ((((id).getD (i) 0).toNat : Nat) : Int)) (yv := .int .i64 ((16 : Nat) : Int)) e15 (show _ = (.int .i64 ((16 : Nat) : Int) : Value) from rfl) rfl (i64_quo _ (((id).getD (i) 0).toNat) (16) (by omega) (by omega)) ⟨Ext.refl _, rfl⟩
      · refine stepN rfl fun σ w1 hC h => ?_    -- t17 := (Op.move (Operand.tmp 5))
        have e5 : σ 5 = .int .i64 ((i : Nat) : Int) := (show _ = _ from h 5 (by decide)).trans T5
        exact YieldsK.move e5 ⟨Ext.refl _, rfl⟩
      · refine stepN rfl fun σ w1 hC h => ?_    -- t18 := (Op.indexAddr 33 (Operand.tmp 1) (Operand.tmp 17))
        have e1 : σ 1 = .pointer (some ⟨n2, 0, none⟩) := (show _ = _ from h 1 (by decide)).trans T1
        have e17 : σ 17 = .int .i64 ((i : Nat) : Int) := h 17 (by decide)
        exact YieldsK.atArr0 (i := i) leb7_ty33 leb7_sz5 e1 e17 (by omega) ⟨Ext.refl _, rfl⟩
      · refine stepN rfl fun σ w1 hC h => ?_    -- t19 := (Op.load 5 (Operand.tmp 18))
        have e18 : σ 18 = .pointer (some ⟨n2, i, none⟩) := h 18 (by decide)
        exact YieldsK.cell1 leb7_ty5 rfl e18 (cellAt (Ext.blk' hC hb8) (byte_at (i := i) (by omega))) ⟨Ext.refl _, rfl⟩
      · refine stepN rfl fun σ w1 hC h => ?_    -- t20 := (Op.convert 5 3 (Operand.tmp 19))
        have e19 : σ 19 = B8 ((id).getD (i) 0) := h 19 (by decide)
        exact YieldsK.convI leb7_ty5 leb7_ty3 e19 (ofByte .i64 ((id).getD (i) 0) (fun n hn => wrap_i64 n (by omega))) ⟨Ext.refl _, rfl⟩
      · refine stepN rfl fun σ w1 hC h => ?_    -- t21 := (Op.binOp BinOp.rem 3 (Operand.tmp 20) (Operand.const (Value.int IntKind.i64 16)) 3)
        have e20 : σ 20 = .int .i64 ((((id).getD (i) 0).toNat : Nat) : Int) := h 20 (by decide)
        exact YieldsK.bin (xv := .int .i64 ((((id).getD (i) 0).toNat : Nat) : Int)) (yv := .int .i64 ((16 : Nat) : Int)) e20 (show _ = (.int .i64 ((16 : Nat) : Int) : Value) from rfl) rfl (i64_rem _ (((id).getD (i) 0).toNat) (16) (by omega)) ⟨Ext.refl _, rfl⟩
      · refine stepN rfl fun σ w1 hC h => ?_    -- t6 := (Op.assign (Operand.tmp 16))
        have e16 : σ 16 = .int .i64 (((((id).getD (i) 0).toNat) / (16) : Nat) : Int) := h 16 (by decide)
        exact YieldsK.assign e16 ⟨Ext.refl _, rfl⟩
      · refine stepN rfl fun σ w1 hC h => ?_    -- t7 := (Op.assign (Operand.tmp 21))
        have e21 : σ 21 = .int .i64 (((((id).getD (i) 0).toNat) % (16) : Nat) : Int) := h 21 (by decide)
        exact YieldsK.assign e21 ⟨Ext.refl _, rfl⟩
    intro ρ25 w26 hx27 he hf
    obtain ⟨-, -, -, -, -, -, -, -, -, -, k6, k7, -⟩ := hf
    have T0 : ρ25 0 = .agg (Lib.byteCells id).toArray := he.at_ T0 rfl
    have T1 : ρ25 1 = .pointer (some ⟨n2, 0, none⟩) := he.at_ T1 rfl
    have T2 : ρ25 2 = .string ⟨(([] : List UInt8)).toArray⟩ := he.at_ T2 rfl
    have T3 : ρ25 3 = .string ⟨(([48, 49, 50, 51, 52, 53, 54, 55, 56, 57, 97, 98, 99, 100, 101, 102] : List UInt8)).toArray⟩ := he.at_ T3 rfl
    have T4 : ρ25 4 = .string ⟨(hexOf (id.take i)).toArray⟩ := he.at_ T4 rfl
    have T5 : ρ25 5 = .int .i64 ((i : Nat) : Int) := he.at_ T5 rfl
    clear he
    have hE : Ext w w26 := (hE.trans hx27)
    have hb8 : w26.heap[n2]? = some (.cells (Lib.byteCells id).toArray 33 (0, 0)) := (Ext.blk' hx27 hb8)
    have T6 : ρ25 6 = .int .i64 (((((id).getD (i) 0).toNat) / (16) : Nat) : Int) := k6
    have T7 : ρ25 7 = .int .i64 (((((id).getD (i) 0).toNat) % (16) : Nat) : Int) := k7
    clear k6 k7
    refine thenF_normal (hK24 _ _ ?_)
    refine wpF_draw [Is (.string ⟨(hexOf (id.take i)).toArray⟩), Is (.string ⟨(([48, 49, 50, 51, 52, 53, 54, 55, 56, 57, 97, 98, 99, 100, 101, 102] : List UInt8)).toArray⟩), Is (.int .i64 (((((id).getD (i) 0).toNat) / (16) : Nat) : Int)), Is (.int .i64 (((((id).getD (i) 0).toNat) / (16) : Nat) : Int)), Is (.int .i64 ((((((id).getD (i) 0).toNat) / (16)) + (1) : Nat) : Int)), Is (.string ⟨(((([48, 49, 50, 51, 52, 53, 54, 55, 56, 57, 97, 98, 99, 100, 101, 102] : List UInt8) : List UInt8).drop ((((id).getD (i) 0).toNat) / (16))).take ((((((id).getD (i) 0).toNat) / (16)) + (1)) - ((((id).getD (i) 0).toNat) / (16)))).toArray⟩), Is (.string ⟨(([48, 49, 50, 51, 52, 53, 54, 55, 56, 57, 97, 98, 99, 100, 101, 102] : List UInt8)).toArray⟩), Is (.int .i64 (((((id).getD (i) 0).toNat) % (16) : Nat) : Int)), Is (.int .i64 (((((id).getD (i) 0).toNat) % (16) : Nat) : Int)), Is (.int .i64 ((((((id).getD (i) 0).toNat) % (16)) + (1) : Nat) : Int)), Is (.string ⟨(((([48, 49, 50, 51, 52, 53, 54, 55, 56, 57, 97, 98, 99, 100, 101, 102] : List UInt8) : List UInt8).drop ((((id).getD (i) 0).toNat) % (16))).take ((((((id).getD (i) 0).toNat) % (16)) + (1)) - ((((id).getD (i) 0).toNat) % (16)))).toArray⟩), Is (.string ⟨((((([48, 49, 50, 51, 52, 53, 54, 55, 56, 57, 97, 98, 99, 100, 101, 102] : List UInt8) : List UInt8).drop ((((id).getD (i) 0).toNat) / (16))).take ((((((id).getD (i) 0).toNat) / (16)) + (1)) - ((((id).getD (i) 0).toNat) / (16))) : List UInt8) ++ (((([48, 49, 50, 51, 52, 53, 54, 55, 56, 57, 97, 98, 99, 100, 101, 102] : List UInt8) : List UInt8).drop ((((id).getD (i) 0).toNat) % (16))).take ((((((id).getD (i) 0).toNat) % (16)) + (1)) - ((((id).getD (i) 0).toNat) % (16))) : List UInt8)).toArray⟩), Is (.string ⟨((hexOf (id.take i) : List UInt8) ++ ((((([48, 49, 50, 51, 52, 53, 54, 55, 56, 57, 97, 98, 99, 100, 101, 102] : List UInt8) : List UInt8).drop ((((id).getD (i) 0).toNat) / (16))).take ((((((id).getD (i) 0).toNat) / (16)) + (1)) - ((((id).getD (i) 0).toNat) / (16))) : List UInt8) ++ (((([48, 49, 50, 51, 52, 53, 54, 55, 56, 57, 97, 98, 99, 100, 101, 102] : List UInt8) : List UInt8).drop ((((id).getD (i) 0).toNat) % (16))).take ((((((id).getD (i) 0).toNat) % (16)) + (1)) - ((((id).getD (i) 0).toNat) % (16))) : List UInt8) : List UInt8)).toArray⟩), Is (.string ⟨((hexOf (id.take i) : List UInt8) ++ ((((([48, 49, 50, 51, 52, 53, 54, 55, 56, 57, 97, 98, 99, 100, 101, 102] : List UInt8) : List UInt8).drop ((((id).getD (i) 0).toNat) / (16))).take ((((((id).getD (i) 0).toNat) / (16)) + (1)) - ((((id).getD (i) 0).toNat) / (16))) : List UInt8) ++ (((([48, 49, 50, 51, 52, 53, 54, 55, 56, 57, 97, 98, 99, 100, 101, 102] : List UInt8) : List UInt8).drop ((((id).getD (i) 0).toNat) % (16))).take ((((((id).getD (i) 0).toNat) % (16)) + (1)) - ((((id).getD (i) 0).toNat) % (16))) : List UInt8) : List UInt8)).toArray⟩)] (by kernel_rfl) [22, 23, 24, 25, 26, 27, 28, 29, 30, 31, 32, 33, 34, 4] (by kernel_rfl) (by kernel_rfl) ⟨Stab.is _, Stab.is _, Stab.is _, Stab.is _, Stab.is _, Stab.is _, Stab.is _, Stab.is _, Stab.is _, Stab.is _, Stab.is _, Stab.is _, Stab.is _, Stab.is _, trivial⟩ ?hs7 ?hQ7
    case hs7 =>
      refine ⟨?_, ?_, ?_, ?_, ?_, ?_, ?_, ?_, ?_, ?_, ?_, ?_, ?_, ?_, trivial⟩
      · refine stepN rfl fun σ w1 hC h => ?_    -- t22 := (Op.move (Operand.tmp 4))
        have e4 : σ 4 = .string ⟨(hexOf (id.take i)).toArray⟩ := (show _ = _ from h 4 (by decide)).trans T4
        exact YieldsK.move e4 ⟨Ext.refl _, rfl⟩
      · refine stepN rfl fun σ w1 hC h => ?_    -- t23 := (Op.move (Operand.tmp 3))
        have e3 : σ 3 = .string ⟨(([48, 49, 50, 51, 52, 53, 54, 55, 56, 57, 97, 98, 99, 100, 101, 102] : List UInt8)).toArray⟩ := (show _ = _ from h 3 (by decide)).trans T3
        exact YieldsK.move e3 ⟨Ext.refl _, rfl⟩
      · refine stepN rfl fun σ w1 hC h => ?_    -- t24 := (Op.move (Operand.tmp 6))
        have e6 : σ 6 = .int .i64 (((((id).getD (i) 0).toNat) / (16) : Nat) : Int) := (show _ = _ from h 6 (by decide)).trans T6
        exact YieldsK.move e6 ⟨Ext.refl _, rfl⟩
      · refine stepN rfl fun σ w1 hC h => ?_    -- t25 := (Op.move (Operand.tmp 6))
        have e6 : σ 6 = .int .i64 (((((id).getD (i) 0).toNat) / (16) : Nat) : Int) := (show _ = _ from h 6 (by decide)).trans T6
        exact YieldsK.move e6 ⟨Ext.refl _, rfl⟩
      · refine stepN rfl fun σ w1 hC h => ?_    -- t26 := (Op.binOp BinOp.add 3 (Operand.tmp 25) (Operand.const (Value.int IntKind.i64 1)) 3)
        have e25 : σ 25 = .int .i64 (((((id).getD (i) 0).toNat) / (16) : Nat) : Int) := h 25 (by decide)
        exact YieldsK.bin (xv := .int .i64 (((((id).getD (i) 0).toNat) / (16) : Nat) : Int)) (yv := .int .i64 ((1 : Nat) : Int)) e25 (show _ = (.int .i64 ((1 : Nat) : Int) : Value) from rfl) rfl (i64_add _ ((((id).getD (i) 0).toNat) / (16)) (1) (by omega)) ⟨Ext.refl _, rfl⟩
      · refine stepN rfl fun σ w1 hC h => ?_    -- t27 := (Op.slice 9 (Operand.tmp 23) (some (Operand.tmp 24)) (some (Operand.tmp 26)) none)
        have e23 : σ 23 = .string ⟨(([48, 49, 50, 51, 52, 53, 54, 55, 56, 57, 97, 98, 99, 100, 101, 102] : List UInt8)).toArray⟩ := h 23 (by decide)
        have e24 : σ 24 = .int .i64 (((((id).getD (i) 0).toNat) / (16) : Nat) : Int) := h 24 (by decide)
        have e26 : σ 26 = .int .i64 ((((((id).getD (i) 0).toNat) / (16)) + (1) : Nat) : Int) := h 26 (by decide)
        exact YieldsK.sliceSt (l := ([48, 49, 50, 51, 52, 53, 54, 55, 56, 57, 97, 98, 99, 100, 101, 102] : List UInt8)) leb7_ty9 ((((id).getD (i) 0).toNat) / (16)) (((((id).getD (i) 0).toNat) / (16)) + (1)) e23 (.inr ⟨.i64, congrArg some e24⟩) (.inr ⟨.i64, congrArg some e26⟩) (by omega) (by show _ ≤ 16; omega) ⟨Ext.refl _, rfl⟩
      · refine stepN rfl fun σ w1 hC h => ?_    -- t28 := (Op.move (Operand.tmp 3))
        have e3 : σ 3 = .string ⟨(([48, 49, 50, 51, 52, 53, 54, 55, 56, 57, 97, 98, 99, 100, 101, 102] : List UInt8)).toArray⟩ := (show _ = _ from h 3 (by decide)).trans T3
        exact YieldsK.move e3 ⟨Ext.refl _, rfl⟩
      · refine stepN rfl fun σ w1 hC h => ?_    -- t29 := (Op.move (Operand.tmp 7))
        have e7 : σ 7 = .int .i64 (((((id).getD (i) 0).toNat) % (16) : Nat) : Int) := (show _ = _ from h 7 (by decide)).trans T7
        exact YieldsK.move e7 ⟨Ext.refl _, rfl⟩
      · refine stepN rfl fun σ w1 hC h => ?_    -- t30 := (Op.move (Operand.tmp 7))
        have e7 : σ 7 = .int .i64 (((((id).getD (i) 0).toNat) % (16) : Nat) : Int) := (show _ = _ from h 7 (by decide)).trans T7
        exact YieldsK.move e7 ⟨Ext.refl _, rfl⟩
      · refine stepN rfl fun σ w1 hC h => ?_    -- t31 := (Op.binOp BinOp.add 3 (Operand.tmp 30) (Operand.const (Value.int IntKind.i64 1)) 3)
        have e30 : σ 30 = .int .i64 (((((id).getD (i) 0).toNat) % (16) : Nat) : Int) := h 30 (by decide)
        exact YieldsK.bin (xv := .int .i64 (((((id).getD (i) 0).toNat) % (16) : Nat) : Int)) (yv := .int .i64 ((1 : Nat) : Int)) e30 (show _ = (.int .i64 ((1 : Nat) : Int) : Value) from rfl) rfl (i64_add _ ((((id).getD (i) 0).toNat) % (16)) (1) (by omega)) ⟨Ext.refl _, rfl⟩
      · refine stepN rfl fun σ w1 hC h => ?_    -- t32 := (Op.slice 9 (Operand.tmp 28) (some (Operand.tmp 29)) (some (Operand.tmp 31)) none)
        have e28 : σ 28 = .string ⟨(([48, 49, 50, 51, 52, 53, 54, 55, 56, 57, 97, 98, 99, 100, 101, 102] : List UInt8)).toArray⟩ := h 28 (by decide)
        have e29 : σ 29 = .int .i64 (((((id).getD (i) 0).toNat) % (16) : Nat) : Int) := h 29 (by decide)
        have e31 : σ 31 = .int .i64 ((((((id).getD (i) 0).toNat) % (16)) + (1) : Nat) : Int) := h 31 (by decide)
        exact YieldsK.sliceSt (l := ([48, 49, 50, 51, 52, 53, 54, 55, 56, 57, 97, 98, 99, 100, 101, 102] : List UInt8)) leb7_ty9 ((((id).getD (i) 0).toNat) % (16)) (((((id).getD (i) 0).toNat) % (16)) + (1)) e28 (.inr ⟨.i64, congrArg some e29⟩) (.inr ⟨.i64, congrArg some e31⟩) (by omega) (by show _ ≤ 16; omega) ⟨Ext.refl _, rfl⟩
      · refine stepN rfl fun σ w1 hC h => ?_    -- t33 := (Op.binOp BinOp.add 9 (Operand.tmp 27) (Operand.tmp 32) 9)
        have e27 : σ 27 = .string ⟨(((([48, 49, 50, 51, 52, 53, 54, 55, 56, 57, 97, 98, 99, 100, 101, 102] : List UInt8) : List UInt8).drop ((((id).getD (i) 0).toNat) / (16))).take ((((((id).getD (i) 0).toNat) / (16)) + (1)) - ((((id).getD (i) 0).toNat) / (16)))).toArray⟩ := h 27 (by decide)
        have e32 : σ 32 = .string ⟨(((([48, 49, 50, 51, 52, 53, 54, 55, 56, 57, 97, 98, 99, 100, 101, 102] : List UInt8) : List UInt8).drop ((((id).getD (i) 0).toNat) % (16))).take ((((((id).getD (i) 0).toNat) % (16)) + (1)) - ((((id).getD (i) 0).toNat) % (16)))).toArray⟩ := h 32 (by decide)
        exact YieldsK.catSt (l := ((([48, 49, 50, 51, 52, 53, 54, 55, 56, 57, 97, 98, 99, 100, 101, 102] : List UInt8) : List UInt8).drop ((((id).getD (i) 0).toNat) / (16))).take ((((((id).getD (i) 0).toNat) / (16)) + (1)) - ((((id).getD (i) 0).toNat) / (16)))) (m := ((([48, 49, 50, 51, 52, 53, 54, 55, 56, 57, 97, 98, 99, 100, 101, 102] : List UInt8) : List UInt8).drop ((((id).getD (i) 0).toNat) % (16))).take ((((((id).getD (i) 0).toNat) % (16)) + (1)) - ((((id).getD (i) 0).toNat) % (16)))) e27 e32 (by simp; omega) ⟨Ext.refl _, rfl⟩
      · refine stepN rfl fun σ w1 hC h => ?_    -- t34 := (Op.binOp BinOp.add 9 (Operand.tmp 22) (Operand.tmp 33) 9)
        have e22 : σ 22 = .string ⟨(hexOf (id.take i)).toArray⟩ := h 22 (by decide)
        have e33 : σ 33 = .string ⟨((((([48, 49, 50, 51, 52, 53, 54, 55, 56, 57, 97, 98, 99, 100, 101, 102] : List UInt8) : List UInt8).drop ((((id).getD (i) 0).toNat) / (16))).take ((((((id).getD (i) 0).toNat) / (16)) + (1)) - ((((id).getD (i) 0).toNat) / (16))) : List UInt8) ++ (((([48, 49, 50, 51, 52, 53, 54, 55, 56, 57, 97, 98, 99, 100, 101, 102] : List UInt8) : List UInt8).drop ((((id).getD (i) 0).toNat) % (16))).take ((((((id).getD (i) 0).toNat) % (16)) + (1)) - ((((id).getD (i) 0).toNat) % (16))) : List UInt8)).toArray⟩ := h 33 (by decide)
        exact YieldsK.catSt (l := hexOf (id.take i)) (m := (((([48, 49, 50, 51, 52, 53, 54, 55, 56, 57, 97, 98, 99, 100, 101, 102] : List UInt8) : List UInt8).drop ((((id).getD (i) 0).toNat) / (16))).take ((((((id).getD (i) 0).toNat) / (16)) + (1)) - ((((id).getD (i) 0).toNat) / (16))) : List UInt8) ++ (((([48, 49, 50, 51, 52, 53, 54, 55, 56, 57, 97, 98, 99, 100, 101, 102] : List UInt8) : List UInt8).drop ((((id).getD (i) 0).toNat) % (16))).take ((((((id).getD (i) 0).toNat) % (16)) + (1)) - ((((id).getD (i) 0).toNat) % (16))) : List UInt8)) e22 e33 (by have := hexOf_length (id.take i); simp at this ⊢; omega) ⟨Ext.refl _, rfl⟩
      · refine stepN rfl fun σ w1 hC h => ?_    -- t4 := (Op.assign (Operand.tmp 34))
        have e34 : σ 34 = .string ⟨((hexOf (id.take i) : List UInt8) ++ ((((([48, 49, 50, 51, 52, 53, 54, 55, 56, 57, 97, 98, 99, 100, 101, 102] : List UInt8) : List UInt8).drop ((((id).getD (i) 0).toNat) / (16))).take ((((((id).getD (i) 0).toNat) / (16)) + (1)) - ((((id).getD (i) 0).toNat) / (16))) : List UInt8) ++ (((([48, 49, 50, 51, 52, 53, 54, 55, 56, 57, 97, 98, 99, 100, 101, 102] : List UInt8) : List UInt8).drop ((((id).getD (i) 0).toNat) % (16))).take ((((((id).getD (i) 0).toNat) % (16)) + (1)) - ((((id).getD (i) 0).toNat) % (16))) : List UInt8) : List UInt8)).toArray⟩ := h 34 (by decide)
        exact YieldsK.assign e34 ⟨Ext.refl _, rfl⟩
    intro ρ28 w29 hx30 he hf
    obtain ⟨-, -, -, -, -, -, -, -, -, -, -, -, -, k4, -⟩ := hf
    have T0 : ρ28 0 = .agg (Lib.byteCells id).toArray := he.at_ T0 rfl
    have T1 : ρ28 1 = .pointer (some ⟨n2, 0, none⟩) := he.at_ T1 rfl
    have T2 : ρ28 2 = .string ⟨(([] : List UInt8)).toArray⟩ := he.at_ T2 rfl
    have T3 : ρ28 3 = .string ⟨(([48, 49, 50, 51, 52, 53, 54, 55, 56, 57, 97, 98, 99, 100, 101, 102] : List UInt8)).toArray⟩ := he.at_ T3 rfl
    have T5 : ρ28 5 = .int .i64 ((i : Nat) : Int) := he.at_ T5 rfl
    have T6 : ρ28 6 = .int .i64 (((((id).getD (i) 0).toNat) / (16) : Nat) : Int) := he.at_ T6 rfl
    have T7 : ρ28 7 = .int .i64 (((((id).getD (i) 0).toNat) % (16) : Nat) : Int) := he.at_ T7 rfl
    clear he
    have hE : Ext w w29 := (hE.trans hx30)
    have hb8 : w29.heap[n2]? = some (.cells (Lib.byteCells id).toArray 33 (0, 0)) := (Ext.blk' hx30 hb8)
    have T4 : ρ28 4 = .string ⟨((hexOf (id.take i) : List UInt8) ++ ((((([48, 49, 50, 51, 52, 53, 54, 55, 56, 57, 97, 98, 99, 100, 101, 102] : List UInt8) : List UInt8).drop ((((id).getD (i) 0).toNat) / (16))).take ((((((id).getD (i) 0).toNat) / (16)) + (1)) - ((((id).getD (i) 0).toNat) / (16))) : List UInt8) ++ (((([48, 49, 50, 51, 52, 53, 54, 55, 56, 57, 97, 98, 99, 100, 101, 102] : List UInt8) : List UInt8).drop ((((id).getD (i) 0).toNat) % (16))).take ((((((id).getD (i) 0).toNat) % (16)) + (1)) - ((((id).getD (i) 0).toNat) % (16))) : List UInt8) : List UInt8)).toArray⟩ := k4
    clear k4
    refine inBlockF_normal ?_
    refine thenF_normal (hK23 _ _ ?_)
    refine wpF_text ?_
    refine opsF_step rfl (YieldsK.move (show _ = (.int .i64 ((i : Nat) : Int) : Value) from T5) ?_)    -- ref.go:80 t10 := (Op.move (Operand.tmp 5))
    refine opsF_step rfl (YieldsK.bin (xv := .int .i64 ((i : Nat) : Int)) (yv := .int .i64 ((1 : Nat) : Int)) (show _ = (.int .i64 ((i : Nat) : Int) : Value) from rfl) (show _ = (.int .i64 ((1 : Nat) : Int) : Value) from rfl) rfl (i64_add _ (i) (1) (by omega)) ?_)    -- ref.go:80 t11 := (Op.binOp BinOp.add 3 (Operand.tmp 10) (Operand.const (Value.int IntKind.i64 1)) 3)
    refine opsF_step rfl (YieldsK.assign (show _ = (.int .i64 (((i) + (1) : Nat) : Int) : Value) from rfl) ?_)    -- ref.go:80 t5 := (Op.assign (Operand.tmp 11))
    refine opsF_end (fun ρ => ρ 0 = (.agg (Lib.byteCells id).toArray : Value) ∧ ρ 1 = (.pointer (some ⟨n2, 0, none⟩) : Value) ∧ ρ 2 = (.string ⟨(([] : List UInt8)).toArray⟩ : Value) ∧ ρ 3 = (.string ⟨(([48, 49, 50, 51, 52, 53, 54, 55, 56, 57, 97, 98, 99, 100, 101, 102] : List UInt8)).toArray⟩ : Value) ∧ ρ 4 = (.string ⟨((hexOf (id.take i) : List UInt8) ++ ((((([48, 49, 50, 51, 52, 53, 54, 55, 56, 57, 97, 98, 99, 100, 101, 102] : List UInt8) : List UInt8).drop ((((id).getD (i) 0).toNat) / (16))).take ((((((id).getD (i) 0).toNat) / (16)) + (1)) - ((((id).getD (i) 0).toNat) / (16))) : List UInt8) ++ (((([48, 49, 50, 51, 52, 53, 54, 55, 56, 57, 97, 98, 99, 100, 101, 102] : List UInt8) : List UInt8).drop ((((id).getD (i) 0).toNat) % (16))).take ((((((id).getD (i) 0).toNat) % (16)) + (1)) - ((((id).getD (i) 0).toNat) % (16))) : List UInt8) : List UInt8)).toArray⟩ : Value) ∧ ρ 5 = (.int .i64 (((i) + (1) : Nat) : Int) : Value) ∧ ρ 6 = (.int .i64 (((((id).getD (i) 0).toNat) / (16) : Nat) : Int) : Value) ∧ ρ 7 = (.int .i64 (((((id).getD (i) 0).toNat) % (16) : Nat) : Int) : Value) ∧ True) ⟨T0, T1, T2, T3, T4, rfl, T6, T7, trivial⟩ fun ρ31 ⟨T0, T1, T2, T3, T4, T5, T6, T7, _⟩ => ?_
    refine thenF_normal (And.intro ⟨i + 1, T0, T1, T2, T3, T5, (T4.trans (congrArg St (by rw [hexOf_take id i (by omega)]; exact congrArg (hexOf (id.take i) ++ ·) (digs_cut _ _ (by omega) (by omega))))), hE, hb8, by omega, trivial⟩ ?_)
    show 32 - (intOf (ρ31 5)).toNat < 32 - (intOf (ρ18 5)).toNat
    rw [T5, q5]
    simp only [intOf, Int.toNat_natCast]; omega
  · have e32 : id.take i = id := List.take_of_length_le (by omega)
    refine wpF_exit (thenF_exit (thenF_exit (inBlockF_hit ?_)))
    refine thenF_normal (hK15 _ _ ?_)
    refine wpF_seq_k fun K32 hK32 => ?_
    refine wpF_text ?_
    refine opsF_step rfl (YieldsK.move (show _ = (.string ⟨(hexOf (id.take i)).toArray⟩ : Value) from T4) ?_)    -- ref.go:84 t35 := (Op.move (Operand.tmp 4))
    refine opsF_step rfl (YieldsK.assign (show _ = (.string ⟨(hexOf (id.take i)).toArray⟩ : Value) from rfl) ?_)    -- ref.go:84 t2 := (Op.assign (Operand.tmp 35))
    refine opsF_end (fun ρ => ρ 0 = (.agg (Lib.byteCells id).toArray : Value) ∧ ρ 1 = (.pointer (some ⟨n2, 0, none⟩) : Value) ∧ ρ 2 = (.string ⟨(hexOf (id.take i)).toArray⟩ : Value) ∧ ρ 3 = (.string ⟨(([48, 49, 50, 51, 52, 53, 54, 55, 56, 57, 97, 98, 99, 100, 101, 102] : List UInt8)).toArray⟩ : Value) ∧ ρ 4 = (.string ⟨(hexOf (id.take i)).toArray⟩ : Value) ∧ ρ 5 = (.int .i64 ((i : Nat) : Int) : Value) ∧ True) ⟨T0, T1, rfl, T3, T4, T5, trivial⟩ fun ρ33 ⟨T0, T1, T2, T3, T4, T5, _⟩ => ?_
    refine thenF_normal (hK32 _ _ ?_)
    refine wpF_ret ?_
    refine postF_ret (fn := Try.f20) _ rfl [.string ⟨(hexOf (id.take i)).toArray⟩] (.string ⟨(hexOf (id.take i)).toArray⟩) rfl ⟨T2, trivial⟩ ?_
    exact ⟨by rw [e32], hE⟩

theorem digit_any (w : World) (b : Nat) (s : List UInt8) (hb : w.heap[b]? = some (.cells ([St s] : List Value).toArray 9 (0, 0))) (i : Nat) (hi : i < s.length) :
    Calls Try.prog 25 #[NI i, .pointer (some ⟨b, 0, none⟩)] w fun e w' => e = .returned (.int .i64 (dgI (s.getD i 0))) ∧ Ext w w' := by
  refine calls_of_wpF (args := [.int .i64 ((i : Nat) : Int), .pointer (some ⟨b, 0, none⟩)]) Try.func25 rfl 8 rfl (Nat.le_of_ble_eq_true rfl) ?_
  intro ρ0 hb
  have T0 : ρ0 0 = (.int .i64 ((i : Nat) : Int) : Value) := hb.get 0
  have T1 : ρ0 1 = (.pointer (some ⟨b, 0, none⟩) : Value) := hb.get 1
  clear hb
  have hE := Ext.refl w
  refine wpF_seq_k fun K1 hK1 => ?_
  refine wpF_text ?_
  refine opsF_step rfl (YieldsK.assign (show _ = (.int .i64 ((0 : Nat) : Int) : Value) from rfl) ?_)    -- leb.go:109 t3 := (Op.assign (Operand.const (Value.int IntKind.i64 0)))
  refine opsF_end (fun ρ => ρ 0 = (.int .i64 ((i : Nat) : Int) : Value) ∧ ρ 1 = (.pointer (some ⟨b, 0, none⟩) : Value) ∧ ρ 3 = (.int .i64 ((0 : Nat) : Int) : Value) ∧ True) ⟨T0, T1, rfl, trivial⟩ fun ρ2 ⟨T0, T1, T3, _⟩ => ?_
  refine thenF_normal (hK1 _ _ ?_)
  refine wpF_seq_k fun K3 hK3 => ?_
  refine wpF_text ?_
  refine opsF_step rfl (YieldsK.cell1 leb7_ty9 rfl (show _ = (.pointer (some ⟨b, 0, none⟩) : Value) from T1) (cellAt hb (show _ = some (.string ⟨(s).toArray⟩ : Value) from rfl)) ?_)    -- leb.go:109 t4 := (Op.load 9 (Operand.tmp 1))
  refine opsF_step rfl (YieldsK.move (show _ = (.int .i64 ((i : Nat) : Int) : Value) from T0) ?_)    -- leb.go:109 t5 := (Op.move (Operand.tmp 0))
  refine opsF_step rfl (YieldsK.idxSt (l := s) (i := i) leb7_ty9 (show _ = (.string ⟨(s).toArray⟩ : Value) from rfl) (show _ = (.int .i64 ((i : Nat) : Int) : Value) from rfl) (hi) ?_)    -- leb.go:109 t6 := (Op.index 9 (Operand.tmp 4) (Operand.tmp 5))
  refine opsF_step rfl (YieldsK.callA2 leb7_pl26 (show _ = (.string ⟨(([48, 49, 50, 51, 52, 53, 54, 55, 56, 57, 97, 98, 99, 100, 101, 102] : List UInt8)).toArray⟩ : Value) from rfl) (show _ = (B8 (s.getD (i) 0) : Value) from rfl) ?_)    -- leb.go:109 t7 := (Op.call { callee := (Callee.value (Operand.func 26)), args := #[(Operand.const (Value.string { data := #[48, 
  refine (index_any _ (s.getD (i) 0)).mono ?_
  rintro e w4 ⟨rfl, hq⟩
  refine ⟨_, rfl, ?_⟩
  have hb : w4.heap[b]? = some (.cells ([St s] : List Value).toArray 9 (0, 0)) := (Ext.blk' (show Ext _ _ from by rw [hq]; exact Ext.refl _) hb)
  have hE : Ext w w4 := (hE.trans (show Ext _ _ from by rw [hq]; exact Ext.refl _))
  refine opsF_step rfl (YieldsK.assign (show _ = (.int .i64 (dgI (s.getD (i) 0) : Int) : Value) from rfl) ?_)    -- leb.go:109 t3 := (Op.assign (Operand.tmp 7))
  refine opsF_end (fun ρ => ρ 0 = (.int .i64 ((i : Nat) : Int) : Value) ∧ ρ 1 = (.pointer (some ⟨b, 0, none⟩) : Value) ∧ ρ 3 = (.int .i64 (dgI (s.getD (i) 0) : Int) : Value) ∧ True) ⟨T0, T1, rfl, trivial⟩ fun ρ5 ⟨T0, T1, T3, _⟩ => ?_
  refine thenF_normal (hK3 _ _ ?_)
  refine wpF_ret ?_
  refine postF_ret (fn := Try.f25) _ rfl [.int .i64 (dgI (s.getD (i) 0) : Int)] (.int .i64 (dgI (s.getD (i) 0) : Int)) rfl ⟨T3, trivial⟩ ?_
  exact ⟨rfl, hE⟩

theorem refDigit_0 (w : World) (c : UInt8) (h1 : 48 ≤ c.toNat) (h2 : c.toNat ≤ 57) :
    Calls Try.prog 27 #[B8 c] w fun e w' => e = .returned (.int .i64 (dgI c)) ∧ Ext w w' := by
  have hlt := c.toNat_lt
  refine calls_of_wpF (args := [B8 (c)]) Try.func27 rfl 22 rfl (Nat.le_of_ble_eq_true rfl) ?_
  intro ρ0 hb
  have T0 : ρ0 0 = (B8 (c) : Value) := hb.get 0
  clear hb
  have hE := Ext.refl w
  refine wpF_seq_k fun K1 hK1 => ?_
  refine wpF_text ?_
  refine opsF_step rfl (YieldsK.assign (show _ = (.int .i64 ((0 : Nat) : Int) : Value) from rfl) ?_)    -- ref.go:88 t2 := (Op.assign (Operand.const (Value.int IntKind.i64 0)))
  refine opsF_end (fun ρ => ρ 0 = (B8 (c) : Value) ∧ ρ 2 = (.int .i64 ((0 : Nat) : Int) : Value) ∧ True) ⟨T0, rfl, trivial⟩ fun ρ2 ⟨T0, T2, _⟩ => ?_
  refine thenF_normal (hK1 _ _ ?_)
  refine wpF_seq_k fun K3 hK3 => ?_
  refine wpF_seq_k fun K4 hK4 => ?_
  refine wpF_text ?_
  refine opsF_step rfl (YieldsK.move (show _ = (B8 (c) : Value) from T0) ?_)    -- ref.go:89 t3 := (Op.move (Operand.tmp 0))
  refine opsF_step rfl (YieldsK.eqI (a := (((c).toNat : Nat) : Int)) (b := ((48 : Nat) : Int)) (show _ = (B8 (c) : Value) from rfl) (show _ = (B8 (48) : Value) from rfl) (k_geq _ .u8 ((c).toNat) (48)) ?_)    -- ref.go:89 t4 := (Op.binOp BinOp.geq 5 (Operand.tmp 3) (Operand.const (Value.int IntKind.u8 48)) 5)
  refine opsF_step rfl (YieldsK.move (show _ = (.bool (true) : Value) from (congrArg Value.bool (decide_eq_true (h1)))) ?_)    -- ref.go:89 t5 := (Op.move (Operand.tmp 4))
  refine opsF_on (d := 5) rfl rfl (show _ = (.bool (true) : Value) from rfl) (YieldsK.move (show _ = (B8 (c) : Value) from T0) ?_)    -- ref.go:89 t6 := (Op.move (Operand.tmp 0))
  refine opsF_on (d := 5) rfl rfl (show _ = (.bool (true) : Value) from rfl) (YieldsK.eqI (a := (((c).toNat : Nat) : Int)) (b := ((57 : Nat) : Int)) (show _ = (B8 (c) : Value) from rfl) (show _ = (B8 (57) : Value) from rfl) (k_leq _ .u8 ((c).toNat) (57)) ?_)    -- ref.go:89 t7 := (Op.binOp BinOp.leq 5 (Operand.tmp 6) (Operand.const (Value.int IntKind.u8 57)) 5)
  refine opsF_step rfl (YieldsK.pickT (show _ = (.bool (true) : Value) from rfl) (show _ = (.bool (true) : Value) from (congrArg Value.bool (decide_eq_true (h2)))) ?_)    -- ref.go:89 t8 := (Op.pick (Operand.tmp 5) (Operand.tmp 7) (Operand.const (Value.bool false)))
  refine opsF_end (fun ρ => ρ 0 = (B8 (c) : Value) ∧ ρ 2 = (.int .i64 ((0 : Nat) : Int) : Value) ∧ ρ 8 = (.bool (true) : Value) ∧ True) ⟨T0, T2, rfl, trivial⟩ fun ρ5 ⟨T0, T2, T8, _⟩ => ?_
  refine thenF_normal (hK4 _ _ ?_)
  refine wpF_true (show _ = (.bool (true) : Value) from T8) ?_
  refine wpF_seq_k fun K6 hK6 => ?_
  refine wpF_text ?_
  refine opsF_step rfl (YieldsK.move (show _ = (B8 (c) : Value) from T0) ?_)    -- ref.go:90 t9 := (Op.move (Operand.tmp 0))
  refine opsF_step rfl (YieldsK.convI leb7_ty5 leb7_ty3 (show _ = (B8 (c) : Value) from rfl) (ofByte .i64 (c) (fun n hn => wrap_i64 n (by omega))) ?_)    -- ref.go:90 t10 := (Op.convert 5 3 (Operand.tmp 9))
  refine opsF_step rfl (YieldsK.bin (xv := .int .i64 (((c).toNat : Nat) : Int)) (yv := .int .i64 ((48 : Nat) : Int)) (show _ = (.int .i64 (((c).toNat : Nat) : Int) : Value) from rfl) (show _ = (.int .i64 ((48 : Nat) : Int) : Value) from rfl) rfl (i64_sub _ ((c).toNat) (48) (by omega) (by omega)) ?_)    -- ref.go:90 t11 := (Op.binOp BinOp.sub 3 (Operand.tmp 10) (Operand.const (Value.int IntKind.i64 48)) 3)
  refine opsF_step rfl (YieldsK.assign (show _ = (.int .i64 ((((c).toNat) - (48) : Nat) : Int) : Value) from rfl) ?_)    -- ref.go:90 t2 := (Op.assign (Operand.tmp 11))
  refine opsF_end (fun ρ => ρ 0 = (B8 (c) : Value) ∧ ρ 2 = (.int .i64 ((((c).toNat) - (48) : Nat) : Int) : Value) ∧ ρ 8 = (.bool (true) : Value) ∧ True) ⟨T0, rfl, T8, trivial⟩ fun ρ7 ⟨T0, T2, T8, _⟩ => ?_
  refine thenF_normal (hK6 _ _ ?_)
  refine wpF_ret (thenF_ret ?_)
  refine postF_ret (fn := Try.f27) _ rfl [.int .i64 ((((c).toNat) - (48) : Nat) : Int)] (.int .i64 ((((c).toNat) - (48) : Nat) : Int)) rfl ⟨T2, trivial⟩ ?_
  exact ⟨by simp [dgI, dg, h1, h2], hE⟩

theorem refDigit_1 (w : World) (c : UInt8) (h1 : 97 ≤ c.toNat) (h2 : c.toNat ≤ 102) :
    Calls Try.prog 27 #[B8 c] w fun e w' => e = .returned (.int .i64 (dgI c)) ∧ Ext w w' := by
  have hlt := c.toNat_lt
  refine calls_of_wpF (args := [B8 (c)]) Try.func27 rfl 22 rfl (Nat.le_of_ble_eq_true rfl) ?_
  intro ρ0 hb
  have T0 : ρ0 0 = (B8 (c) : Value) := hb.get 0
  clear hb
  have hE := Ext.refl w
  refine wpF_seq_k fun K1 hK1 => ?_
  refine wpF_text ?_
  refine opsF_step rfl (YieldsK.assign (show _ = (.int .i64 ((0 : Nat) : Int) : Value) from rfl) ?_)    -- ref.go:88 t2 := (Op.assign (Operand.const (Value.int IntKind.i64 0)))
  refine opsF_end (fun ρ => ρ 0 = (B8 (c) : Value) ∧ ρ 2 = (.int .i64 ((0 : Nat) : Int) : Value) ∧ True) ⟨T0, rfl, trivial⟩ fun ρ2 ⟨T0, T2, _⟩ => ?_
  refine thenF_normal (hK1 _ _ ?_)
  refine wpF_seq_k fun K3 hK3 => ?_
  refine wpF_seq_k fun K4 hK4 => ?_
  refine wpF_text ?_
  refine opsF_step rfl (YieldsK.move (show _ = (B8 (c) : Value) from T0) ?_)    -- ref.go:89 t3 := (Op.move (Operand.tmp 0))
  refine opsF_step rfl (YieldsK.eqI (a := (((c).toNat : Nat) : Int)) (b := ((48 : Nat) : Int)) (show _ = (B8 (c) : Value) from rfl) (show _ = (B8 (48) : Value) from rfl) (k_geq _ .u8 ((c).toNat) (48)) ?_)    -- ref.go:89 t4 := (Op.binOp BinOp.geq 5 (Operand.tmp 3) (Operand.const (Value.int IntKind.u8 48)) 5)
  refine opsF_step rfl (YieldsK.move (show _ = (.bool (true) : Value) from (congrArg Value.bool (decide_eq_true (by omega)))) ?_)    -- ref.go:89 t5 := (Op.move (Operand.tmp 4))
  refine opsF_on (d := 5) rfl rfl (show _ = (.bool (true) : Value) from rfl) (YieldsK.move (show _ = (B8 (c) : Value) from T0) ?_)    -- ref.go:89 t6 := (Op.move (Operand.tmp 0))
  refine opsF_on (d := 5) rfl rfl (show _ = (.bool (true) : Value) from rfl) (YieldsK.eqI (a := (((c).toNat : Nat) : Int)) (b := ((57 : Nat) : Int)) (show _ = (B8 (c) : Value) from rfl) (show _ = (B8 (57) : Value) from rfl) (k_leq _ .u8 ((c).toNat) (57)) ?_)    -- ref.go:89 t7 := (Op.binOp BinOp.leq 5 (Operand.tmp 6) (Operand.const (Value.int IntKind.u8 57)) 5)
  refine opsF_step rfl (YieldsK.pickT (show _ = (.bool (true) : Value) from rfl) (show _ = (.bool (false) : Value) from (congrArg Value.bool (decide_eq_false (by omega)))) ?_)    -- ref.go:89 t8 := (Op.pick (Operand.tmp 5) (Operand.tmp 7) (Operand.const (Value.bool false)))
  refine opsF_end (fun ρ => ρ 0 = (B8 (c) : Value) ∧ ρ 2 = (.int .i64 ((0 : Nat) : Int) : Value) ∧ ρ 8 = (.bool (false) : Value) ∧ True) ⟨T0, T2, rfl, trivial⟩ fun ρ5 ⟨T0, T2, T8, _⟩ => ?_
  refine thenF_normal (hK4 _ _ ?_)
  refine wpF_false (show _ = (.bool (false) : Value) from T8) ?_
  refine wpF_skip ?_
  refine thenF_normal (hK3 _ _ ?_)
  refine wpF_seq_k fun K6 hK6 => ?_
  refine wpF_seq_k fun K7 hK7 => ?_
  refine wpF_text ?_
  refine opsF_step rfl (YieldsK.move (show _ = (B8 (c) : Value) from T0) ?_)    -- ref.go:92 t12 := (Op.move (Operand.tmp 0))
  refine opsF_step rfl (YieldsK.eqI (a := (((c).toNat : Nat) : Int)) (b := ((97 : Nat) : Int)) (show _ = (B8 (c) : Value) from rfl) (show _ = (B8 (97) : Value) from rfl) (k_geq _ .u8 ((c).toNat) (97)) ?_)    -- ref.go:92 t13 := (Op.binOp BinOp.geq 5 (Operand.tmp 12) (Operand.const (Value.int IntKind.u8 97)) 5)
  refine opsF_step rfl (YieldsK.move (show _ = (.bool (true) : Value) from (congrArg Value.bool (decide_eq_true (h1)))) ?_)    -- ref.go:92 t14 := (Op.move (Operand.tmp 13))
  refine opsF_on (d := 14) rfl rfl (show _ = (.bool (true) : Value) from rfl) (YieldsK.move (show _ = (B8 (c) : Value) from T0) ?_)    -- ref.go:92 t15 := (Op.move (Operand.tmp 0))
  refine opsF_on (d := 14) rfl rfl (show _ = (.bool (true) : Value) from rfl) (YieldsK.eqI (a := (((c).toNat : Nat) : Int)) (b := ((102 : Nat) : Int)) (show _ = (B8 (c) : Value) from rfl) (show _ = (B8 (102) : Value) from rfl) (k_leq _ .u8 ((c).toNat) (102)) ?_)    -- ref.go:92 t16 := (Op.binOp BinOp.leq 5 (Operand.tmp 15) (Operand.const (Value.int IntKind.u8 102)) 5)
  refine opsF_step rfl (YieldsK.pickT (show _ = (.bool (true) : Value) from rfl) (show _ = (.bool (true) : Value) from (congrArg Value.bool (decide_eq_true (h2)))) ?_)    -- ref.go:92 t17 := (Op.pick (Operand.tmp 14) (Operand.tmp 16) (Operand.const (Value.bool false)))
  refine opsF_end (fun ρ => ρ 0 = (B8 (c) : Value) ∧ ρ 2 = (.int .i64 ((0 : Nat) : Int) : Value) ∧ ρ 8 = (.bool (false) : Value) ∧ ρ 17 = (.bool (true) : Value) ∧ True) ⟨T0, T2, T8, rfl, trivial⟩ fun ρ8 ⟨T0, T2, T8, T17, _⟩ => ?_
  refine thenF_normal (hK7 _ _ ?_)
  refine wpF_true (show _ = (.bool (true) : Value) from T17) ?_
  refine wpF_seq_k fun K9 hK9 => ?_
  refine wpF_text ?_
  refine opsF_step rfl (YieldsK.move (show _ = (B8 (c) : Value) from T0) ?_)    -- ref.go:93 t18 := (Op.move (Operand.tmp 0))
  refine opsF_step rfl (YieldsK.convI leb7_ty5 leb7_ty3 (show _ = (B8 (c) : Value) from rfl) (ofByte .i64 (c) (fun n hn => wrap_i64 n (by omega))) ?_)    -- ref.go:93 t19 := (Op.convert 5 3 (Operand.tmp 18))
  refine opsF_step rfl (YieldsK.bin (xv := .int .i64 (((c).toNat : Nat) : Int)) (yv := .int .i64 ((97 : Nat) : Int)) (show _ = (.int .i64 (((c).toNat : Nat) : Int) : Value) from rfl) (show _ = (.int .i64 ((97 : Nat) : Int) : Value) from rfl) rfl (i64_sub _ ((c).toNat) (97) (by omega) (by omega)) ?_)    -- ref.go:93 t20 := (Op.binOp BinOp.sub 3 (Operand.tmp 19) (Operand.const (Value.int IntKind.i64 97)) 3)
  refine opsF_step rfl (YieldsK.bin (xv := .int .i64 ((((c).toNat) - (97) : Nat) : Int)) (yv := .int .i64 ((10 : Nat) : Int)) (show _ = (.int .i64 ((((c).toNat) - (97) : Nat) : Int) : Value) from rfl) (show _ = (.int .i64 ((10 : Nat) : Int) : Value) from rfl) rfl (i64_add _ (((c).toNat) - (97)) (10) (by omega)) ?_)    -- ref.go:93 t21 := (Op.binOp BinOp.add 3 (Operand.tmp 20) (Operand.const (Value.int IntKind.i64 10)) 3)
  refine opsF_step rfl (YieldsK.assign (show _ = (.int .i64 (((((c).toNat) - (97)) + (10) : Nat) : Int) : Value) from rfl) ?_)    -- ref.go:93 t2 := (Op.assign (Operand.tmp 21))
  refine opsF_end (fun ρ => ρ 0 = (B8 (c) : Value) ∧ ρ 2 = (.int .i64 (((((c).toNat) - (97)) + (10) : Nat) : Int) : Value) ∧ ρ 8 = (.bool (false) : Value) ∧ ρ 17 = (.bool (true) : Value) ∧ True) ⟨T0, rfl, T8, T17, trivial⟩ fun ρ10 ⟨T0, T2, T8, T17, _⟩ => ?_
  refine thenF_normal (hK9 _ _ ?_)
  refine wpF_ret (thenF_ret ?_)
  refine postF_ret (fn := Try.f27) _ rfl [.int .i64 (((((c).toNat) - (97)) + (10) : Nat) : Int)] (.int .i64 (((((c).toNat) - (97)) + (10) : Nat) : Int)) rfl ⟨T2, trivial⟩ ?_
  exact ⟨by unfold dgI; rw [show dg c = some (c.toNat - 87) by unfold dg; rw [if_neg (by omega), if_pos ⟨h1, h2⟩]] <;> (show _ = Ending.returned (.int .i64 ((c.toNat - 87 : Nat) : Int)); rw [show (c.toNat) - (97) + (10) = c.toNat - 87 by omega]), hE⟩

theorem refDigit_2 (w : World) (c : UInt8) (h : c.toNat < 48) :
    Calls Try.prog 27 #[B8 c] w fun e w' => e = .returned (.int .i64 (dgI c)) ∧ Ext w w' := by
  have hlt := c.toNat_lt
  refine calls_of_wpF (args := [B8 (c)]) Try.func27 rfl 22 rfl (Nat.le_of_ble_eq_true rfl) ?_
  intro ρ0 hb
  have T0 : ρ0 0 = (B8 (c) : Value) := hb.get 0
  clear hb
  have hE := Ext.refl w
  refine wpF_seq_k fun K1 hK1 => ?_
  refine wpF_text ?_
  refine opsF_step rfl (YieldsK.assign (show _ = (.int .i64 ((0 : Nat) : Int) : Value) from rfl) ?_)    -- ref.go:88 t2 := (Op.assign (Operand.const (Value.int IntKind.i64 0)))
  refine opsF_end (fun ρ => ρ 0 = (B8 (c) : Value) ∧ ρ 2 = (.int .i64 ((0 : Nat) : Int) : Value) ∧ True) ⟨T0, rfl, trivial⟩ fun ρ2 ⟨T0, T2, _⟩ => ?_
  refine thenF_normal (hK1 _ _ ?_)
  refine wpF_seq_k fun K3 hK3 => ?_
  refine wpF_seq_k fun K4 hK4 => ?_
  refine wpF_text ?_
  refine opsF_step rfl (YieldsK.move (show _ = (B8 (c) : Value) from T0) ?_)    -- ref.go:89 t3 := (Op.move (Operand.tmp 0))
  refine opsF_step rfl (YieldsK.eqI (a := (((c).toNat : Nat) : Int)) (b := ((48 : Nat) : Int)) (show _ = (B8 (c) : Value) from rfl) (show _ = (B8 (48) : Value) from rfl) (k_geq _ .u8 ((c).toNat) (48)) ?_)    -- ref.go:89 t4 := (Op.binOp BinOp.geq 5 (Operand.tmp 3) (Operand.const (Value.int IntKind.u8 48)) 5)
  refine opsF_step rfl (YieldsK.move (show _ = (.bool (false) : Value) from (congrArg Value.bool (decide_eq_false (by omega)))) ?_)    -- ref.go:89 t5 := (Op.move (Operand.tmp 4))
  refine opsF_off (d := 5) rfl rfl rfl (show _ = (.bool (false) : Value) from rfl) rfl ?_    -- ref.go:89 t6 := (Op.move (Operand.tmp 0))
  refine opsF_off (d := 5) rfl rfl rfl (show _ = (.bool (false) : Value) from rfl) rfl ?_    -- ref.go:89 t7 := (Op.binOp BinOp.leq 5 (Operand.tmp 6) (Operand.const (Value.int IntKind.u8 57)) 5)
  refine opsF_step rfl (YieldsK.pickF (show _ = (.bool (false) : Value) from rfl) (show _ = (.bool (false) : Value) from rfl) ?_)    -- ref.go:89 t8 := (Op.pick (Operand.tmp 5) (Operand.tmp 7) (Operand.const (Value.bool false)))
  refine opsF_end (fun ρ => ρ 0 = (B8 (c) : Value) ∧ ρ 2 = (.int .i64 ((0 : Nat) : Int) : Value) ∧ ρ 8 = (.bool (false) : Value) ∧ True) ⟨T0, T2, rfl, trivial⟩ fun ρ5 ⟨T0, T2, T8, _⟩ => ?_
  refine thenF_normal (hK4 _ _ ?_)
  refine wpF_false (show _ = (.bool (false) : Value) from T8) ?_
  refine wpF_skip ?_
  refine thenF_normal (hK3 _ _ ?_)
  refine wpF_seq_k fun K6 hK6 => ?_
  refine wpF_seq_k fun K7 hK7 => ?_
  refine wpF_text ?_
  refine opsF_step rfl (YieldsK.move (show _ = (B8 (c) : Value) from T0) ?_)    -- ref.go:92 t12 := (Op.move (Operand.tmp 0))
  refine opsF_step rfl (YieldsK.eqI (a := (((c).toNat : Nat) : Int)) (b := ((97 : Nat) : Int)) (show _ = (B8 (c) : Value) from rfl) (show _ = (B8 (97) : Value) from rfl) (k_geq _ .u8 ((c).toNat) (97)) ?_)    -- ref.go:92 t13 := (Op.binOp BinOp.geq 5 (Operand.tmp 12) (Operand.const (Value.int IntKind.u8 97)) 5)
  refine opsF_step rfl (YieldsK.move (show _ = (.bool (false) : Value) from (congrArg Value.bool (decide_eq_false (by omega)))) ?_)    -- ref.go:92 t14 := (Op.move (Operand.tmp 13))
  refine opsF_off (d := 14) rfl rfl rfl (show _ = (.bool (false) : Value) from rfl) rfl ?_    -- ref.go:92 t15 := (Op.move (Operand.tmp 0))
  refine opsF_off (d := 14) rfl rfl rfl (show _ = (.bool (false) : Value) from rfl) rfl ?_    -- ref.go:92 t16 := (Op.binOp BinOp.leq 5 (Operand.tmp 15) (Operand.const (Value.int IntKind.u8 102)) 5)
  refine opsF_step rfl (YieldsK.pickF (show _ = (.bool (false) : Value) from rfl) (show _ = (.bool (false) : Value) from rfl) ?_)    -- ref.go:92 t17 := (Op.pick (Operand.tmp 14) (Operand.tmp 16) (Operand.const (Value.bool false)))
  refine opsF_end (fun ρ => ρ 0 = (B8 (c) : Value) ∧ ρ 2 = (.int .i64 ((0 : Nat) : Int) : Value) ∧ ρ 8 = (.bool (false) : Value) ∧ ρ 17 = (.bool (false) : Value) ∧ True) ⟨T0, T2, T8, rfl, trivial⟩ fun ρ8 ⟨T0, T2, T8, T17, _⟩ => ?_
  refine thenF_normal (hK7 _ _ ?_)
  refine wpF_false (show _ = (.bool (false) : Value) from T17) ?_
  refine wpF_skip ?_
  refine thenF_normal (hK6 _ _ ?_)
  refine wpF_seq_k fun K9 hK9 => ?_
  refine wpF_text ?_
  refine opsF_step rfl (YieldsK.assign (show _ = (.int .i64 (-1 : Int) : Value) from rfl) ?_)    -- ref.go:95 t2 := (Op.assign (Operand.const (Value.int IntKind.i64 (-1))))
  refine opsF_end (fun ρ => ρ 0 = (B8 (c) : Value) ∧ ρ 2 = (.int .i64 (-1 : Int) : Value) ∧ ρ 8 = (.bool (false) : Value) ∧ ρ 17 = (.bool (false) : Value) ∧ True) ⟨T0, rfl, T8, T17, trivial⟩ fun ρ10 ⟨T0, T2, T8, T17, _⟩ => ?_
  refine thenF_normal (hK9 _ _ ?_)
  refine wpF_ret ?_
  refine postF_ret (fn := Try.f27) _ rfl [.int .i64 (-1 : Int)] (.int .i64 (-1 : Int)) rfl ⟨T2, trivial⟩ ?_
  exact ⟨by unfold dgI; rw [show dg c = none by unfold dg; rw [if_neg (by omega), if_neg (by omega)]], hE⟩

theorem refDigit_3 (w : World) (c : UInt8) (h1 : 57 < c.toNat) (h2 : c.toNat < 97) :
    Calls Try.prog 27 #[B8 c] w fun e w' => e = .returned (.int .i64 (dgI c)) ∧ Ext w w' := by
  have hlt := c.toNat_lt
  refine calls_of_wpF (args := [B8 (c)]) Try.func27 rfl 22 rfl (Nat.le_of_ble_eq_true rfl) ?_
  intro ρ0 hb
  have T0 : ρ0 0 = (B8 (c) : Value) := hb.get 0
  clear hb
  have hE := Ext.refl w
  refine wpF_seq_k fun K1 hK1 => ?_
  refine wpF_text ?_
  refine opsF_step rfl (YieldsK.assign (show _ = (.int .i64 ((0 : Nat) : Int) : Value) from rfl) ?_)    -- ref.go:88 t2 := (Op.assign (Operand.const (Value.int IntKind.i64 0)))
  refine opsF_end (fun ρ => ρ 0 = (B8 (c) : Value) ∧ ρ 2 = (.int .i64 ((0 : Nat) : Int) : Value) ∧ True) ⟨T0, rfl, trivial⟩ fun ρ2 ⟨T0, T2, _⟩ => ?_
  refine thenF_normal (hK1 _ _ ?_)
  refine wpF_seq_k fun K3 hK3 => ?_
  refine wpF_seq_k fun K4 hK4 => ?_
  refine wpF_text ?_
  refine opsF_step rfl (YieldsK.move (show _ = (B8 (c) : Value) from T0) ?_)    -- ref.go:89 t3 := (Op.move (Operand.tmp 0))
  refine opsF_step rfl (YieldsK.eqI (a := (((c).toNat : Nat) : Int)) (b := ((48 : Nat) : Int)) (show _ = (B8 (c) : Value) from rfl) (show _ = (B8 (48) : Value) from rfl) (k_geq _ .u8 ((c).toNat) (48)) ?_)    -- ref.go:89 t4 := (Op.binOp BinOp.geq 5 (Operand.tmp 3) (Operand.const (Value.int IntKind.u8 48)) 5)
  refine opsF_step rfl (YieldsK.move (show _ = (.bool (true) : Value) from (congrArg Value.bool (decide_eq_true (by omega)))) ?_)    -- ref.go:89 t5 := (Op.move (Operand.tmp 4))
  refine opsF_on (d := 5) rfl rfl (show _ = (.bool (true) : Value) from rfl) (YieldsK.move (show _ = (B8 (c) : Value) from T0) ?_)    -- ref.go:89 t6 := (Op.move (Operand.tmp 0))
  refine opsF_on (d := 5) rfl rfl (show _ = (.bool (true) : Value) from rfl) (YieldsK.eqI (a := (((c).toNat : Nat) : Int)) (b := ((57 : Nat) : Int)) (show _ = (B8 (c) : Value) from rfl) (show _ = (B8 (57) : Value) from rfl) (k_leq _ .u8 ((c).toNat) (57)) ?_)    -- ref.go:89 t7 := (Op.binOp BinOp.leq 5 (Operand.tmp 6) (Operand.const (Value.int IntKind.u8 57)) 5)
  refine opsF_step rfl (YieldsK.pickT (show _ = (.bool (true) : Value) from rfl) (show _ = (.bool (false) : Value) from (congrArg Value.bool (decide_eq_false (by omega)))) ?_)    -- ref.go:89 t8 := (Op.pick (Operand.tmp 5) (Operand.tmp 7) (Operand.const (Value.bool false)))
  refine opsF_end (fun ρ => ρ 0 = (B8 (c) : Value) ∧ ρ 2 = (.int .i64 ((0 : Nat) : Int) : Value) ∧ ρ 8 = (.bool (false) : Value) ∧ True) ⟨T0, T2, rfl, trivial⟩ fun ρ5 ⟨T0, T2, T8, _⟩ => ?_
  refine thenF_normal (hK4 _ _ ?_)
  refine wpF_false (show _ = (.bool (false) : Value) from T8) ?_
  refine wpF_skip ?_
  refine thenF_normal (hK3 _ _ ?_)
  refine wpF_seq_k fun K6 hK6 => ?_
  refine wpF_seq_k fun K7 hK7 => ?_
  refine wpF_text ?_
  refine opsF_step rfl (YieldsK.move (show _ = (B8 (c) : Value) from T0) ?_)    -- ref.go:92 t12 := (Op.move (Operand.tmp 0))
  refine opsF_step rfl (YieldsK.eqI (a := (((c).toNat : Nat) : Int)) (b := ((97 : Nat) : Int)) (show _ = (B8 (c) : Value) from rfl) (show _ = (B8 (97) : Value) from rfl) (k_geq _ .u8 ((c).toNat) (97)) ?_)    -- ref.go:92 t13 := (Op.binOp BinOp.geq 5 (Operand.tmp 12) (Operand.const (Value.int IntKind.u8 97)) 5)
  refine opsF_step rfl (YieldsK.move (show _ = (.bool (false) : Value) from (congrArg Value.bool (decide_eq_false (by omega)))) ?_)    -- ref.go:92 t14 := (Op.move (Operand.tmp 13))
  refine opsF_off (d := 14) rfl rfl rfl (show _ = (.bool (false) : Value) from rfl) rfl ?_    -- ref.go:92 t15 := (Op.move (Operand.tmp 0))
  refine opsF_off (d := 14) rfl rfl rfl (show _ = (.bool (false) : Value) from rfl) rfl ?_    -- ref.go:92 t16 := (Op.binOp BinOp.leq 5 (Operand.tmp 15) (Operand.const (Value.int IntKind.u8 102)) 5)
  refine opsF_step rfl (YieldsK.pickF (show _ = (.bool (false) : Value) from rfl) (show _ = (.bool (false) : Value) from rfl) ?_)    -- ref.go:92 t17 := (Op.pick (Operand.tmp 14) (Operand.tmp 16) (Operand.const (Value.bool false)))
  refine opsF_end (fun ρ => ρ 0 = (B8 (c) : Value) ∧ ρ 2 = (.int .i64 ((0 : Nat) : Int) : Value) ∧ ρ 8 = (.bool (false) : Value) ∧ ρ 17 = (.bool (false) : Value) ∧ True) ⟨T0, T2, T8, rfl, trivial⟩ fun ρ8 ⟨T0, T2, T8, T17, _⟩ => ?_
  refine thenF_normal (hK7 _ _ ?_)
  refine wpF_false (show _ = (.bool (false) : Value) from T17) ?_
  refine wpF_skip ?_
  refine thenF_normal (hK6 _ _ ?_)
  refine wpF_seq_k fun K9 hK9 => ?_
  refine wpF_text ?_
  refine opsF_step rfl (YieldsK.assign (show _ = (.int .i64 (-1 : Int) : Value) from rfl) ?_)    -- ref.go:95 t2 := (Op.assign (Operand.const (Value.int IntKind.i64 (-1))))
  refine opsF_end (fun ρ => ρ 0 = (B8 (c) : Value) ∧ ρ 2 = (.int .i64 (-1 : Int) : Value) ∧ ρ 8 = (.bool (false) : Value) ∧ ρ 17 = (.bool (false) : Value) ∧ True) ⟨T0, rfl, T8, T17, trivial⟩ fun ρ10 ⟨T0, T2, T8, T17, _⟩ => ?_
  refine thenF_normal (hK9 _ _ ?_)
  refine wpF_ret ?_
  refine postF_ret (fn := Try.f27) _ rfl [.int .i64 (-1 : Int)] (.int .i64 (-1 : Int)) rfl ⟨T2, trivial⟩ ?_
  exact ⟨by unfold dgI; rw [show dg c = none by unfold dg; rw [if_neg (by omega), if_neg (by omega)]], hE⟩

theorem refDigit_4 (w : World) (c : UInt8) (h : 102 < c.toNat) :
    Calls Try.prog 27 #[B8 c] w fun e w' => e = .returned (.int .i64 (dgI c)) ∧ Ext w w' := by
  have hlt := c.toNat_lt
  refine calls_of_wpF (args := [B8 (c)]) Try.func27 rfl 22 rfl (Nat.le_of_ble_eq_true rfl) ?_
  intro ρ0 hb
  have T0 : ρ0 0 = (B8 (c) : Value) := hb.get 0
  clear hb
  have hE := Ext.refl w
  refine wpF_seq_k fun K1 hK1 => ?_
  refine wpF_text ?_
  refine opsF_step rfl (YieldsK.assign (show _ = (.int .i64 ((0 : Nat) : Int) : Value) from rfl) ?_)    -- ref.go:88 t2 := (Op.assign (Operand.const (Value.int IntKind.i64 0)))
  refine opsF_end (fun ρ => ρ 0 = (B8 (c) : Value) ∧ ρ 2 = (.int .i64 ((0 : Nat) : Int) : Value) ∧ True) ⟨T0, rfl, trivial⟩ fun ρ2 ⟨T0, T2, _⟩ => ?_
  refine thenF_normal (hK1 _ _ ?_)
  refine wpF_seq_k fun K3 hK3 => ?_
  refine wpF_seq_k fun K4 hK4 => ?_
  refine wpF_text ?_
  refine opsF_step rfl (YieldsK.move (show _ = (B8 (c) : Value) from T0) ?_)    -- ref.go:89 t3 := (Op.move (Operand.tmp 0))
  refine opsF_step rfl (YieldsK.eqI (a := (((c).toNat : Nat) : Int)) (b := ((48 : Nat) : Int)) (show _ = (B8 (c) : Value) from rfl) (show _ = (B8 (48) : Value) from rfl) (k_geq _ .u8 ((c).toNat) (48)) ?_)    -- ref.go:89 t4 := (Op.binOp BinOp.geq 5 (Operand.tmp 3) (Operand.const (Value.int IntKind.u8 48)) 5)
  refine opsF_step rfl (YieldsK.move (show _ = (.bool (true) : Value) from (congrArg Value.bool (decide_eq_true (by omega)))) ?_)    -- ref.go:89 t5 := (Op.move (Operand.tmp 4))
  refine opsF_on (d := 5) rfl rfl (show _ = (.bool (true) : Value) from rfl) (YieldsK.move (show _ = (B8 (c) : Value) from T0) ?_)    -- ref.go:89 t6 := (Op.move (Operand.tmp 0))
  refine opsF_on (d := 5) rfl rfl (show _ = (.bool (true) : Value) from rfl) (YieldsK.eqI (a := (((c).toNat : Nat) : Int)) (b := ((57 : Nat) : Int)) (show _ = (B8 (c) : Value) from rfl) (show _ = (B8 (57) : Value) from rfl) (k_leq _ .u8 ((c).toNat) (57)) ?_)    -- ref.go:89 t7 := (Op.binOp BinOp.leq 5 (Operand.tmp 6) (Operand.const (Value.int IntKind.u8 57)) 5)
  refine opsF_step rfl (YieldsK.pickT (show _ = (.bool (true) : Value) from rfl) (show _ = (.bool (false) : Value) from (congrArg Value.bool (decide_eq_false (by omega)))) ?_)    -- ref.go:89 t8 := (Op.pick (Operand.tmp 5) (Operand.tmp 7) (Operand.const (Value.bool false)))
  refine opsF_end (fun ρ => ρ 0 = (B8 (c) : Value) ∧ ρ 2 = (.int .i64 ((0 : Nat) : Int) : Value) ∧ ρ 8 = (.bool (false) : Value) ∧ True) ⟨T0, T2, rfl, trivial⟩ fun ρ5 ⟨T0, T2, T8, _⟩ => ?_
  refine thenF_normal (hK4 _ _ ?_)
  refine wpF_false (show _ = (.bool (false) : Value) from T8) ?_
  refine wpF_skip ?_
  refine thenF_normal (hK3 _ _ ?_)
  refine wpF_seq_k fun K6 hK6 => ?_
  refine wpF_seq_k fun K7 hK7 => ?_
  refine wpF_text ?_
  refine opsF_step rfl (YieldsK.move (show _ = (B8 (c) : Value) from T0) ?_)    -- ref.go:92 t12 := (Op.move (Operand.tmp 0))
  refine opsF_step rfl (YieldsK.eqI (a := (((c).toNat : Nat) : Int)) (b := ((97 : Nat) : Int)) (show _ = (B8 (c) : Value) from rfl) (show _ = (B8 (97) : Value) from rfl) (k_geq _ .u8 ((c).toNat) (97)) ?_)    -- ref.go:92 t13 := (Op.binOp BinOp.geq 5 (Operand.tmp 12) (Operand.const (Value.int IntKind.u8 97)) 5)
  refine opsF_step rfl (YieldsK.move (show _ = (.bool (true) : Value) from (congrArg Value.bool (decide_eq_true (by omega)))) ?_)    -- ref.go:92 t14 := (Op.move (Operand.tmp 13))
  refine opsF_on (d := 14) rfl rfl (show _ = (.bool (true) : Value) from rfl) (YieldsK.move (show _ = (B8 (c) : Value) from T0) ?_)    -- ref.go:92 t15 := (Op.move (Operand.tmp 0))
  refine opsF_on (d := 14) rfl rfl (show _ = (.bool (true) : Value) from rfl) (YieldsK.eqI (a := (((c).toNat : Nat) : Int)) (b := ((102 : Nat) : Int)) (show _ = (B8 (c) : Value) from rfl) (show _ = (B8 (102) : Value) from rfl) (k_leq _ .u8 ((c).toNat) (102)) ?_)    -- ref.go:92 t16 := (Op.binOp BinOp.leq 5 (Operand.tmp 15) (Operand.const (Value.int IntKind.u8 102)) 5)
  refine opsF_step rfl (YieldsK.pickT (show _ = (.bool (true) : Value) from rfl) (show _ = (.bool (false) : Value) from (congrArg Value.bool (decide_eq_false (by omega)))) ?_)    -- ref.go:92 t17 := (Op.pick (Operand.tmp 14) (Operand.tmp 16) (Operand.const (Value.bool false)))
  refine opsF_end (fun ρ => ρ 0 = (B8 (c) : Value) ∧ ρ 2 = (.int .i64 ((0 : Nat) : Int) : Value) ∧ ρ 8 = (.bool (false) : Value) ∧ ρ 17 = (.bool (false) : Value) ∧ True) ⟨T0, T2, T8, rfl, trivial⟩ fun ρ8 ⟨T0, T2, T8, T17, _⟩ => ?_
  refine thenF_normal (hK7 _ _ ?_)
  refine wpF_false (show _ = (.bool (false) : Value) from T17) ?_
  refine wpF_skip ?_
  refine thenF_normal (hK6 _ _ ?_)
  refine wpF_seq_k fun K9 hK9 => ?_
  refine wpF_text ?_
  refine opsF_step rfl (YieldsK.assign (show _ = (.int .i64 (-1 : Int) : Value) from rfl) ?_)    -- ref.go:95 t2 := (Op.assign (Operand.const (Value.int IntKind.i64 (-1))))
  refine opsF_end (fun ρ => ρ 0 = (B8 (c) : Value) ∧ ρ 2 = (.int .i64 (-1 : Int) : Value) ∧ ρ 8 = (.bool (false) : Value) ∧ ρ 17 = (.bool (false) : Value) ∧ True) ⟨T0, rfl, T8, T17, trivial⟩ fun ρ10 ⟨T0, T2, T8, T17, _⟩ => ?_
  refine thenF_normal (hK9 _ _ ?_)
  refine wpF_ret ?_
  refine postF_ret (fn := Try.f27) _ rfl [.int .i64 (-1 : Int)] (.int .i64 (-1 : Int)) rfl ⟨T2, trivial⟩ ?_
  exact ⟨by unfold dgI; rw [show dg c = none by unfold dg; rw [if_neg (by omega), if_neg (by omega)]], hE⟩

theorem refDigit_any (w : World) (c : UInt8) : Calls Try.prog 27 #[B8 c] w fun e w' => e = .returned (.int .i64 (dgI c)) ∧ Ext w w' := by
  by_cases h1 : c.toNat < 48
  · exact refDigit_2 w c h1
  · by_cases h2 : c.toNat ≤ 57
    · exact refDigit_0 w c (by omega) h2
    · by_cases h3 : c.toNat < 97
      · exact refDigit_3 w c (by omega) h3
      · by_cases h4 : c.toNat ≤ 102
        · exact refDigit_1 w c (by omega) h4
        · exact refDigit_4 w c (by omega)
end Go.Proofs.Ytcindgknimallaa
