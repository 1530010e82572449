/- Unhex and Starts, of the program and of the reference. -/
import Derived.Test.YtcindgknimallaaLeb7
namespace Go.Proofs.Ytcindgknimallaa
open Go.RowKit
theorem byteAt_of {s : List UInt8} {i k1 k2 : Nat} (h1 : dg (s.getD (2 * i) 0) = some k1) (h2 : dg (s.getD (2 * i + 1) 0) = some k2) (_ : k2 < 16) : byteAt s i = UInt8.ofNat (16 * k1 + k2) := by
  unfold byteAt
  rw [h1, h2]
  rfl
theorem byteAt_or {s : List UInt8} {i k1 k2 : Nat} (h1 : dg (s.getD (2 * i) 0) = some k1) (h2 : dg (s.getD (2 * i + 1) 0) = some k2) (hn : k2 < 16) : byteAt s i = UInt8.ofNat (k1 * 2 ^ 4 ||| k2) := by
  rw [byteAt_of h1 h2 hn, shl_or _ _ _ hn, Nat.mul_comm]
theorem ok_next {s : List UInt8} {i k1 k2 : Nat} (h : ∀ j, j < i → okAt s j = true) (h1 : dg (s.getD (2 * i) 0) = some k1) (h2 : dg (s.getD (2 * i + 1) 0) = some k2) : ∀ j, j < i + 1 → okAt s j = true := fun j hj => by
  by_cases he : j = i
  · subst he
    unfold okAt
    rw [h1, h2]
    rfl
  · exact h j (by omega)
theorem leb8_isz33 : (Try.prog.info? 33).map (·.size) = some 32 := by kernel_rfl
theorem leb8_al33 {d : Option Tmp} {ty : TypeId} {pos : String} {af : Array Edge} {gd : Option (Nat × Bool)} (σ : Operand → Value) (w : World) : (execOp σ ⟨d, .alloc 33, ty, pos, af, gd⟩).run Try.prog w = .ok (.value (.pointer (some ⟨w.heap.size, 0, none⟩))) (w.alloc (.cells (Lib.byteCells (List.replicate 32 0)).toArray 33)) := by kernel_rfl
theorem leb8_ty9 : Try.prog.underlying 9 = some (.string) := by kernel_rfl
theorem leb8_ty33 : Try.prog.underlying 33 = some (.array 32 5) := by kernel_rfl
theorem leb8_pl25 : Plain Try.prog 25 := fun _ _ => by kernel_rfl
theorem leb8_ty3 : Try.prog.underlying 3 = some (.int .i64) := by kernel_rfl
theorem leb8_ty5 : Try.prog.underlying 5 = some (.int .u8) := by kernel_rfl
theorem leb8_sz5 : ∀ w' : World, (sizeOf 5).run Try.prog w' = .ok 1 w' := fun _ => by kernel_rfl
theorem leb8_isz5 : (Try.prog.info? 5).map (·.size) = some 1 := by kernel_rfl
theorem leb8_pl27 : Plain Try.prog 27 := fun _ _ => by kernel_rfl
theorem leb8_pl33 : Plain Try.prog 33 := fun _ _ => by kernel_rfl
theorem leb8_pl19 : Plain Try.prog 19 := fun _ _ => by kernel_rfl
theorem leb8_pl30 : Plain Try.prog 30 := fun _ _ => by kernel_rfl
theorem leb8_pl20 : Plain Try.prog 20 := fun _ _ => by kernel_rfl
theorem unhex_any (w : World) (s : List UInt8) (hs : s.length ≤ 9223372036854775807) :
    Calls Try.prog 17 #[St s] w fun e w' => e = .returned (.tuple #[.agg (Lib.byteCells (unhex s).1).toArray, .bool (unhex s).2]) ∧ Ext w w' := by
  refine calls_of_wpF (args := [.string ⟨(s).toArray⟩]) Try.func17 rfl 42 rfl (Nat.le_of_ble_eq_true rfl) ?_
  intro ρ0 hb
  have T0 : ρ0 0 = (.string ⟨(s).toArray⟩ : Value) := hb.get 0
  clear hb
  have hE := Ext.refl w
  refine wpF_seq_k fun K1 hK1 => ?_
  refine wpF_text ?_
  refine opsF_step rfl (YieldsK.box1 (show _ = (.string ⟨(s).toArray⟩ : Value) from T0) rfl fun n2 w3 hn4 hb5 hx6 hs7 => ?_)    -- leb.go:104 t1 := (Op.box 9 (Operand.tmp 0))
  have hE : Ext w w3 := (hE.trans hx6)
  have hb8 := hb5; clear hb5
  have hl9 : n2 < w3.heap.size := by omega
  refine opsF_step rfl (YieldsK.alloc (cs := (Lib.byteCells (List.replicate 32 0)).toArray) leb8_al33 fun n10 w11 hn12 hb13 hx14 hs15 => ?_)    -- leb.go:104 t2 := (Op.alloc 33)
  have hA16 := Ext.refl w3
  have hea17 := hE
  have hz18 : w.heap.size ≤ w3.heap.size := hE.size
  have hlt19 : n2 < n10 := by have := (Array.getElem?_eq_some_iff.1 hb8).1; omega
  have hE : Ext w w11 := (hE.trans hx14)
  have hb8 : w11.heap[n2]? = some (.cells (([.string ⟨(s).toArray⟩] : List Value)).toArray 9 (0, 0)) := (Ext.blk' hx14 hb8)
  have hA16 : Ext w3 w11 := (hA16.trans hx14)
  have hb20 := hb13; clear hb13
  have hl21 : n10 < w11.heap.size := by omega
  refine opsF_step rfl (YieldsK.assign (show _ = (.bool (false) : Value) from rfl) ?_)    -- leb.go:104 t3 := (Op.assign (Operand.const (Value.bool false)))
  refine opsF_end (fun ρ => ρ 0 = (.string ⟨(s).toArray⟩ : Value) ∧ ρ 1 = (.pointer (some ⟨n2, 0, none⟩) : Value) ∧ ρ 2 = (.pointer (some ⟨n10, 0, none⟩) : Value) ∧ ρ 3 = (.bool (false) : Value) ∧ True) ⟨T0, rfl, rfl, rfl, trivial⟩ fun ρ22 ⟨T0, T1, T2, T3, _⟩ => ?_
  refine thenF_normal (hK1 _ _ ?_)
  refine wpF_seq_k fun K23 hK23 => ?_
  refine wpF_text ?_
  refine opsF_step rfl (YieldsK.alloc (cs := (Lib.byteCells (List.replicate 32 0)).toArray) leb8_al33 fun n24 w25 hn26 hb27 hx28 hs29 => ?_)    -- leb.go:105 t4 := (Op.alloc 33)
  have hA30 := Ext.refl w11
  have hea31 := hE
  have hea32 := hA16
  have hz33 : w.heap.size ≤ w11.heap.size := hE.size
  have hz34 : w3.heap.size ≤ w11.heap.size := hA16.size
  have hlt35 : n2 < n24 := by have := (Array.getElem?_eq_some_iff.1 hb8).1; omega
  have hlt36 : n10 < n24 := by have := (Array.getElem?_eq_some_iff.1 hb20).1; omega
  have hE : Ext w w25 := (hE.trans hx28)
  have hb8 : w25.heap[n2]? = some (.cells (([.string ⟨(s).toArray⟩] : List Value)).toArray 9 (0, 0)) := (Ext.blk' hx28 hb8)
  have hA16 : Ext w3 w25 := (hA16.trans hx28)
  have hb20 : w25.heap[n10]? = some (.cells (Lib.byteCells (List.replicate 32 0)).toArray 33 (0, 0)) := (Ext.blk' hx28 hb20)
  have hA30 : Ext w11 w25 := (hA30.trans hx28)
  have hb37 := hb27; clear hb27
  have hl38 : n24 < w25.heap.size := by omega
  refine opsF_end (fun ρ => ρ 0 = (.string ⟨(s).toArray⟩ : Value) ∧ ρ 1 = (.pointer (some ⟨n2, 0, none⟩) : Value) ∧ ρ 2 = (.pointer (some ⟨n10, 0, none⟩) : Value) ∧ ρ 3 = (.bool (false) : Value) ∧ ρ 4 = (.pointer (some ⟨n24, 0, none⟩) : Value) ∧ True) ⟨T0, T1, T2, T3, rfl, trivial⟩ fun ρ39 ⟨T0, T1, T2, T3, T4, _⟩ => ?_
  refine thenF_normal (hK23 _ _ ?_)
  refine wpF_seq_k fun K40 hK40 => ?_
  refine wpF_seq_k fun K41 hK41 => ?_
  refine wpF_text ?_
  refine opsF_step rfl (YieldsK.cell1 leb8_ty9 rfl (show _ = (.pointer (some ⟨n2, 0, none⟩) : Value) from T1) (cellAt hb8 (show _ = some (.string ⟨(s).toArray⟩ : Value) from rfl)) ?_)    -- leb.go:106 t9 := (Op.load 9 (Operand.tmp 1))
  refine opsF_step rfl (YieldsK.lenSt (l := s) leb8_ty9 (show _ = (.string ⟨(s).toArray⟩ : Value) from rfl) ?_)    -- leb.go:106 t10 := (Op.call { callee := (Callee.builtin Builtin.len), args := #[(Operand.tmp 9)], argTypes := #[9] })
  refine opsF_step rfl (YieldsK.eqI (a := ((s.length : Nat) : Int)) (b := ((64 : Nat) : Int)) (show _ = (.int .i64 ((s.length : Nat) : Int) : Value) from rfl) (show _ = (.int .i64 ((64 : Nat) : Int) : Value) from rfl) (k_neq _ .i64 (s.length) (64)) ?_)    -- leb.go:106 t11 := (Op.binOp BinOp.neq 3 (Operand.tmp 10) (Operand.const (Value.int IntKind.i64 64)) 3)
  refine opsF_end (fun ρ => ρ 0 = (.string ⟨(s).toArray⟩ : Value) ∧ ρ 1 = (.pointer (some ⟨n2, 0, none⟩) : Value) ∧ ρ 2 = (.pointer (some ⟨n10, 0, none⟩) : Value) ∧ ρ 3 = (.bool (false) : Value) ∧ ρ 4 = (.pointer (some ⟨n24, 0, none⟩) : Value) ∧ ρ 11 = (.bool (decide ((s.length : Nat) ≠ (64))) : Value) ∧ True) ⟨T0, T1, T2, T3, T4, rfl, trivial⟩ fun ρ42 ⟨T0, T1, T2, T3, T4, T11, _⟩ => ?_
  refine thenF_normal (hK41 _ _ ?_)
  refine wpF_cond ((s.length : Nat) ≠ (64)) (show _ = (.bool (decide ((s.length : Nat) ≠ (64))) : Value) from T11) (fun h64 => ?_) (fun h64 => ?_)
  · have hun := unhex_no (s := s) (fun h => h64 h.1)
    refine wpF_seq_k fun K43 hK43 => ?_
    refine wpF_text ?_
    refine opsF_step rfl (YieldsK.run (v := .agg (Lib.byteCells (List.replicate 32 0)).toArray) (by kernel_rfl) ?_)    -- leb.go:107 t12 := (Op.build 33 #[])
    refine opsF_step rfl (YieldsK.storeAll (show _ = (.pointer (some ⟨n10, 0, none⟩) : Value) from T2) (show _ = (.agg (Lib.byteCells (List.replicate 32 0)).toArray : Value) from rfl) hb20 (by first | rfl | (rw [List.size_toArray, Lib.byteCells_length, List.length_replicate];  rfl)) (by rw [List.size_toArray, Lib.byteCells_length, List.length_replicate]; exact leb8_isz33) (byteCells_one _) fun w44 hb45 hg46 hs47 => ?_)    -- leb.go:107 tNone := (Op.store 33 (Operand.tmp 2) (Operand.tmp 12))
    have hE : Ext w w44 := row_fresh hE hg46 (Nat.le_trans hz18 (by omega))
    have hb8 : w44.heap[n2]? = some (.cells (([.string ⟨(s).toArray⟩] : List Value)).toArray 9 (0, 0)) := (hg46.block _ (Array.getElem?_eq_some_iff.1 hb8).1 (by simp; omega)).trans hb8
    have hA16 : Ext w3 w44 := row_fresh hA16 hg46 (Nat.le_trans (Nat.le_refl _) (by omega))
    clear hb20
    clear hA30
    have hb37 : w44.heap[n24]? = some (.cells (Lib.byteCells (List.replicate 32 0)).toArray 33 (0, 0)) := (hg46.block _ (Array.getElem?_eq_some_iff.1 hb37).1 (by simp; omega)).trans hb37
    have hb20 := hb45; clear hb45
    have hl48 : n10 < w44.heap.size := (Array.getElem?_eq_some_iff.1 hb20).1
    refine opsF_step rfl (YieldsK.assign (show _ = (.bool (false) : Value) from rfl) ?_)    -- leb.go:107 t3 := (Op.assign (Operand.const (Value.bool false)))
    refine opsF_end (fun ρ => ρ 0 = (.string ⟨(s).toArray⟩ : Value) ∧ ρ 1 = (.pointer (some ⟨n2, 0, none⟩) : Value) ∧ ρ 2 = (.pointer (some ⟨n10, 0, none⟩) : Value) ∧ ρ 3 = (.bool (false) : Value) ∧ ρ 4 = (.pointer (some ⟨n24, 0, none⟩) : Value) ∧ True) ⟨T0, T1, T2, rfl, T4, trivial⟩ fun ρ49 ⟨T0, T1, T2, T3, T4, _⟩ => ?_
    refine thenF_normal (hK43 _ _ ?_)
    refine wpF_ret (thenF_ret ?_)
    refine postF_ret (fn := Try.f17) _ rfl [.agg (Lib.byteCells (List.replicate 32 0)).toArray, .bool (false)] (.tuple #[.agg (Lib.byteCells (List.replicate 32 0)).toArray, .bool (false)]) rfl ⟨ResF.row T2 hb20 leb8_ty33 rfl (by rw [List.size_toArray, Lib.byteCells_length]; first | (rw [List.length_replicate]; exact leb8_isz33) | (rw [pre_length _ _ (by omega)]; exact leb8_isz33)), T3, trivial⟩ ?_
    refine ⟨?_, hE⟩
    rw [hun]
  · have hs64 : s.length = 64 := by omega
    refine wpF_skip ?_
    refine thenF_normal (hK40 _ _ ?_)
    refine wpF_seq_k fun K50 hK50 => ?_
    refine wpF_text ?_
    refine opsF_step rfl (YieldsK.mkFunc (vs := #[.pointer (some ⟨n2, 0, none⟩)]) (by simp only [List.map_toArray, List.map_cons, List.map_nil]; exact congrArg List.toArray (list1 (show _ = (.pointer (some ⟨n2, 0, none⟩) : Value) from T1))) ?_)    -- leb.go:109 t13 := (Op.makeFunc (Fn.func 25) #[] #[(Operand.tmp 1)])
    refine opsF_step rfl (YieldsK.assign (show _ = (.func (.func 25) #[] #[.pointer (some ⟨n2, 0, none⟩)] : Value) from rfl) ?_)    -- leb.go:109 t5 := (Op.assign (Operand.tmp 13))
    refine opsF_end (fun ρ => ρ 0 = (.string ⟨(s).toArray⟩ : Value) ∧ ρ 1 = (.pointer (some ⟨n2, 0, none⟩) : Value) ∧ ρ 2 = (.pointer (some ⟨n10, 0, none⟩) : Value) ∧ ρ 3 = (.bool (false) : Value) ∧ ρ 4 = (.pointer (some ⟨n24, 0, none⟩) : Value) ∧ ρ 5 = (.func (.func 25) #[] #[.pointer (some ⟨n2, 0, none⟩)] : Value) ∧ True) ⟨T0, T1, T2, T3, T4, rfl, trivial⟩ fun ρ51 ⟨T0, T1, T2, T3, T4, T5, _⟩ => ?_
    refine thenF_normal (hK50 _ _ ?_)
    refine wpF_seq_k fun K52 hK52 => ?_
    refine wpF_seq_k fun K53 hK53 => ?_
    refine wpF_text ?_
    refine opsF_step rfl (YieldsK.move (show _ = (.int .i64 ((0 : Nat) : Int) : Value) from rfl) ?_)    -- leb.go:110 t14 := (Op.move (Operand.const (Value.int IntKind.i64 0)))
    refine opsF_end (fun ρ => ρ 0 = (.string ⟨(s).toArray⟩ : Value) ∧ ρ 1 = (.pointer (some ⟨n2, 0, none⟩) : Value) ∧ ρ 2 = (.pointer (some ⟨n10, 0, none⟩) : Value) ∧ ρ 3 = (.bool (false) : Value) ∧ ρ 4 = (.pointer (some ⟨n24, 0, none⟩) : Value) ∧ ρ 5 = (.func (.func 25) #[] #[.pointer (some ⟨n2, 0, none⟩)] : Value) ∧ ρ 14 = (.int .i64 ((0 : Nat) : Int) : Value) ∧ True) ⟨T0, T1, T2, T3, T4, T5, rfl, trivial⟩ fun ρ54 ⟨T0, T1, T2, T3, T4, T5, T14, _⟩ => ?_
    refine thenF_normal (hK53 _ _ ?_)
    refine wpF_block ?_
    refine wpF_loop (fun (ρ : Slots) (wz : World) => ∃ i : Nat, ρ 0 = (.string ⟨(s).toArray⟩ : Value) ∧ ρ 1 = (.pointer (some ⟨n2, 0, none⟩) : Value) ∧ ρ 2 = (.pointer (some ⟨n10, 0, none⟩) : Value) ∧ ρ 4 = (.pointer (some ⟨n24, 0, none⟩) : Value) ∧ ρ 5 = (.func (.func 25) #[] #[.pointer (some ⟨n2, 0, none⟩)] : Value) ∧ ρ 14 = (.int .i64 ((i : Nat) : Int) : Value) ∧ Ext w wz ∧ wz.heap[n2]? = some (.cells (([.string ⟨(s).toArray⟩] : List Value)).toArray 9 (0, 0)) ∧ Ext w3 wz ∧ wz.heap[n10]? = some (.cells (Lib.byteCells (List.replicate 32 0)).toArray 33 (0, 0)) ∧ Ext w11 wz ∧ wz.heap[n24]? = some (.cells (Lib.byteCells (pre s i)).toArray 33 (0, 0)) ∧ (i ≤ 32) ∧ (∀ j, j < i → okAt s j = true) ∧ True) (fun ρ _ => 32 - (intOf (ρ 14)).toNat) ⟨0, T0, T1, T2, T4, T5, T14, hE, hb8, hA16, hb20, hA30, blk_eq hb37 (rfl), Nat.zero_le _, fun j hj => by omega, trivial⟩ ?_
    clear hb37
    clear hE hb8 hA16 hb20 hA30
    rintro ρ55 w56 ⟨i, T0, T1, T2, T4, T5, T14, hE, hb8, hA16, hb20, hA30, hb37l, hi, hall, -⟩
    have q14 := T14
    have hpl := pre_length s i hi
    refine wpF_seq_k fun K57 hK57 => ?_
    refine wpF_text ?_
    refine opsF_step rfl (YieldsK.eqI (a := ((i : Nat) : Int)) (b := ((32 : Nat) : Int)) (show _ = (.int .i64 ((i : Nat) : Int) : Value) from T14) (show _ = (.int .i64 ((32 : Nat) : Int) : Value) from rfl) (k_lss _ .i64 (i) (32)) ?_)    -- leb.go:110 t15 := (Op.binOp BinOp.lss 3 (Operand.tmp 14) (Operand.const (Value.int IntKind.i64 32)) 3)
    refine opsF_end (fun ρ => ρ 0 = (.string ⟨(s).toArray⟩ : Value) ∧ ρ 1 = (.pointer (some ⟨n2, 0, none⟩) : Value) ∧ ρ 2 = (.pointer (some ⟨n10, 0, none⟩) : Value) ∧ ρ 4 = (.pointer (some ⟨n24, 0, none⟩) : Value) ∧ ρ 5 = (.func (.func 25) #[] #[.pointer (some ⟨n2, 0, none⟩)] : Value) ∧ ρ 14 = (.int .i64 ((i : Nat) : Int) : Value) ∧ ρ 15 = (.bool (decide ((i) < (32))) : Value) ∧ True) ⟨T0, T1, T2, T4, T5, T14, rfl, trivial⟩ fun ρ58 ⟨T0, T1, T2, T4, T5, T14, T15, _⟩ => ?_
    refine thenF_normal (hK57 _ _ ?_)
    refine wpF_seq_k fun K59 hK59 => ?_
    refine wpF_cond ((i) < (32)) (show _ = (.bool (decide ((i) < (32))) : Value) from T15) (fun hc1 => ?_) (fun hc1 => ?_)
    · refine wpF_skip ?_
      refine thenF_normal (hK59 _ _ ?_)
      refine wpF_seq_k fun K60 hK60 => ?_
      refine wpF_block ?_
      refine wpF_seq_k fun K61 hK61 => ?_
      refine wpF_text ?_
      refine opsF_step rfl (YieldsK.move (show _ = (.int .i64 ((i : Nat) : Int) : Value) from T14) ?_)    -- leb.go:110 t16 := (Op.move (Operand.tmp 14))
      refine opsF_step rfl (YieldsK.assign (show _ = (.int .i64 ((i : Nat) : Int) : Value) from rfl) ?_)    -- leb.go:110 t6 := (Op.assign (Operand.tmp 16))
      refine opsF_end (fun ρ => ρ 0 = (.string ⟨(s).toArray⟩ : Value) ∧ ρ 1 = (.pointer (some ⟨n2, 0, none⟩) : Value) ∧ ρ 2 = (.pointer (some ⟨n10, 0, none⟩) : Value) ∧ ρ 4 = (.pointer (some ⟨n24, 0, none⟩) : Value) ∧ ρ 5 = (.func (.func 25) #[] #[.pointer (some ⟨n2, 0, none⟩)] : Value) ∧ ρ 6 = (.int .i64 ((i : Nat) : Int) : Value) ∧ ρ 14 = (.int .i64 ((i : Nat) : Int) : Value) ∧ True) ⟨T0, T1, T2, T4, T5, rfl, T14, trivial⟩ fun ρ62 ⟨T0, T1, T2, T4, T5, T6, T14, _⟩ => ?_
      refine thenF_normal (hK61 _ _ ?_)
      refine wpF_seq_k fun K63 hK63 => ?_
      refine wpF_text ?_
      refine opsF_step rfl (YieldsK.move (show _ = (.func (.func 25) #[] #[.pointer (some ⟨n2, 0, none⟩)] : Value) from T5) ?_)    -- leb.go:111 t17 := (Op.move (Operand.tmp 5))
      refine opsF_step rfl (YieldsK.move (show _ = (.int .i64 ((i : Nat) : Int) : Value) from T6) ?_)    -- leb.go:111 t18 := (Op.move (Operand.tmp 6))
      refine opsF_step rfl (YieldsK.bin (xv := .int .i64 ((2 : Nat) : Int)) (yv := .int .i64 ((i : Nat) : Int)) (show _ = (.int .i64 ((2 : Nat) : Int) : Value) from rfl) (show _ = (.int .i64 ((i : Nat) : Int) : Value) from rfl) rfl (i64_mul _ (2) (i) (by omega)) ?_)    -- leb.go:111 t19 := (Op.binOp BinOp.mul 3 (Operand.const (Value.int IntKind.i64 2)) (Operand.tmp 18) 3)
      refine opsF_step rfl (YieldsK.clo leb8_pl25 (caps := #[.pointer (some ⟨n2, 0, none⟩)]) (show _ = (.func (.func 25) #[] #[.pointer (some ⟨n2, 0, none⟩)] : Value) from rfl) #[.int .i64 (((2) * (i) : Nat) : Int), .pointer (some ⟨n2, 0, none⟩)] (by simp only [List.map_toArray, List.map_cons, List.map_nil, List.append_toArray, List.cons_append, List.nil_append]; exact congrArg List.toArray (list2 (show _ = (.int .i64 (((2) * (i) : Nat) : Int) : Value) from rfl) rfl)) ?_)    -- leb.go:111 t20 := (Op.call { callee := (Callee.value (Operand.tmp 17)), args := #[(Operand.tmp 19)], argTypes := #[3] })
      refine (digit_any _ n2 s hb8 ((2) * (i)) (by omega)).mono ?_
      rintro e w65 ⟨rfl, hx64⟩
      refine ⟨_, rfl, ?_⟩
      have hE : Ext w w65 := (hE.trans hx64)
      have hb8 : w65.heap[n2]? = some (.cells (([.string ⟨(s).toArray⟩] : List Value)).toArray 9 (0, 0)) := (Ext.blk' hx64 hb8)
      have hA16 : Ext w3 w65 := (hA16.trans hx64)
      have hb20 : w65.heap[n10]? = some (.cells (Lib.byteCells (List.replicate 32 0)).toArray 33 (0, 0)) := (Ext.blk' hx64 hb20)
      have hA30 : Ext w11 w65 := (hA30.trans hx64)
      have hb37l : w65.heap[n24]? = some (.cells (Lib.byteCells (pre s i)).toArray 33 (0, 0)) := (Ext.blk' hx64 hb37l)
      refine opsF_step rfl (YieldsK.move (show _ = (.func (.func 25) #[] #[.pointer (some ⟨n2, 0, none⟩)] : Value) from T5) ?_)    -- leb.go:111 t21 := (Op.move (Operand.tmp 5))
      refine opsF_step rfl (YieldsK.move (show _ = (.int .i64 ((i : Nat) : Int) : Value) from T6) ?_)    -- leb.go:111 t22 := (Op.move (Operand.tmp 6))
      refine opsF_step rfl (YieldsK.bin (xv := .int .i64 ((2 : Nat) : Int)) (yv := .int .i64 ((i : Nat) : Int)) (show _ = (.int .i64 ((2 : Nat) : Int) : Value) from rfl) (show _ = (.int .i64 ((i : Nat) : Int) : Value) from rfl) rfl (i64_mul _ (2) (i) (by omega)) ?_)    -- leb.go:111 t23 := (Op.binOp BinOp.mul 3 (Operand.const (Value.int IntKind.i64 2)) (Operand.tmp 22) 3)
      refine opsF_step rfl (YieldsK.bin (xv := .int .i64 (((2) * (i) : Nat) : Int)) (yv := .int .i64 ((1 : Nat) : Int)) (show _ = (.int .i64 (((2) * (i) : Nat) : Int) : Value) from rfl) (show _ = (.int .i64 ((1 : Nat) : Int) : Value) from rfl) rfl (i64_add _ ((2) * (i)) (1) (by omega)) ?_)    -- leb.go:111 t24 := (Op.binOp BinOp.add 3 (Operand.tmp 23) (Operand.const (Value.int IntKind.i64 1)) 3)
      refine opsF_step rfl (YieldsK.clo leb8_pl25 (caps := #[.pointer (some ⟨n2, 0, none⟩)]) (show _ = (.func (.func 25) #[] #[.pointer (some ⟨n2, 0, none⟩)] : Value) from rfl) #[.int .i64 ((((2) * (i)) + (1) : Nat) : Int), .pointer (some ⟨n2, 0, none⟩)] (by simp only [List.map_toArray, List.map_cons, List.map_nil, List.append_toArray, List.cons_append, List.nil_append]; exact congrArg List.toArray (list2 (show _ = (.int .i64 ((((2) * (i)) + (1) : Nat) : Int) : Value) from rfl) rfl)) ?_)    -- leb.go:111 t25 := (Op.call { callee := (Callee.value (Operand.tmp 21)), args := #[(Operand.tmp 24)], argTypes := #[3] })
      refine (digit_any _ n2 s hb8 (((2) * (i)) + (1)) (by omega)).mono ?_
      rintro e w67 ⟨rfl, hx66⟩
      refine ⟨_, rfl, ?_⟩
      have hE : Ext w w67 := (hE.trans hx66)
      have hb8 : w67.heap[n2]? = some (.cells (([.string ⟨(s).toArray⟩] : List Value)).toArray 9 (0, 0)) := (Ext.blk' hx66 hb8)
      have hA16 : Ext w3 w67 := (hA16.trans hx66)
      have hb20 : w67.heap[n10]? = some (.cells (Lib.byteCells (List.replicate 32 0)).toArray 33 (0, 0)) := (Ext.blk' hx66 hb20)
      have hA30 : Ext w11 w67 := (hA30.trans hx66)
      have hb37l : w67.heap[n24]? = some (.cells (Lib.byteCells (pre s i)).toArray 33 (0, 0)) := (Ext.blk' hx66 hb37l)
      refine opsF_step rfl (YieldsK.assign (show _ = (.int .i64 (dgI (s.getD (2 * i) 0) : Int) : Value) from rfl) ?_)    -- leb.go:111 t7 := (Op.assign (Operand.tmp 20))
      refine opsF_step rfl (YieldsK.assign (show _ = (.int .i64 (dgI (s.getD (2 * i + 1) 0) : Int) : Value) from rfl) ?_)    -- leb.go:111 t8 := (Op.assign (Operand.tmp 25))
      refine opsF_end (fun ρ => ρ 0 = (.string ⟨(s).toArray⟩ : Value) ∧ ρ 1 = (.pointer (some ⟨n2, 0, none⟩) : Value) ∧ ρ 2 = (.pointer (some ⟨n10, 0, none⟩) : Value) ∧ ρ 4 = (.pointer (some ⟨n24, 0, none⟩) : Value) ∧ ρ 5 = (.func (.func 25) #[] #[.pointer (some ⟨n2, 0, none⟩)] : Value) ∧ ρ 6 = (.int .i64 ((i : Nat) : Int) : Value) ∧ ρ 7 = (.int .i64 (dgI (s.getD (2 * i) 0) : Int) : Value) ∧ ρ 8 = (.int .i64 (dgI (s.getD (2 * i + 1) 0) : Int) : Value) ∧ ρ 14 = (.int .i64 ((i : Nat) : Int) : Value) ∧ True) ⟨T0, T1, T2, T4, T5, T6, rfl, rfl, T14, trivial⟩ fun ρ68 ⟨T0, T1, T2, T4, T5, T6, T7, T8, T14, _⟩ => ?_
      obtain ⟨x1, hx1⟩ : ∃ x, x = dg (s.getD (2 * i) 0) := ⟨_, rfl⟩
      obtain ⟨x2, hx2⟩ : ∃ x, x = dg (s.getD (2 * i + 1) 0) := ⟨_, rfl⟩
      rcases x1 with _ | k1
      · have hno : okAt s i = false := by unfold okAt; rw [← hx1]; rfl
        have T7 := T7.trans (show Value.int .i64 (dgI (s.getD (2 * i) 0)) = .int .i64 (-1) by unfold dgI; rw [← hx1])
        refine thenF_normal (hK63 _ _ ?_)
        refine wpF_seq_k fun K69 hK69 => ?_
        refine wpF_seq_k fun K70 hK70 => ?_
        refine wpF_text ?_
        refine opsF_step rfl (YieldsK.move (show _ = (.int .i64 (-1 : Int) : Value) from T7) ?_)    -- leb.go:112 t26 := (Op.move (Operand.tmp 7))
        refine opsF_step rfl (YieldsK.eqI (show _ = (.int .i64 (-1 : Int) : Value) from rfl) (show _ = (.int .i64 ((0 : Nat) : Int) : Value) from rfl) (z_lss _ .i64 (-1 : Int) ((0 : Nat) : Int)) ?_)    -- leb.go:112 t27 := (Op.binOp BinOp.lss 3 (Operand.tmp 26) (Operand.const (Value.int IntKind.i64 0)) 3)
        refine opsF_step rfl (YieldsK.move (show _ = (.bool (true) : Value) from (congrArg Value.bool (decide_eq_true (by decide)))) ?_)    -- leb.go:112 t28 := (Op.move (Operand.tmp 27))
        refine opsF_off (d := 28) rfl rfl rfl (show _ = (.bool (true) : Value) from rfl) rfl ?_    -- leb.go:112 t29 := (Op.move (Operand.tmp 8))
        refine opsF_off (d := 28) rfl rfl rfl (show _ = (.bool (true) : Value) from rfl) rfl ?_    -- leb.go:112 t30 := (Op.binOp BinOp.lss 3 (Operand.tmp 29) (Operand.const (Value.int IntKind.i64 0)) 3)
        refine opsF_step rfl (YieldsK.pickT (show _ = (.bool (true) : Value) from rfl) (show _ = (.bool (true) : Value) from rfl) ?_)    -- leb.go:112 t31 := (Op.pick (Operand.tmp 28) (Operand.const (Value.bool true)) (Operand.tmp 30))
        refine opsF_end (fun ρ => ρ 0 = (.string ⟨(s).toArray⟩ : Value) ∧ ρ 1 = (.pointer (some ⟨n2, 0, none⟩) : Value) ∧ ρ 2 = (.pointer (some ⟨n10, 0, none⟩) : Value) ∧ ρ 4 = (.pointer (some ⟨n24, 0, none⟩) : Value) ∧ ρ 5 = (.func (.func 25) #[] #[.pointer (some ⟨n2, 0, none⟩)] : Value) ∧ ρ 6 = (.int .i64 ((i : Nat) : Int) : Value) ∧ ρ 7 = (.int .i64 (-1 : Int) : Value) ∧ ρ 8 = (.int .i64 (dgI (s.getD (2 * i + 1) 0) : Int) : Value) ∧ ρ 14 = (.int .i64 ((i : Nat) : Int) : Value) ∧ ρ 31 = (.bool (true) : Value) ∧ True) ⟨T0, T1, T2, T4, T5, T6, T7, T8, T14, rfl, trivial⟩ fun ρ71 ⟨T0, T1, T2, T4, T5, T6, T7, T8, T14, T31, _⟩ => ?_
        refine thenF_normal (hK70 _ _ ?_)
        refine wpF_true (show _ = (.bool (true) : Value) from T31) ?_
        refine wpF_seq_k fun K72 hK72 => ?_
        refine wpF_text ?_
        refine opsF_step rfl (YieldsK.run (v := .agg (Lib.byteCells (List.replicate 32 0)).toArray) (by kernel_rfl) ?_)    -- leb.go:113 t32 := (Op.build 33 #[])
        refine opsF_step rfl (YieldsK.storeAll (show _ = (.pointer (some ⟨n10, 0, none⟩) : Value) from T2) (show _ = (.agg (Lib.byteCells (List.replicate 32 0)).toArray : Value) from rfl) hb20 (by first | rfl | (rw [List.size_toArray, Lib.byteCells_length, List.length_replicate];  rfl)) (by rw [List.size_toArray, Lib.byteCells_length, List.length_replicate]; exact leb8_isz33) (byteCells_one _) fun w73 hb74 hg75 hs76 => ?_)    -- leb.go:113 tNone := (Op.store 33 (Operand.tmp 2) (Operand.tmp 32))
        have hE : Ext w w73 := row_fresh hE hg75 (Nat.le_trans hz18 (by omega))
        have hb8 : w73.heap[n2]? = some (.cells (([.string ⟨(s).toArray⟩] : List Value)).toArray 9 (0, 0)) := (hg75.block _ (Array.getElem?_eq_some_iff.1 hb8).1 (by simp; omega)).trans hb8
        have hA16 : Ext w3 w73 := row_fresh hA16 hg75 (Nat.le_trans (Nat.le_refl _) (by omega))
        clear hb20
        clear hA30
        have hb37l : w73.heap[n24]? = some (.cells (Lib.byteCells (pre s i)).toArray 33 (0, 0)) := (hg75.block _ (Array.getElem?_eq_some_iff.1 hb37l).1 (by simp; omega)).trans hb37l
        have hb20 := hb74; clear hb74
        have hl77 : n10 < w73.heap.size := (Array.getElem?_eq_some_iff.1 hb20).1
        refine opsF_step rfl (YieldsK.assign (show _ = (.bool (false) : Value) from rfl) ?_)    -- leb.go:113 t3 := (Op.assign (Operand.const (Value.bool false)))
        refine opsF_end (fun ρ => ρ 0 = (.string ⟨(s).toArray⟩ : Value) ∧ ρ 1 = (.pointer (some ⟨n2, 0, none⟩) : Value) ∧ ρ 2 = (.pointer (some ⟨n10, 0, none⟩) : Value) ∧ ρ 3 = (.bool (false) : Value) ∧ ρ 4 = (.pointer (some ⟨n24, 0, none⟩) : Value) ∧ ρ 5 = (.func (.func 25) #[] #[.pointer (some ⟨n2, 0, none⟩)] : Value) ∧ ρ 6 = (.int .i64 ((i : Nat) : Int) : Value) ∧ ρ 7 = (.int .i64 (-1 : Int) : Value) ∧ ρ 8 = (.int .i64 (dgI (s.getD (2 * i + 1) 0) : Int) : Value) ∧ ρ 14 = (.int .i64 ((i : Nat) : Int) : Value) ∧ ρ 31 = (.bool (true) : Value) ∧ True) ⟨T0, T1, T2, rfl, T4, T5, T6, T7, T8, T14, T31, trivial⟩ fun ρ78 ⟨T0, T1, T2, T3, T4, T5, T6, T7, T8, T14, T31, _⟩ => ?_
        have hun := unhex_no (s := s) (fun h => by have := List.all_eq_true.1 h.2 i (by simp; omega); rw [hno] at this; cases this)
        refine thenF_normal (hK72 _ _ ?_)
        refine wpF_ret (thenF_ret (inBlockF_ret (thenF_ret (thenF_ret (inBlockF_ret (thenF_ret ?_))))))
        refine postF_ret (fn := Try.f17) _ rfl [.agg (Lib.byteCells (List.replicate 32 0)).toArray, .bool (false)] (.tuple #[.agg (Lib.byteCells (List.replicate 32 0)).toArray, .bool (false)]) rfl ⟨ResF.row T2 hb20 leb8_ty33 rfl (by rw [List.size_toArray, Lib.byteCells_length]; first | (rw [List.length_replicate]; exact leb8_isz33) | (rw [pre_length _ _ (by omega)]; exact leb8_isz33)), T3, trivial⟩ ?_
        refine ⟨?_, hE⟩
        rw [hun]
      · have hd1 := hx1.symm
        have hk1 := dg_lt hd1
        have T7 := T7.trans (show Value.int .i64 (dgI (s.getD (2 * i) 0)) = .int .i64 ((k1 : Nat) : Int) by unfold dgI; rw [← hx1])
        rcases x2 with _ | k2
        · have hno : okAt s i = false := by unfold okAt; rw [← hx2]; simp
          have T8 := T8.trans (show Value.int .i64 (dgI (s.getD (2 * i + 1) 0)) = .int .i64 (-1) by unfold dgI; rw [← hx2])
          refine thenF_normal (hK63 _ _ ?_)
          refine wpF_seq_k fun K79 hK79 => ?_
          refine wpF_seq_k fun K80 hK80 => ?_
          refine wpF_text ?_
          refine opsF_step rfl (YieldsK.move (show _ = (.int .i64 ((k1 : Nat) : Int) : Value) from T7) ?_)    -- leb.go:112 t26 := (Op.move (Operand.tmp 7))
          refine opsF_step rfl (YieldsK.eqI (a := ((k1 : Nat) : Int)) (b := ((0 : Nat) : Int)) (show _ = (.int .i64 ((k1 : Nat) : Int) : Value) from rfl) (show _ = (.int .i64 ((0 : Nat) : Int) : Value) from rfl) (k_lss _ .i64 (k1) (0)) ?_)    -- leb.go:112 t27 := (Op.binOp BinOp.lss 3 (Operand.tmp 26) (Operand.const (Value.int IntKind.i64 0)) 3)
          refine opsF_step rfl (YieldsK.move (show _ = (.bool (false) : Value) from (congrArg Value.bool (decide_eq_false (by omega)))) ?_)    -- leb.go:112 t28 := (Op.move (Operand.tmp 27))
          refine opsF_on (d := 28) rfl rfl (show _ = (.bool (false) : Value) from rfl) (YieldsK.move (show _ = (.int .i64 (-1 : Int) : Value) from T8) ?_)    -- leb.go:112 t29 := (Op.move (Operand.tmp 8))
          refine opsF_on (d := 28) rfl rfl (show _ = (.bool (false) : Value) from rfl) (YieldsK.eqI (show _ = (.int .i64 (-1 : Int) : Value) from rfl) (show _ = (.int .i64 ((0 : Nat) : Int) : Value) from rfl) (z_lss _ .i64 (-1 : Int) ((0 : Nat) : Int)) ?_)    -- leb.go:112 t30 := (Op.binOp BinOp.lss 3 (Operand.tmp 29) (Operand.const (Value.int IntKind.i64 0)) 3)
          refine opsF_step rfl (YieldsK.pickF (show _ = (.bool (false) : Value) from rfl) (show _ = (.bool (true) : Value) from (congrArg Value.bool (decide_eq_true (by decide)))) ?_)    -- leb.go:112 t31 := (Op.pick (Operand.tmp 28) (Operand.const (Value.bool true)) (Operand.tmp 30))
          refine opsF_end (fun ρ => ρ 0 = (.string ⟨(s).toArray⟩ : Value) ∧ ρ 1 = (.pointer (some ⟨n2, 0, none⟩) : Value) ∧ ρ 2 = (.pointer (some ⟨n10, 0, none⟩) : Value) ∧ ρ 4 = (.pointer (some ⟨n24, 0, none⟩) : Value) ∧ ρ 5 = (.func (.func 25) #[] #[.pointer (some ⟨n2, 0, none⟩)] : Value) ∧ ρ 6 = (.int .i64 ((i : Nat) : Int) : Value) ∧ ρ 7 = (.int .i64 ((k1 : Nat) : Int) : Value) ∧ ρ 8 = (.int .i64 (-1 : Int) : Value) ∧ ρ 14 = (.int .i64 ((i : Nat) : Int) : Value) ∧ ρ 31 = (.bool (true) : Value) ∧ True) ⟨T0, T1, T2, T4, T5, T6, T7, T8, T14, rfl, trivial⟩ fun ρ81 ⟨T0, T1, T2, T4, T5, T6, T7, T8, T14, T31, _⟩ => ?_
          refine thenF_normal (hK80 _ _ ?_)
          refine wpF_true (show _ = (.bool (true) : Value) from T31) ?_
          refine wpF_seq_k fun K82 hK82 => ?_
          refine wpF_text ?_
          refine opsF_step rfl (YieldsK.run (v := .agg (Lib.byteCells (List.replicate 32 0)).toArray) (by kernel_rfl) ?_)    -- leb.go:113 t32 := (Op.build 33 #[])
          refine opsF_step rfl (YieldsK.storeAll (show _ = (.pointer (some ⟨n10, 0, none⟩) : Value) from T2) (show _ = (.agg (Lib.byteCells (List.replicate 32 0)).toArray : Value) from rfl) hb20 (by first | rfl | (rw [List.size_toArray, Lib.byteCells_length, List.length_replicate];  rfl)) (by rw [List.size_toArray, Lib.byteCells_length, List.length_replicate]; exact leb8_isz33) (byteCells_one _) fun w83 hb84 hg85 hs86 => ?_)    -- leb.go:113 tNone := (Op.store 33 (Operand.tmp 2) (Operand.tmp 32))
          have hE : Ext w w83 := row_fresh hE hg85 (Nat.le_trans hz18 (by omega))
          have hb8 : w83.heap[n2]? = some (.cells (([.string ⟨(s).toArray⟩] : List Value)).toArray 9 (0, 0)) := (hg85.block _ (Array.getElem?_eq_some_iff.1 hb8).1 (by simp; omega)).trans hb8
          have hA16 : Ext w3 w83 := row_fresh hA16 hg85 (Nat.le_trans (Nat.le_refl _) (by omega))
          clear hb20
          clear hA30
          have hb37l : w83.heap[n24]? = some (.cells (Lib.byteCells (pre s i)).toArray 33 (0, 0)) := (hg85.block _ (Array.getElem?_eq_some_iff.1 hb37l).1 (by simp; omega)).trans hb37l
          have hb20 := hb84; clear hb84
          have hl87 : n10 < w83.heap.size := (Array.getElem?_eq_some_iff.1 hb20).1
          refine opsF_step rfl (YieldsK.assign (show _ = (.bool (false) : Value) from rfl) ?_)    -- leb.go:113 t3 := (Op.assign (Operand.const (Value.bool false)))
          refine opsF_end (fun ρ => ρ 0 = (.string ⟨(s).toArray⟩ : Value) ∧ ρ 1 = (.pointer (some ⟨n2, 0, none⟩) : Value) ∧ ρ 2 = (.pointer (some ⟨n10, 0, none⟩) : Value) ∧ ρ 3 = (.bool (false) : Value) ∧ ρ 4 = (.pointer (some ⟨n24, 0, none⟩) : Value) ∧ ρ 5 = (.func (.func 25) #[] #[.pointer (some ⟨n2, 0, none⟩)] : Value) ∧ ρ 6 = (.int .i64 ((i : Nat) : Int) : Value) ∧ ρ 7 = (.int .i64 ((k1 : Nat) : Int) : Value) ∧ ρ 8 = (.int .i64 (-1 : Int) : Value) ∧ ρ 14 = (.int .i64 ((i : Nat) : Int) : Value) ∧ ρ 31 = (.bool (true) : Value) ∧ True) ⟨T0, T1, T2, rfl, T4, T5, T6, T7, T8, T14, T31, trivial⟩ fun ρ88 ⟨T0, T1, T2, T3, T4, T5, T6, T7, T8, T14, T31, _⟩ => ?_
          have hun := unhex_no (s := s) (fun h => by have := List.all_eq_true.1 h.2 i (by simp; omega); rw [hno] at this; cases this)
          refine thenF_normal (hK82 _ _ ?_)
          refine wpF_ret (thenF_ret (inBlockF_ret (thenF_ret (thenF_ret (inBlockF_ret (thenF_ret ?_))))))
          refine postF_ret (fn := Try.f17) _ rfl [.agg (Lib.byteCells (List.replicate 32 0)).toArray, .bool (false)] (.tuple #[.agg (Lib.byteCells (List.replicate 32 0)).toArray, .bool (false)]) rfl ⟨ResF.row T2 hb20 leb8_ty33 rfl (by rw [List.size_toArray, Lib.byteCells_length]; first | (rw [List.length_replicate]; exact leb8_isz33) | (rw [pre_length _ _ (by omega)]; exact leb8_isz33)), T3, trivial⟩ ?_
          refine ⟨?_, hE⟩
          rw [hun]
        · have hd2 := hx2.symm
          have hk2 := dg_lt hd2
          have T8 := T8.trans (show Value.int .i64 (dgI (s.getD (2 * i + 1) 0)) = .int .i64 ((k2 : Nat) : Int) by unfold dgI; rw [← hx2])
          refine thenF_normal (hK63 _ _ ?_)
          refine wpF_seq_k fun K89 hK89 => ?_
          refine wpF_seq_k fun K90 hK90 => ?_
          refine wpF_text ?_
          refine opsF_step rfl (YieldsK.move (show _ = (.int .i64 ((k1 : Nat) : Int) : Value) from T7) ?_)    -- leb.go:112 t26 := (Op.move (Operand.tmp 7))
          refine opsF_step rfl (YieldsK.eqI (a := ((k1 : Nat) : Int)) (b := ((0 : Nat) : Int)) (show _ = (.int .i64 ((k1 : Nat) : Int) : Value) from rfl) (show _ = (.int .i64 ((0 : Nat) : Int) : Value) from rfl) (k_lss _ .i64 (k1) (0)) ?_)    -- leb.go:112 t27 := (Op.binOp BinOp.lss 3 (Operand.tmp 26) (Operand.const (Value.int IntKind.i64 0)) 3)
          refine opsF_step rfl (YieldsK.move (show _ = (.bool (false) : Value) from (congrArg Value.bool (decide_eq_false (by omega)))) ?_)    -- leb.go:112 t28 := (Op.move (Operand.tmp 27))
          refine opsF_on (d := 28) rfl rfl (show _ = (.bool (false) : Value) from rfl) (YieldsK.move (show _ = (.int .i64 ((k2 : Nat) : Int) : Value) from T8) ?_)    -- leb.go:112 t29 := (Op.move (Operand.tmp 8))
          refine opsF_on (d := 28) rfl rfl (show _ = (.bool (false) : Value) from rfl) (YieldsK.eqI (a := ((k2 : Nat) : Int)) (b := ((0 : Nat) : Int)) (show _ = (.int .i64 ((k2 : Nat) : Int) : Value) from rfl) (show _ = (.int .i64 ((0 : Nat) : Int) : Value) from rfl) (k_lss _ .i64 (k2) (0)) ?_)    -- leb.go:112 t30 := (Op.binOp BinOp.lss 3 (Operand.tmp 29) (Operand.const (Value.int IntKind.i64 0)) 3)
          refine opsF_step rfl (YieldsK.pickF (show _ = (.bool (false) : Value) from rfl) (show _ = (.bool (false) : Value) from (congrArg Value.bool (decide_eq_false (by omega)))) ?_)    -- leb.go:112 t31 := (Op.pick (Operand.tmp 28) (Operand.const (Value.bool true)) (Operand.tmp 30))
          refine opsF_end (fun ρ => ρ 0 = (.string ⟨(s).toArray⟩ : Value) ∧ ρ 1 = (.pointer (some ⟨n2, 0, none⟩) : Value) ∧ ρ 2 = (.pointer (some ⟨n10, 0, none⟩) : Value) ∧ ρ 4 = (.pointer (some ⟨n24, 0, none⟩) : Value) ∧ ρ 5 = (.func (.func 25) #[] #[.pointer (some ⟨n2, 0, none⟩)] : Value) ∧ ρ 6 = (.int .i64 ((i : Nat) : Int) : Value) ∧ ρ 7 = (.int .i64 ((k1 : Nat) : Int) : Value) ∧ ρ 8 = (.int .i64 ((k2 : Nat) : Int) : Value) ∧ ρ 14 = (.int .i64 ((i : Nat) : Int) : Value) ∧ ρ 31 = (.bool (false) : Value) ∧ True) ⟨T0, T1, T2, T4, T5, T6, T7, T8, T14, rfl, trivial⟩ fun ρ91 ⟨T0, T1, T2, T4, T5, T6, T7, T8, T14, T31, _⟩ => ?_
          refine thenF_normal (hK90 _ _ ?_)
          refine wpF_false (show _ = (.bool (false) : Value) from T31) ?_
          refine wpF_skip ?_
          refine thenF_normal (hK89 _ _ ?_)
          refine wpF_text ?_
          refine opsF_step rfl (YieldsK.move (show _ = (.int .i64 ((i : Nat) : Int) : Value) from T6) ?_)    -- leb.go:115 t33 := (Op.move (Operand.tmp 6))
          refine opsF_step rfl (YieldsK.move (show _ = (.int .i64 ((k1 : Nat) : Int) : Value) from T7) ?_)    -- leb.go:115 t34 := (Op.move (Operand.tmp 7))
          refine opsF_step rfl (YieldsK.bin (xv := .int .i64 ((k1 : Nat) : Int)) (yv := .int .u64 ((4 : Nat) : Int)) (show _ = (.int .i64 ((k1 : Nat) : Int) : Value) from rfl) (show _ = (.int .u64 ((4 : Nat) : Int) : Value) from rfl) rfl (i64_shl _ (k1) _ (4) (by omega) (by omega)) ?_)    -- leb.go:115 t35 := (Op.binOp BinOp.shl 3 (Operand.tmp 34) (Operand.const (Value.int IntKind.u64 4)) 53)
          refine opsF_step rfl (YieldsK.move (show _ = (.int .i64 ((k2 : Nat) : Int) : Value) from T8) ?_)    -- leb.go:115 t36 := (Op.move (Operand.tmp 8))
          refine opsF_step rfl (YieldsK.bin (xv := .int .i64 (((k1) * 2 ^ (4) : Nat) : Int)) (yv := .int .i64 ((k2 : Nat) : Int)) (show _ = (.int .i64 (((k1) * 2 ^ (4) : Nat) : Int) : Value) from rfl) (show _ = (.int .i64 ((k2 : Nat) : Int) : Value) from rfl) rfl (i64_or _ ((k1) * 2 ^ (4)) (k2) (by omega) (by omega)) ?_)    -- leb.go:115 t37 := (Op.binOp BinOp.or 3 (Operand.tmp 35) (Operand.tmp 36) 3)
          refine opsF_step rfl (YieldsK.convI leb8_ty3 leb8_ty5 (show _ = (.int .i64 ((((k1) * 2 ^ (4)) ||| (k2) : Nat) : Int) : Value) from rfl) (toByte (((k1) * 2 ^ (4)) ||| (k2))) ?_)    -- leb.go:115 t38 := (Op.convert 3 5 (Operand.tmp 37))
          refine opsF_step rfl (YieldsK.atArr0 (i := i) leb8_ty33 leb8_sz5 (show _ = (.pointer (some ⟨n24, 0, none⟩) : Value) from T4) (show _ = (.int .i64 ((i : Nat) : Int) : Value) from rfl) (by omega) ?_)    -- leb.go:115 t39 := (Op.indexAddr 33 (Operand.tmp 4) (Operand.tmp 33))
          refine opsF_step rfl (YieldsK.storeB8 (i := i) (v := UInt8.ofNat (((k1) * 2 ^ (4)) ||| (k2))) (show _ = (.pointer (some ⟨n24, i, none⟩) : Value) from rfl) (show _ = (B8 (UInt8.ofNat (((k1) * 2 ^ (4)) ||| (k2))) : Value) from rfl) hb37l (by rw [hpl]; omega) leb8_isz5 fun w92 hb93 hg94 hs95 => ?_)    -- leb.go:115 tNone := (Op.store 5 (Operand.tmp 39) (Operand.tmp 38))
          have hE : Ext w w92 := row_fresh hE hg94 (Nat.le_trans hz33 (by omega))
          have hb8 : w92.heap[n2]? = some (.cells (([.string ⟨(s).toArray⟩] : List Value)).toArray 9 (0, 0)) := (hg94.block _ (Array.getElem?_eq_some_iff.1 hb8).1 (by simp; omega)).trans hb8
          have hA16 : Ext w3 w92 := row_fresh hA16 hg94 (Nat.le_trans hz34 (by omega))
          have hb20 : w92.heap[n10]? = some (.cells (Lib.byteCells (List.replicate 32 0)).toArray 33 (0, 0)) := (hg94.block _ (Array.getElem?_eq_some_iff.1 hb20).1 (by simp; omega)).trans hb20
          have hA30 : Ext w11 w92 := row_fresh hA30 hg94 (Nat.le_trans (Nat.le_refl _) (by omega))
          clear hb37l
          have hb37l := hb93; clear hb93
          have hl96 : n24 < w92.heap.size := (Array.getElem?_eq_some_iff.1 hb37l).1
          refine opsF_end (fun ρ => ρ 0 = (.string ⟨(s).toArray⟩ : Value) ∧ ρ 1 = (.pointer (some ⟨n2, 0, none⟩) : Value) ∧ ρ 2 = (.pointer (some ⟨n10, 0, none⟩) : Value) ∧ ρ 4 = (.pointer (some ⟨n24, 0, none⟩) : Value) ∧ ρ 5 = (.func (.func 25) #[] #[.pointer (some ⟨n2, 0, none⟩)] : Value) ∧ ρ 6 = (.int .i64 ((i : Nat) : Int) : Value) ∧ ρ 7 = (.int .i64 ((k1 : Nat) : Int) : Value) ∧ ρ 8 = (.int .i64 ((k2 : Nat) : Int) : Value) ∧ ρ 14 = (.int .i64 ((i : Nat) : Int) : Value) ∧ ρ 31 = (.bool (false) : Value) ∧ True) ⟨T0, T1, T2, T4, T5, T6, T7, T8, T14, T31, trivial⟩ fun ρ97 ⟨T0, T1, T2, T4, T5, T6, T7, T8, T14, T31, _⟩ => ?_
          refine inBlockF_normal ?_
          refine thenF_normal (hK60 _ _ ?_)
          refine wpF_text ?_
          refine opsF_step rfl (YieldsK.bin (xv := .int .i64 ((i : Nat) : Int)) (yv := .int .i64 ((1 : Nat) : Int)) (show _ = (.int .i64 ((i : Nat) : Int) : Value) from T14) (show _ = (.int .i64 ((1 : Nat) : Int) : Value) from rfl) rfl (i64_add _ (i) (1) (by omega)) ?_)    -- leb.go:110 t40 := (Op.binOp BinOp.add 3 (Operand.tmp 14) (Operand.const (Value.int IntKind.i64 1)) 3)
          refine opsF_step rfl (YieldsK.move (show _ = (.int .i64 (((i) + (1) : Nat) : Int) : Value) from rfl) ?_)    -- leb.go:110 t14 := (Op.move (Operand.tmp 40))
          refine opsF_end (fun ρ => ρ 0 = (.string ⟨(s).toArray⟩ : Value) ∧ ρ 1 = (.pointer (some ⟨n2, 0, none⟩) : Value) ∧ ρ 2 = (.pointer (some ⟨n10, 0, none⟩) : Value) ∧ ρ 4 = (.pointer (some ⟨n24, 0, none⟩) : Value) ∧ ρ 5 = (.func (.func 25) #[] #[.pointer (some ⟨n2, 0, none⟩)] : Value) ∧ ρ 6 = (.int .i64 ((i : Nat) : Int) : Value) ∧ ρ 7 = (.int .i64 ((k1 : Nat) : Int) : Value) ∧ ρ 8 = (.int .i64 ((k2 : Nat) : Int) : Value) ∧ ρ 14 = (.int .i64 (((i) + (1) : Nat) : Int) : Value) ∧ ρ 31 = (.bool (false) : Value) ∧ True) ⟨T0, T1, T2, T4, T5, T6, T7, T8, rfl, T31, trivial⟩ fun ρ98 ⟨T0, T1, T2, T4, T5, T6, T7, T8, T14, T31, _⟩ => ?_
          refine thenF_normal (And.intro ⟨i + 1, T0, T1, T2, T4, T5, T14, hE, hb8, hA16, hb20, hA30, blk_eq hb37l (congrArg Lib.byteCells (by rw [← pre_step s i (by omega), byteAt_or hd1 hd2 hk2])), by omega, ok_next hall hd1 hd2, trivial⟩ ?_)
          show 32 - (intOf (ρ98 14)).toNat < 32 - (intOf (ρ55 14)).toNat
          rw [T14, q14]
          simp only [intOf, Int.toNat_natCast]; omega
    · have hi32 : i = 32 := by omega
      have hun : unhex s = (pre s i, true) := by rw [hi32, pre_all]; exact unhex_yes hs64 (fun j hj => hall j (by omega))
      refine wpF_exit (thenF_exit (thenF_exit (inBlockF_hit ?_)))
      refine thenF_normal (hK52 _ _ ?_)
      refine wpF_seq_k fun K99 hK99 => ?_
      refine wpF_text ?_
      refine opsF_step rfl (YieldsK.loadAll (show _ = (.pointer (some ⟨n24, 0, none⟩) : Value) from T4) hb37l leb8_ty33 rfl (by rw [List.size_toArray, Lib.byteCells_length, pre_length _ _ (by omega)]; exact leb8_isz33) ?_)    -- leb.go:117 t41 := (Op.load 33 (Operand.tmp 4))
      refine opsF_step rfl (YieldsK.storeAll (show _ = (.pointer (some ⟨n10, 0, none⟩) : Value) from T2) (show _ = (.agg (Lib.byteCells (pre s i)).toArray : Value) from rfl) hb20 (by first | rfl | (rw [List.size_toArray, Lib.byteCells_length, pre_length _ _ (by omega)];  rfl)) (by rw [List.size_toArray, Lib.byteCells_length, pre_length _ _ (by omega)]; exact leb8_isz33) (byteCells_one _) fun w100 hb101 hg102 hs103 => ?_)    -- leb.go:117 tNone := (Op.store 33 (Operand.tmp 2) (Operand.tmp 41))
      have hE : Ext w w100 := row_fresh hE hg102 (Nat.le_trans hz18 (by omega))
      have hb8 : w100.heap[n2]? = some (.cells (([.string ⟨(s).toArray⟩] : List Value)).toArray 9 (0, 0)) := (hg102.block _ (Array.getElem?_eq_some_iff.1 hb8).1 (by simp; omega)).trans hb8
      have hA16 : Ext w3 w100 := row_fresh hA16 hg102 (Nat.le_trans (Nat.le_refl _) (by omega))
      clear hb20
      clear hA30
      have hb37l : w100.heap[n24]? = some (.cells (Lib.byteCells (pre s i)).toArray 33 (0, 0)) := (hg102.block _ (Array.getElem?_eq_some_iff.1 hb37l).1 (by simp; omega)).trans hb37l
      have hb20 := hb101; clear hb101
      have hl104 : n10 < w100.heap.size := (Array.getElem?_eq_some_iff.1 hb20).1
      refine opsF_step rfl (YieldsK.assign (show _ = (.bool (true) : Value) from rfl) ?_)    -- leb.go:117 t3 := (Op.assign (Operand.const (Value.bool true)))
      refine opsF_end (fun ρ => ρ 0 = (.string ⟨(s).toArray⟩ : Value) ∧ ρ 1 = (.pointer (some ⟨n2, 0, none⟩) : Value) ∧ ρ 2 = (.pointer (some ⟨n10, 0, none⟩) : Value) ∧ ρ 3 = (.bool (true) : Value) ∧ ρ 4 = (.pointer (some ⟨n24, 0, none⟩) : Value) ∧ ρ 5 = (.func (.func 25) #[] #[.pointer (some ⟨n2, 0, none⟩)] : Value) ∧ ρ 14 = (.int .i64 ((i : Nat) : Int) : Value) ∧ True) ⟨T0, T1, T2, rfl, T4, T5, T14, trivial⟩ fun ρ105 ⟨T0, T1, T2, T3, T4, T5, T14, _⟩ => ?_
      refine thenF_normal (hK99 _ _ ?_)
      refine wpF_ret ?_
      refine postF_ret (fn := Try.f17) _ rfl [.agg (Lib.byteCells (pre s i)).toArray, .bool (true)] (.tuple #[.agg (Lib.byteCells (pre s i)).toArray, .bool (true)]) rfl ⟨ResF.row T2 hb20 leb8_ty33 rfl (by rw [List.size_toArray, Lib.byteCells_length]; first | (rw [List.length_replicate]; exact leb8_isz33) | (rw [pre_length _ _ (by omega)]; exact leb8_isz33)), T3, trivial⟩ ?_
      refine ⟨?_, hE⟩
      rw [hun]

theorem refUnhex_any (w : World) (s : List UInt8) (hs : s.length ≤ 9223372036854775807) :
    Calls Try.prog 18 #[St s] w fun e w' => e = .returned (.tuple #[.agg (Lib.byteCells (unhex s).1).toArray, .bool (unhex s).2]) ∧ Ext w w' := by
  refine calls_of_wpF (args := [.string ⟨(s).toArray⟩]) Try.func18 rfl 42 rfl (Nat.le_of_ble_eq_true rfl) ?_
  intro ρ0 hb
  have T0 : ρ0 0 = (.string ⟨(s).toArray⟩ : Value) := hb.get 0
  clear hb
  have hE := Ext.refl w
  refine wpF_seq_k fun K1 hK1 => ?_
  refine wpF_text ?_
  refine opsF_step rfl (YieldsK.alloc (cs := (Lib.byteCells (List.replicate 32 0)).toArray) leb8_al33 fun n2 w3 hn4 hb5 hx6 hs7 => ?_)    -- ref.go:99 t2 := (Op.alloc 33)
  have hE : Ext w w3 := (hE.trans hx6)
  have hb8 := hb5; clear hb5
  have hl9 : n2 < w3.heap.size := by omega
  refine opsF_step rfl (YieldsK.assign (show _ = (.bool (false) : Value) from rfl) ?_)    -- ref.go:99 t3 := (Op.assign (Operand.const (Value.bool false)))
  refine opsF_end (fun ρ => ρ 0 = (.string ⟨(s).toArray⟩ : Value) ∧ ρ 2 = (.pointer (some ⟨n2, 0, none⟩) : Value) ∧ ρ 3 = (.bool (false) : Value) ∧ True) ⟨T0, rfl, rfl, trivial⟩ fun ρ10 ⟨T0, T2, T3, _⟩ => ?_
  refine thenF_normal (hK1 _ _ ?_)
  refine wpF_seq_k fun K11 hK11 => ?_
  refine wpF_text ?_
  refine opsF_step rfl (YieldsK.alloc (cs := (Lib.byteCells (List.replicate 32 0)).toArray) leb8_al33 fun n12 w13 hn14 hb15 hx16 hs17 => ?_)    -- ref.go:100 t4 := (Op.alloc 33)
  have hA18 := Ext.refl w3
  have hea19 := hE
  have hz20 : w.heap.size ≤ w3.heap.size := hE.size
  have hlt21 : n2 < n12 := by have := (Array.getElem?_eq_some_iff.1 hb8).1; omega
  have hE : Ext w w13 := (hE.trans hx16)
  have hb8 : w13.heap[n2]? = some (.cells (Lib.byteCells (List.replicate 32 0)).toArray 33 (0, 0)) := (Ext.blk' hx16 hb8)
  have hA18 : Ext w3 w13 := (hA18.trans hx16)
  have hb22 := hb15; clear hb15
  have hl23 : n12 < w13.heap.size := by omega
  refine opsF_end (fun ρ => ρ 0 = (.string ⟨(s).toArray⟩ : Value) ∧ ρ 2 = (.pointer (some ⟨n2, 0, none⟩) : Value) ∧ ρ 3 = (.bool (false) : Value) ∧ ρ 4 = (.pointer (some ⟨n12, 0, none⟩) : Value) ∧ True) ⟨T0, T2, T3, rfl, trivial⟩ fun ρ24 ⟨T0, T2, T3, T4, _⟩ => ?_
  refine thenF_normal (hK11 _ _ ?_)
  refine wpF_seq_k fun K25 hK25 => ?_
  refine wpF_seq_k fun K26 hK26 => ?_
  refine wpF_text ?_
  refine opsF_step rfl (YieldsK.move (show _ = (.string ⟨(s).toArray⟩ : Value) from T0) ?_)    -- ref.go:101 t8 := (Op.move (Operand.tmp 0))
  refine opsF_step rfl (YieldsK.lenSt (l := s) leb8_ty9 (show _ = (.string ⟨(s).toArray⟩ : Value) from rfl) ?_)    -- ref.go:101 t9 := (Op.call { callee := (Callee.builtin Builtin.len), args := #[(Operand.tmp 8)], argTypes := #[9] })
  refine opsF_step rfl (YieldsK.eqI (a := ((s.length : Nat) : Int)) (b := ((64 : Nat) : Int)) (show _ = (.int .i64 ((s.length : Nat) : Int) : Value) from rfl) (show _ = (.int .i64 ((64 : Nat) : Int) : Value) from rfl) (k_neq _ .i64 (s.length) (64)) ?_)    -- ref.go:101 t10 := (Op.binOp BinOp.neq 3 (Operand.tmp 9) (Operand.const (Value.int IntKind.i64 64)) 3)
  refine opsF_end (fun ρ => ρ 0 = (.string ⟨(s).toArray⟩ : Value) ∧ ρ 2 = (.pointer (some ⟨n2, 0, none⟩) : Value) ∧ ρ 3 = (.bool (false) : Value) ∧ ρ 4 = (.pointer (some ⟨n12, 0, none⟩) : Value) ∧ ρ 10 = (.bool (decide ((s.length : Nat) ≠ (64))) : Value) ∧ True) ⟨T0, T2, T3, T4, rfl, trivial⟩ fun ρ27 ⟨T0, T2, T3, T4, T10, _⟩ => ?_
  refine thenF_normal (hK26 _ _ ?_)
  refine wpF_cond ((s.length : Nat) ≠ (64)) (show _ = (.bool (decide ((s.length : Nat) ≠ (64))) : Value) from T10) (fun h64 => ?_) (fun h64 => ?_)
  · have hun := unhex_no (s := s) (fun h => h64 h.1)
    refine wpF_seq_k fun K28 hK28 => ?_
    refine wpF_text ?_
    refine opsF_step rfl (YieldsK.loadAll (show _ = (.pointer (some ⟨n12, 0, none⟩) : Value) from T4) hb22 leb8_ty33 rfl (by rw [List.size_toArray, Lib.byteCells_length, List.length_replicate]; exact leb8_isz33) ?_)    -- ref.go:102 t11 := (Op.load 33 (Operand.tmp 4))
    refine opsF_step rfl (YieldsK.storeAll (show _ = (.pointer (some ⟨n2, 0, none⟩) : Value) from T2) (show _ = (.agg (Lib.byteCells (List.replicate 32 0)).toArray : Value) from rfl) hb8 (by first | rfl | (rw [List.size_toArray, Lib.byteCells_length, List.length_replicate];  rfl)) (by rw [List.size_toArray, Lib.byteCells_length, List.length_replicate]; exact leb8_isz33) (byteCells_one _) fun w29 hb30 hg31 hs32 => ?_)    -- ref.go:102 tNone := (Op.store 33 (Operand.tmp 2) (Operand.tmp 11))
    have hE : Ext w w29 := row_fresh hE hg31 (Nat.le_trans (Nat.le_refl _) (by omega))
    clear hb8
    clear hA18
    have hb22 : w29.heap[n12]? = some (.cells (Lib.byteCells (List.replicate 32 0)).toArray 33 (0, 0)) := (hg31.block _ (Array.getElem?_eq_some_iff.1 hb22).1 (by simp; omega)).trans hb22
    have hb8 := hb30; clear hb30
    have hl33 : n2 < w29.heap.size := (Array.getElem?_eq_some_iff.1 hb8).1
    refine opsF_step rfl (YieldsK.assign (show _ = (.bool (false) : Value) from rfl) ?_)    -- ref.go:102 t3 := (Op.assign (Operand.const (Value.bool false)))
    refine opsF_end (fun ρ => ρ 0 = (.string ⟨(s).toArray⟩ : Value) ∧ ρ 2 = (.pointer (some ⟨n2, 0, none⟩) : Value) ∧ ρ 3 = (.bool (false) : Value) ∧ ρ 4 = (.pointer (some ⟨n12, 0, none⟩) : Value) ∧ True) ⟨T0, T2, rfl, T4, trivial⟩ fun ρ34 ⟨T0, T2, T3, T4, _⟩ => ?_
    refine thenF_normal (hK28 _ _ ?_)
    refine wpF_ret (thenF_ret ?_)
    refine postF_ret (fn := Try.f18) _ rfl [.agg (Lib.byteCells (List.replicate 32 0)).toArray, .bool (false)] (.tuple #[.agg (Lib.byteCells (List.replicate 32 0)).toArray, .bool (false)]) rfl ⟨ResF.row T2 hb8 leb8_ty33 rfl (by rw [List.size_toArray, Lib.byteCells_length]; first | (rw [List.length_replicate]; exact leb8_isz33) | (rw [pre_length _ _ (by omega)]; exact leb8_isz33)), T3, trivial⟩ ?_
    refine ⟨?_, hE⟩
    rw [hun]
  · have hs64 : s.length = 64 := by omega
    refine wpF_skip ?_
    refine thenF_normal (hK25 _ _ ?_)
    refine wpF_seq_k fun K35 hK35 => ?_
    refine wpF_seq_k fun K36 hK36 => ?_
    refine wpF_text ?_
    refine opsF_step rfl (YieldsK.assign (show _ = (.int .i64 ((0 : Nat) : Int) : Value) from rfl) ?_)    -- ref.go:104 t5 := (Op.assign (Operand.const (Value.int IntKind.i64 0)))
    refine opsF_end (fun ρ => ρ 0 = (.string ⟨(s).toArray⟩ : Value) ∧ ρ 2 = (.pointer (some ⟨n2, 0, none⟩) : Value) ∧ ρ 3 = (.bool (false) : Value) ∧ ρ 4 = (.pointer (some ⟨n12, 0, none⟩) : Value) ∧ ρ 5 = (.int .i64 ((0 : Nat) : Int) : Value) ∧ True) ⟨T0, T2, T3, T4, rfl, trivial⟩ fun ρ37 ⟨T0, T2, T3, T4, T5, _⟩ => ?_
    refine thenF_normal (hK36 _ _ ?_)
    refine wpF_block ?_
    refine wpF_loop (fun (ρ : Slots) (wz : World) => ∃ i : Nat, ρ 0 = (.string ⟨(s).toArray⟩ : Value) ∧ ρ 2 = (.pointer (some ⟨n2, 0, none⟩) : Value) ∧ ρ 4 = (.pointer (some ⟨n12, 0, none⟩) : Value) ∧ ρ 5 = (.int .i64 ((i : Nat) : Int) : Value) ∧ Ext w wz ∧ wz.heap[n2]? = some (.cells (Lib.byteCells (List.replicate 32 0)).toArray 33 (0, 0)) ∧ Ext w3 wz ∧ wz.heap[n12]? = some (.cells (Lib.byteCells (pre s i)).toArray 33 (0, 0)) ∧ (i ≤ 32) ∧ (∀ j, j < i → okAt s j = true) ∧ True) (fun ρ _ => 32 - (intOf (ρ 5)).toNat) ⟨0, T0, T2, T4, T5, hE, hb8, hA18, blk_eq hb22 (rfl), Nat.zero_le _, fun j hj => by omega, trivial⟩ ?_
    clear hb22
    clear hE hb8 hA18
    rintro ρ38 w39 ⟨i, T0, T2, T4, T5, hE, hb8, hA18, hb22l, hi, hall, -⟩
    have q5 := T5
    have hpl := pre_length s i hi
    refine wpF_seq_k fun K40 hK40 => ?_
    refine wpF_seq_k fun K41 hK41 => ?_
    refine wpF_text ?_
    refine opsF_step rfl (YieldsK.move (show _ = (.int .i64 ((i : Nat) : Int) : Value) from T5) ?_)    -- ref.go:104 t12 := (Op.move (Operand.tmp 5))
    refine opsF_step rfl (YieldsK.eqI (a := ((i : Nat) : Int)) (b := ((32 : Nat) : Int)) (show _ = (.int .i64 ((i : Nat) : Int) : Value) from rfl) (show _ = (.int .i64 ((32 : Nat) : Int) : Value) from rfl) (k_lss _ .i64 (i) (32)) ?_)    -- ref.go:104 t13 := (Op.binOp BinOp.lss 3 (Operand.tmp 12) (Operand.const (Value.int IntKind.i64 32)) 3)
    refine opsF_end (fun ρ => ρ 0 = (.string ⟨(s).toArray⟩ : Value) ∧ ρ 2 = (.pointer (some ⟨n2, 0, none⟩) : Value) ∧ ρ 4 = (.pointer (some ⟨n12, 0, none⟩) : Value) ∧ ρ 5 = (.int .i64 ((i : Nat) : Int) : Value) ∧ ρ 13 = (.bool (decide ((i) < (32))) : Value) ∧ True) ⟨T0, T2, T4, T5, rfl, trivial⟩ fun ρ42 ⟨T0, T2, T4, T5, T13, _⟩ => ?_
    refine thenF_normal (hK41 _ _ ?_)
    refine wpF_cond ((i) < (32)) (show _ = (.bool (decide ((i) < (32))) : Value) from T13) (fun hc1 => ?_) (fun hc1 => ?_)
    · refine wpF_skip ?_
      refine thenF_normal (hK40 _ _ ?_)
      refine wpF_seq_k fun K43 hK43 => ?_
      refine wpF_block ?_
      refine wpF_seq_k fun K44 hK44 => ?_
      refine wpF_draw [Is (.string ⟨(s).toArray⟩), Is (.int .i64 ((i : Nat) : Int)), Is (.int .i64 (((2) * (i) : Nat) : Int)), Is (B8 (s.getD ((2) * (i)) 0)), Is (.int .i64 (dgI (s.getD (2 * i) 0) : Int)), Is (.string ⟨(s).toArray⟩), Is (.int .i64 ((i : Nat) : Int)), Is (.int .i64 (((2) * (i) : Nat) : Int)), Is (.int .i64 ((((2) * (i)) + (1) : Nat) : Int)), Is (B8 (s.getD (((2) * (i)) + (1)) 0)), Is (.int .i64 (dgI (s.getD (2 * i + 1) 0) : Int)), Is (.int .i64 (dgI (s.getD (2 * i) 0) : Int)), Is (.int .i64 (dgI (s.getD (2 * i + 1) 0) : Int))] (by kernel_rfl) [16, 17, 18, 19, 20, 21, 22, 23, 24, 25, 26, 6, 7] (by kernel_rfl) (by kernel_rfl) ⟨Stab.is _, Stab.is _, Stab.is _, Stab.is _, Stab.is _, Stab.is _, Stab.is _, Stab.is _, Stab.is _, Stab.is _, Stab.is _, Stab.is _, Stab.is _, trivial⟩ ?hs7 ?hQ7
      case hs7 =>
        refine ⟨?_, ?_, ?_, ?_, ?_, ?_, ?_, ?_, ?_, ?_, ?_, ?_, ?_, trivial⟩
        · refine stepN rfl fun σ w1 hC h => ?_    -- t16 := (Op.move (Operand.tmp 0))
          have e0 : σ 0 = .string ⟨(s).toArray⟩ := (show _ = _ from h 0 (by decide)).trans T0
          exact YieldsK.move e0 ⟨Ext.refl _, rfl⟩
        · refine stepN rfl fun σ w1 hC h => ?_    -- t17 := (Op.move (Operand.tmp 5))
          have e5 : σ 5 = .int .i64 ((i : Nat) : Int) := (show _ = _ from h 5 (by decide)).trans T5
          exact YieldsK.move e5 ⟨Ext.refl _, rfl⟩
        · refine stepN rfl fun σ w1 hC h => ?_    -- t18 := (Op.binOp BinOp.mul 3 (Operand.const (Value.int IntKind.i64 2)) (Operand.tmp 17) 3)
          have e17 : σ 17 = .int .i64 ((i : Nat) : Int) := h 17 (by decide)
          exact YieldsK.bin (xv := .int .i64 ((2 : Nat) : Int)) (yv := .int .i64 ((i : Nat) : Int)) (show _ = (.int .i64 ((2 : Nat) : Int) : Value) from rfl) e17 rfl (i64_mul _ (2) (i) (by omega)) ⟨Ext.refl _, rfl⟩
        · refine stepN rfl fun σ w1 hC h => ?_    -- t19 := (Op.index 9 (Operand.tmp 16) (Operand.tmp 18))
          have e16 : σ 16 = .string ⟨(s).toArray⟩ := h 16 (by decide)
          have e18 : σ 18 = .int .i64 (((2) * (i) : Nat) : Int) := h 18 (by decide)
          exact YieldsK.idxSt (l := s) (i := (2) * (i)) leb8_ty9 e16 e18 (by omega) ⟨Ext.refl _, rfl⟩
        · refine stepN rfl fun σ w1 hC h => ?_    -- t20 := (Op.call { callee := (Callee.value (Operand.func 27)), args := #[(Operand.tmp 19)], argTypes := #[5] })
          have e19 : σ 19 = B8 (s.getD ((2) * (i)) 0) := h 19 (by decide)
          refine YieldsK.callA1 leb8_pl27 e19 ?_
          refine (refDigit_any _ (s.getD ((2) * (i)) 0)).mono ?_
          rintro e w2 ⟨rfl, hx⟩
          exact ⟨_, rfl, hx, rfl⟩
        · refine stepN rfl fun σ w1 hC h => ?_    -- t21 := (Op.move (Operand.tmp 0))
          have e0 : σ 0 = .string ⟨(s).toArray⟩ := (show _ = _ from h 0 (by decide)).trans T0
          exact YieldsK.move e0 ⟨Ext.refl _, rfl⟩
        · refine stepN rfl fun σ w1 hC h => ?_    -- t22 := (Op.move (Operand.tmp 5))
          have e5 : σ 5 = .int .i64 ((i : Nat) : Int) := (show _ = _ from h 5 (by decide)).trans T5
          exact YieldsK.move e5 ⟨Ext.refl _, rfl⟩
        · refine stepN rfl fun σ w1 hC h => ?_    -- t23 := (Op.binOp BinOp.mul 3 (Operand.const (Value.int IntKind.i64 2)) (Operand.tmp 22) 3)
          have e22 : σ 22 = .int .i64 ((i : Nat) : Int) := h 22 (by decide)
          exact YieldsK.bin (xv := .int .i64 ((2 : Nat) : Int)) (yv := .int .i64 ((i : Nat) : Int)) (show _ = (.int .i64 ((2 : Nat) : Int) : Value) from rfl) e22 rfl (i64_mul _ (2) (i) (by omega)) ⟨Ext.refl _, rfl⟩
        · refine stepN rfl fun σ w1 hC h => ?_    -- t24 := (Op.binOp BinOp.add 3 (Operand.tmp 23) (Operand.const (Value.int IntKind.i64 1)) 3)
          have e23 : σ 23 = .int .i64 (((2) * (i) : Nat) : Int) := h 23 (by decide)
          exact YieldsK.bin (xv := .int .i64 (((2) * (i) : Nat) : Int)) (yv := .int .i64 ((1 : Nat) : Int)) e23 (show _ = (.int .i64 ((1 : Nat) : Int) : Value) from rfl) rfl (i64_add _ ((2) * (i)) (1) (by omega)) ⟨Ext.refl _, rfl⟩
        · refine stepN rfl fun σ w1 hC h => ?_    -- t25 := (Op.index 9 (Operand.tmp 21) (Operand.tmp 24))
          have e21 : σ 21 = .string ⟨(s).toArray⟩ := h 21 (by decide)
          have e24 : σ 24 = .int .i64 ((((2) * (i)) + (1) : Nat) : Int) := h 24 (by decide)
          exact YieldsK.idxSt (l := s) (i := ((2) * (i)) + (1)) leb8_ty9 e21 e24 (by omega) ⟨Ext.refl _, rfl⟩
        · refine stepN rfl fun σ w1 hC h => ?_    -- t26 := (Op.call { callee := (Callee.value (Operand.func 27)), args := #[(Operand.tmp 25)], argTypes := #[5] })
          have e25 : σ 25 = B8 (s.getD (((2) * (i)) + (1)) 0) := h 25 (by decide)
          refine YieldsK.callA1 leb8_pl27 e25 ?_
          refine (refDigit_any _ (s.getD (((2) * (i)) + (1)) 0)).mono ?_
          rintro e w2 ⟨rfl, hx⟩
          exact ⟨_, rfl, hx, rfl⟩
        · refine stepN rfl fun σ w1 hC h => ?_    -- t6 := (Op.assign (Operand.tmp 20))
          have e20 : σ 20 = .int .i64 (dgI (s.getD (2 * i) 0) : Int) := h 20 (by decide)
          exact YieldsK.assign e20 ⟨Ext.refl _, rfl⟩
        · refine stepN rfl fun σ w1 hC h => ?_    -- t7 := (Op.assign (Operand.tmp 26))
          have e26 : σ 26 = .int .i64 (dgI (s.getD (2 * i + 1) 0) : Int) := h 26 (by decide)
          exact YieldsK.assign e26 ⟨Ext.refl _, rfl⟩
      intro ρ45 w46 hx47 he hf
      obtain ⟨-, -, -, -, -, -, -, -, -, -, -, k6, k7, -⟩ := hf
      have T0 : ρ45 0 = .string ⟨(s).toArray⟩ := he.at_ T0 rfl
      have T2 : ρ45 2 = .pointer (some ⟨n2, 0, none⟩) := he.at_ T2 rfl
      have T4 : ρ45 4 = .pointer (some ⟨n12, 0, none⟩) := he.at_ T4 rfl
      have T5 : ρ45 5 = .int .i64 ((i : Nat) : Int) := he.at_ T5 rfl
      clear he
      have hE : Ext w w46 := (hE.trans hx47)
      have hb8 : w46.heap[n2]? = some (.cells (Lib.byteCells (List.replicate 32 0)).toArray 33 (0, 0)) := (Ext.blk' hx47 hb8)
      have hA18 : Ext w3 w46 := (hA18.trans hx47)
      have hb22l : w46.heap[n12]? = some (.cells (Lib.byteCells (pre s i)).toArray 33 (0, 0)) := (Ext.blk' hx47 hb22l)
      have T6 : ρ45 6 = .int .i64 (dgI (s.getD (2 * i) 0) : Int) := k6
      have T7 : ρ45 7 = .int .i64 (dgI (s.getD (2 * i + 1) 0) : Int) := k7
      clear k6 k7
      obtain ⟨x1, hx1⟩ : ∃ x, x = dg (s.getD (2 * i) 0) := ⟨_, rfl⟩
      obtain ⟨x2, hx2⟩ : ∃ x, x = dg (s.getD (2 * i + 1) 0) := ⟨_, rfl⟩
      rcases x1 with _ | k1
      · have hno : okAt s i = false := by unfold okAt; rw [← hx1]; rfl
        have T6 := T6.trans (show Value.int .i64 (dgI (s.getD (2 * i) 0)) = .int .i64 (-1) by unfold dgI; rw [← hx1])
        refine thenF_normal (hK44 _ _ ?_)
        refine wpF_seq_k fun K48 hK48 => ?_
        refine wpF_seq_k fun K49 hK49 => ?_
        refine wpF_text ?_
        refine opsF_step rfl (YieldsK.move (show _ = (.int .i64 (-1 : Int) : Value) from T6) ?_)    -- ref.go:106 t27 := (Op.move (Operand.tmp 6))
        refine opsF_step rfl (YieldsK.eqI (show _ = (.int .i64 (-1 : Int) : Value) from rfl) (show _ = (.int .i64 ((0 : Nat) : Int) : Value) from rfl) (z_lss _ .i64 (-1 : Int) ((0 : Nat) : Int)) ?_)    -- ref.go:106 t28 := (Op.binOp BinOp.lss 3 (Operand.tmp 27) (Operand.const (Value.int IntKind.i64 0)) 3)
        refine opsF_step rfl (YieldsK.move (show _ = (.bool (true) : Value) from (congrArg Value.bool (decide_eq_true (by decide)))) ?_)    -- ref.go:106 t29 := (Op.move (Operand.tmp 28))
        refine opsF_off (d := 29) rfl rfl rfl (show _ = (.bool (true) : Value) from rfl) rfl ?_    -- ref.go:106 t30 := (Op.move (Operand.tmp 7))
        refine opsF_off (d := 29) rfl rfl rfl (show _ = (.bool (true) : Value) from rfl) rfl ?_    -- ref.go:106 t31 := (Op.binOp BinOp.lss 3 (Operand.tmp 30) (Operand.const (Value.int IntKind.i64 0)) 3)
        refine opsF_step rfl (YieldsK.pickT (show _ = (.bool (true) : Value) from rfl) (show _ = (.bool (true) : Value) from rfl) ?_)    -- ref.go:106 t32 := (Op.pick (Operand.tmp 29) (Operand.const (Value.bool true)) (Operand.tmp 31))
        refine opsF_end (fun ρ => ρ 0 = (.string ⟨(s).toArray⟩ : Value) ∧ ρ 2 = (.pointer (some ⟨n2, 0, none⟩) : Value) ∧ ρ 4 = (.pointer (some ⟨n12, 0, none⟩) : Value) ∧ ρ 5 = (.int .i64 ((i : Nat) : Int) : Value) ∧ ρ 6 = (.int .i64 (-1 : Int) : Value) ∧ ρ 7 = (.int .i64 (dgI (s.getD (2 * i + 1) 0) : Int) : Value) ∧ ρ 32 = (.bool (true) : Value) ∧ True) ⟨T0, T2, T4, T5, T6, T7, rfl, trivial⟩ fun ρ50 ⟨T0, T2, T4, T5, T6, T7, T32, _⟩ => ?_
        refine thenF_normal (hK49 _ _ ?_)
        refine wpF_true (show _ = (.bool (true) : Value) from T32) ?_
        refine wpF_seq_k fun K51 hK51 => ?_
        refine wpF_text ?_
        refine opsF_step rfl (YieldsK.run (v := .agg (Lib.byteCells (List.replicate 32 0)).toArray) (by kernel_rfl) ?_)    -- ref.go:107 t33 := (Op.build 33 #[])
        refine opsF_step rfl (YieldsK.storeAll (show _ = (.pointer (some ⟨n2, 0, none⟩) : Value) from T2) (show _ = (.agg (Lib.byteCells (List.replicate 32 0)).toArray : Value) from rfl) hb8 (by first | rfl | (rw [List.size_toArray, Lib.byteCells_length, List.length_replicate];  rfl)) (by rw [List.size_toArray, Lib.byteCells_length, List.length_replicate]; exact leb8_isz33) (byteCells_one _) fun w52 hb53 hg54 hs55 => ?_)    -- ref.go:107 tNone := (Op.store 33 (Operand.tmp 2) (Operand.tmp 33))
        have hE : Ext w w52 := row_fresh hE hg54 (Nat.le_trans (Nat.le_refl _) (by omega))
        clear hb8
        clear hA18
        have hb22l : w52.heap[n12]? = some (.cells (Lib.byteCells (pre s i)).toArray 33 (0, 0)) := (hg54.block _ (Array.getElem?_eq_some_iff.1 hb22l).1 (by simp; omega)).trans hb22l
        have hb8 := hb53; clear hb53
        have hl56 : n2 < w52.heap.size := (Array.getElem?_eq_some_iff.1 hb8).1
        refine opsF_step rfl (YieldsK.assign (show _ = (.bool (false) : Value) from rfl) ?_)    -- ref.go:107 t3 := (Op.assign (Operand.const (Value.bool false)))
        refine opsF_end (fun ρ => ρ 0 = (.string ⟨(s).toArray⟩ : Value) ∧ ρ 2 = (.pointer (some ⟨n2, 0, none⟩) : Value) ∧ ρ 3 = (.bool (false) : Value) ∧ ρ 4 = (.pointer (some ⟨n12, 0, none⟩) : Value) ∧ ρ 5 = (.int .i64 ((i : Nat) : Int) : Value) ∧ ρ 6 = (.int .i64 (-1 : Int) : Value) ∧ ρ 7 = (.int .i64 (dgI (s.getD (2 * i + 1) 0) : Int) : Value) ∧ ρ 32 = (.bool (true) : Value) ∧ True) ⟨T0, T2, rfl, T4, T5, T6, T7, T32, trivial⟩ fun ρ57 ⟨T0, T2, T3, T4, T5, T6, T7, T32, _⟩ => ?_
        have hun := unhex_no (s := s) (fun h => by have := List.all_eq_true.1 h.2 i (by simp; omega); rw [hno] at this; cases this)
        refine thenF_normal (hK51 _ _ ?_)
        refine wpF_ret (thenF_ret (inBlockF_ret (thenF_ret (thenF_ret (inBlockF_ret (thenF_ret ?_))))))
        refine postF_ret (fn := Try.f18) _ rfl [.agg (Lib.byteCells (List.replicate 32 0)).toArray, .bool (false)] (.tuple #[.agg (Lib.byteCells (List.replicate 32 0)).toArray, .bool (false)]) rfl ⟨ResF.row T2 hb8 leb8_ty33 rfl (by rw [List.size_toArray, Lib.byteCells_length]; first | (rw [List.length_replicate]; exact leb8_isz33) | (rw [pre_length _ _ (by omega)]; exact leb8_isz33)), T3, trivial⟩ ?_
        refine ⟨?_, hE⟩
        rw [hun]
      · have hd1 := hx1.symm
        have hk1 := dg_lt hd1
        have T6 := T6.trans (show Value.int .i64 (dgI (s.getD (2 * i) 0)) = .int .i64 ((k1 : Nat) : Int) by unfold dgI; rw [← hx1])
        rcases x2 with _ | k2
        · have hno : okAt s i = false := by unfold okAt; rw [← hx2]; simp
          have T7 := T7.trans (show Value.int .i64 (dgI (s.getD (2 * i + 1) 0)) = .int .i64 (-1) by unfold dgI; rw [← hx2])
          refine thenF_normal (hK44 _ _ ?_)
          refine wpF_seq_k fun K58 hK58 => ?_
          refine wpF_seq_k fun K59 hK59 => ?_
          refine wpF_text ?_
          refine opsF_step rfl (YieldsK.move (show _ = (.int .i64 ((k1 : Nat) : Int) : Value) from T6) ?_)    -- ref.go:106 t27 := (Op.move (Operand.tmp 6))
          refine opsF_step rfl (YieldsK.eqI (a := ((k1 : Nat) : Int)) (b := ((0 : Nat) : Int)) (show _ = (.int .i64 ((k1 : Nat) : Int) : Value) from rfl) (show _ = (.int .i64 ((0 : Nat) : Int) : Value) from rfl) (k_lss _ .i64 (k1) (0)) ?_)    -- ref.go:106 t28 := (Op.binOp BinOp.lss 3 (Operand.tmp 27) (Operand.const (Value.int IntKind.i64 0)) 3)
          refine opsF_step rfl (YieldsK.move (show _ = (.bool (false) : Value) from (congrArg Value.bool (decide_eq_false (by omega)))) ?_)    -- ref.go:106 t29 := (Op.move (Operand.tmp 28))
          refine opsF_on (d := 29) rfl rfl (show _ = (.bool (false) : Value) from rfl) (YieldsK.move (show _ = (.int .i64 (-1 : Int) : Value) from T7) ?_)    -- ref.go:106 t30 := (Op.move (Operand.tmp 7))
          refine opsF_on (d := 29) rfl rfl (show _ = (.bool (false) : Value) from rfl) (YieldsK.eqI (show _ = (.int .i64 (-1 : Int) : Value) from rfl) (show _ = (.int .i64 ((0 : Nat) : Int) : Value) from rfl) (z_lss _ .i64 (-1 : Int) ((0 : Nat) : Int)) ?_)    -- ref.go:106 t31 := (Op.binOp BinOp.lss 3 (Operand.tmp 30) (Operand.const (Value.int IntKind.i64 0)) 3)
          refine opsF_step rfl (YieldsK.pickF (show _ = (.bool (false) : Value) from rfl) (show _ = (.bool (true) : Value) from (congrArg Value.bool (decide_eq_true (by decide)))) ?_)    -- ref.go:106 t32 := (Op.pick (Operand.tmp 29) (Operand.const (Value.bool true)) (Operand.tmp 31))
          refine opsF_end (fun ρ => ρ 0 = (.string ⟨(s).toArray⟩ : Value) ∧ ρ 2 = (.pointer (some ⟨n2, 0, none⟩) : Value) ∧ ρ 4 = (.pointer (some ⟨n12, 0, none⟩) : Value) ∧ ρ 5 = (.int .i64 ((i : Nat) : Int) : Value) ∧ ρ 6 = (.int .i64 ((k1 : Nat) : Int) : Value) ∧ ρ 7 = (.int .i64 (-1 : Int) : Value) ∧ ρ 32 = (.bool (true) : Value) ∧ True) ⟨T0, T2, T4, T5, T6, T7, rfl, trivial⟩ fun ρ60 ⟨T0, T2, T4, T5, T6, T7, T32, _⟩ => ?_
          refine thenF_normal (hK59 _ _ ?_)
          refine wpF_true (show _ = (.bool (true) : Value) from T32) ?_
          refine wpF_seq_k fun K61 hK61 => ?_
          refine wpF_text ?_
          refine opsF_step rfl (YieldsK.run (v := .agg (Lib.byteCells (List.replicate 32 0)).toArray) (by kernel_rfl) ?_)    -- ref.go:107 t33 := (Op.build 33 #[])
          refine opsF_step rfl (YieldsK.storeAll (show _ = (.pointer (some ⟨n2, 0, none⟩) : Value) from T2) (show _ = (.agg (Lib.byteCells (List.replicate 32 0)).toArray : Value) from rfl) hb8 (by first | rfl | (rw [List.size_toArray, Lib.byteCells_length, List.length_replicate];  rfl)) (by rw [List.size_toArray, Lib.byteCells_length, List.length_replicate]; exact leb8_isz33) (byteCells_one _) fun w62 hb63 hg64 hs65 => ?_)    -- ref.go:107 tNone := (Op.store 33 (Operand.tmp 2) (Operand.tmp 33))
          have hE : Ext w w62 := row_fresh hE hg64 (Nat.le_trans (Nat.le_refl _) (by omega))
          clear hb8
          clear hA18
          have hb22l : w62.heap[n12]? = some (.cells (Lib.byteCells (pre s i)).toArray 33 (0, 0)) := (hg64.block _ (Array.getElem?_eq_some_iff.1 hb22l).1 (by simp; omega)).trans hb22l
          have hb8 := hb63; clear hb63
          have hl66 : n2 < w62.heap.size := (Array.getElem?_eq_some_iff.1 hb8).1
          refine opsF_step rfl (YieldsK.assign (show _ = (.bool (false) : Value) from rfl) ?_)    -- ref.go:107 t3 := (Op.assign (Operand.const (Value.bool false)))
          refine opsF_end (fun ρ => ρ 0 = (.string ⟨(s).toArray⟩ : Value) ∧ ρ 2 = (.pointer (some ⟨n2, 0, none⟩) : Value) ∧ ρ 3 = (.bool (false) : Value) ∧ ρ 4 = (.pointer (some ⟨n12, 0, none⟩) : Value) ∧ ρ 5 = (.int .i64 ((i : Nat) : Int) : Value) ∧ ρ 6 = (.int .i64 ((k1 : Nat) : Int) : Value) ∧ ρ 7 = (.int .i64 (-1 : Int) : Value) ∧ ρ 32 = (.bool (true) : Value) ∧ True) ⟨T0, T2, rfl, T4, T5, T6, T7, T32, trivial⟩ fun ρ67 ⟨T0, T2, T3, T4, T5, T6, T7, T32, _⟩ => ?_
          have hun := unhex_no (s := s) (fun h => by have := List.all_eq_true.1 h.2 i (by simp; omega); rw [hno] at this; cases this)
          refine thenF_normal (hK61 _ _ ?_)
          refine wpF_ret (thenF_ret (inBlockF_ret (thenF_ret (thenF_ret (inBlockF_ret (thenF_ret ?_))))))
          refine postF_ret (fn := Try.f18) _ rfl [.agg (Lib.byteCells (List.replicate 32 0)).toArray, .bool (false)] (.tuple #[.agg (Lib.byteCells (List.replicate 32 0)).toArray, .bool (false)]) rfl ⟨ResF.row T2 hb8 leb8_ty33 rfl (by rw [List.size_toArray, Lib.byteCells_length]; first | (rw [List.length_replicate]; exact leb8_isz33) | (rw [pre_length _ _ (by omega)]; exact leb8_isz33)), T3, trivial⟩ ?_
          refine ⟨?_, hE⟩
          rw [hun]
        · have hd2 := hx2.symm
          have hk2 := dg_lt hd2
          have T7 := T7.trans (show Value.int .i64 (dgI (s.getD (2 * i + 1) 0)) = .int .i64 ((k2 : Nat) : Int) by unfold dgI; rw [← hx2])
          refine thenF_normal (hK44 _ _ ?_)
          refine wpF_seq_k fun K68 hK68 => ?_
          refine wpF_seq_k fun K69 hK69 => ?_
          refine wpF_text ?_
          refine opsF_step rfl (YieldsK.move (show _ = (.int .i64 ((k1 : Nat) : Int) : Value) from T6) ?_)    -- ref.go:106 t27 := (Op.move (Operand.tmp 6))
          refine opsF_step rfl (YieldsK.eqI (a := ((k1 : Nat) : Int)) (b := ((0 : Nat) : Int)) (show _ = (.int .i64 ((k1 : Nat) : Int) : Value) from rfl) (show _ = (.int .i64 ((0 : Nat) : Int) : Value) from rfl) (k_lss _ .i64 (k1) (0)) ?_)    -- ref.go:106 t28 := (Op.binOp BinOp.lss 3 (Operand.tmp 27) (Operand.const (Value.int IntKind.i64 0)) 3)
          refine opsF_step rfl (YieldsK.move (show _ = (.bool (false) : Value) from (congrArg Value.bool (decide_eq_false (by omega)))) ?_)    -- ref.go:106 t29 := (Op.move (Operand.tmp 28))
          refine opsF_on (d := 29) rfl rfl (show _ = (.bool (false) : Value) from rfl) (YieldsK.move (show _ = (.int .i64 ((k2 : Nat) : Int) : Value) from T7) ?_)    -- ref.go:106 t30 := (Op.move (Operand.tmp 7))
          refine opsF_on (d := 29) rfl rfl (show _ = (.bool (false) : Value) from rfl) (YieldsK.eqI (a := ((k2 : Nat) : Int)) (b := ((0 : Nat) : Int)) (show _ = (.int .i64 ((k2 : Nat) : Int) : Value) from rfl) (show _ = (.int .i64 ((0 : Nat) : Int) : Value) from rfl) (k_lss _ .i64 (k2) (0)) ?_)    -- ref.go:106 t31 := (Op.binOp BinOp.lss 3 (Operand.tmp 30) (Operand.const (Value.int IntKind.i64 0)) 3)
          refine opsF_step rfl (YieldsK.pickF (show _ = (.bool (false) : Value) from rfl) (show _ = (.bool (false) : Value) from (congrArg Value.bool (decide_eq_false (by omega)))) ?_)    -- ref.go:106 t32 := (Op.pick (Operand.tmp 29) (Operand.const (Value.bool true)) (Operand.tmp 31))
          refine opsF_end (fun ρ => ρ 0 = (.string ⟨(s).toArray⟩ : Value) ∧ ρ 2 = (.pointer (some ⟨n2, 0, none⟩) : Value) ∧ ρ 4 = (.pointer (some ⟨n12, 0, none⟩) : Value) ∧ ρ 5 = (.int .i64 ((i : Nat) : Int) : Value) ∧ ρ 6 = (.int .i64 ((k1 : Nat) : Int) : Value) ∧ ρ 7 = (.int .i64 ((k2 : Nat) : Int) : Value) ∧ ρ 32 = (.bool (false) : Value) ∧ True) ⟨T0, T2, T4, T5, T6, T7, rfl, trivial⟩ fun ρ70 ⟨T0, T2, T4, T5, T6, T7, T32, _⟩ => ?_
          refine thenF_normal (hK69 _ _ ?_)
          refine wpF_false (show _ = (.bool (false) : Value) from T32) ?_
          refine wpF_skip ?_
          refine thenF_normal (hK68 _ _ ?_)
          refine wpF_text ?_
          refine opsF_step rfl (YieldsK.move (show _ = (.int .i64 ((i : Nat) : Int) : Value) from T5) ?_)    -- ref.go:109 t34 := (Op.move (Operand.tmp 5))
          refine opsF_step rfl (YieldsK.move (show _ = (.int .i64 ((k1 : Nat) : Int) : Value) from T6) ?_)    -- ref.go:109 t35 := (Op.move (Operand.tmp 6))
          refine opsF_step rfl (YieldsK.bin (xv := .int .i64 ((16 : Nat) : Int)) (yv := .int .i64 ((k1 : Nat) : Int)) (show _ = (.int .i64 ((16 : Nat) : Int) : Value) from rfl) (show _ = (.int .i64 ((k1 : Nat) : Int) : Value) from rfl) rfl (i64_mul _ (16) (k1) (by omega)) ?_)    -- ref.go:109 t36 := (Op.binOp BinOp.mul 3 (Operand.const (Value.int IntKind.i64 16)) (Operand.tmp 35) 3)
          refine opsF_step rfl (YieldsK.move (show _ = (.int .i64 ((k2 : Nat) : Int) : Value) from T7) ?_)    -- ref.go:109 t37 := (Op.move (Operand.tmp 7))
          refine opsF_step rfl (YieldsK.bin (xv := .int .i64 (((16) * (k1) : Nat) : Int)) (yv := .int .i64 ((k2 : Nat) : Int)) (show _ = (.int .i64 (((16) * (k1) : Nat) : Int) : Value) from rfl) (show _ = (.int .i64 ((k2 : Nat) : Int) : Value) from rfl) rfl (i64_add _ ((16) * (k1)) (k2) (by omega)) ?_)    -- ref.go:109 t38 := (Op.binOp BinOp.add 3 (Operand.tmp 36) (Operand.tmp 37) 3)
          refine opsF_step rfl (YieldsK.convI leb8_ty3 leb8_ty5 (show _ = (.int .i64 ((((16) * (k1)) + (k2) : Nat) : Int) : Value) from rfl) (toByte (((16) * (k1)) + (k2))) ?_)    -- ref.go:109 t39 := (Op.convert 3 5 (Operand.tmp 38))
          refine opsF_step rfl (YieldsK.atArr0 (i := i) leb8_ty33 leb8_sz5 (show _ = (.pointer (some ⟨n12, 0, none⟩) : Value) from T4) (show _ = (.int .i64 ((i : Nat) : Int) : Value) from rfl) (by omega) ?_)    -- ref.go:109 t40 := (Op.indexAddr 33 (Operand.tmp 4) (Operand.tmp 34))
          refine opsF_step rfl (YieldsK.storeB8 (i := i) (v := UInt8.ofNat (((16) * (k1)) + (k2))) (show _ = (.pointer (some ⟨n12, i, none⟩) : Value) from rfl) (show _ = (B8 (UInt8.ofNat (((16) * (k1)) + (k2))) : Value) from rfl) hb22l (by rw [hpl]; omega) leb8_isz5 fun w71 hb72 hg73 hs74 => ?_)    -- ref.go:109 tNone := (Op.store 5 (Operand.tmp 40) (Operand.tmp 39))
          have hE : Ext w w71 := row_fresh hE hg73 (Nat.le_trans hz20 (by omega))
          have hb8 : w71.heap[n2]? = some (.cells (Lib.byteCells (List.replicate 32 0)).toArray 33 (0, 0)) := (hg73.block _ (Array.getElem?_eq_some_iff.1 hb8).1 (by simp; omega)).trans hb8
          have hA18 : Ext w3 w71 := row_fresh hA18 hg73 (Nat.le_trans (Nat.le_refl _) (by omega))
          clear hb22l
          have hb22l := hb72; clear hb72
          have hl75 : n12 < w71.heap.size := (Array.getElem?_eq_some_iff.1 hb22l).1
          refine opsF_end (fun ρ => ρ 0 = (.string ⟨(s).toArray⟩ : Value) ∧ ρ 2 = (.pointer (some ⟨n2, 0, none⟩) : Value) ∧ ρ 4 = (.pointer (some ⟨n12, 0, none⟩) : Value) ∧ ρ 5 = (.int .i64 ((i : Nat) : Int) : Value) ∧ ρ 6 = (.int .i64 ((k1 : Nat) : Int) : Value) ∧ ρ 7 = (.int .i64 ((k2 : Nat) : Int) : Value) ∧ ρ 32 = (.bool (false) : Value) ∧ True) ⟨T0, T2, T4, T5, T6, T7, T32, trivial⟩ fun ρ76 ⟨T0, T2, T4, T5, T6, T7, T32, _⟩ => ?_
          refine inBlockF_normal ?_
          refine thenF_normal (hK43 _ _ ?_)
          refine wpF_text ?_
          refine opsF_step rfl (YieldsK.move (show _ = (.int .i64 ((i : Nat) : Int) : Value) from T5) ?_)    -- ref.go:104 t14 := (Op.move (Operand.tmp 5))
          refine opsF_step rfl (YieldsK.bin (xv := .int .i64 ((i : Nat) : Int)) (yv := .int .i64 ((1 : Nat) : Int)) (show _ = (.int .i64 ((i : Nat) : Int) : Value) from rfl) (show _ = (.int .i64 ((1 : Nat) : Int) : Value) from rfl) rfl (i64_add _ (i) (1) (by omega)) ?_)    -- ref.go:104 t15 := (Op.binOp BinOp.add 3 (Operand.tmp 14) (Operand.const (Value.int IntKind.i64 1)) 3)
          refine opsF_step rfl (YieldsK.assign (show _ = (.int .i64 (((i) + (1) : Nat) : Int) : Value) from rfl) ?_)    -- ref.go:104 t5 := (Op.assign (Operand.tmp 15))
          refine opsF_end (fun ρ => ρ 0 = (.string ⟨(s).toArray⟩ : Value) ∧ ρ 2 = (.pointer (some ⟨n2, 0, none⟩) : Value) ∧ ρ 4 = (.pointer (some ⟨n12, 0, none⟩) : Value) ∧ ρ 5 = (.int .i64 (((i) + (1) : Nat) : Int) : Value) ∧ ρ 6 = (.int .i64 ((k1 : Nat) : Int) : Value) ∧ ρ 7 = (.int .i64 ((k2 : Nat) : Int) : Value) ∧ ρ 32 = (.bool (false) : Value) ∧ True) ⟨T0, T2, T4, rfl, T6, T7, T32, trivial⟩ fun ρ77 ⟨T0, T2, T4, T5, T6, T7, T32, _⟩ => ?_
          refine thenF_normal (And.intro ⟨i + 1, T0, T2, T4, T5, hE, hb8, hA18, blk_eq hb22l (congrArg Lib.byteCells (by rw [← pre_step s i (by omega), byteAt_of hd1 hd2 hk2])), by omega, ok_next hall hd1 hd2, trivial⟩ ?_)
          show 32 - (intOf (ρ77 5)).toNat < 32 - (intOf (ρ38 5)).toNat
          rw [T5, q5]
          simp only [intOf, Int.toNat_natCast]; omega
    · have hi32 : i = 32 := by omega
      have hun : unhex s = (pre s i, true) := by rw [hi32, pre_all]; exact unhex_yes hs64 (fun j hj => hall j (by omega))
      refine wpF_exit (thenF_exit (thenF_exit (inBlockF_hit ?_)))
      refine thenF_normal (hK35 _ _ ?_)
      refine wpF_seq_k fun K78 hK78 => ?_
      refine wpF_text ?_
      refine opsF_step rfl (YieldsK.loadAll (show _ = (.pointer (some ⟨n12, 0, none⟩) : Value) from T4) hb22l leb8_ty33 rfl (by rw [List.size_toArray, Lib.byteCells_length, pre_length _ _ (by omega)]; exact leb8_isz33) ?_)    -- ref.go:111 t41 := (Op.load 33 (Operand.tmp 4))
      refine opsF_step rfl (YieldsK.storeAll (show _ = (.pointer (some ⟨n2, 0, none⟩) : Value) from T2) (show _ = (.agg (Lib.byteCells (pre s i)).toArray : Value) from rfl) hb8 (by first | rfl | (rw [List.size_toArray, Lib.byteCells_length, pre_length _ _ (by omega)];  rfl)) (by rw [List.size_toArray, Lib.byteCells_length, pre_length _ _ (by omega)]; exact leb8_isz33) (byteCells_one _) fun w79 hb80 hg81 hs82 => ?_)    -- ref.go:111 tNone := (Op.store 33 (Operand.tmp 2) (Operand.tmp 41))
      have hE : Ext w w79 := row_fresh hE hg81 (Nat.le_trans (Nat.le_refl _) (by omega))
      clear hb8
      clear hA18
      have hb22l : w79.heap[n12]? = some (.cells (Lib.byteCells (pre s i)).toArray 33 (0, 0)) := (hg81.block _ (Array.getElem?_eq_some_iff.1 hb22l).1 (by simp; omega)).trans hb22l
      have hb8 := hb80; clear hb80
      have hl83 : n2 < w79.heap.size := (Array.getElem?_eq_some_iff.1 hb8).1
      refine opsF_step rfl (YieldsK.assign (show _ = (.bool (true) : Value) from rfl) ?_)    -- ref.go:111 t3 := (Op.assign (Operand.const (Value.bool true)))
      refine opsF_end (fun ρ => ρ 0 = (.string ⟨(s).toArray⟩ : Value) ∧ ρ 2 = (.pointer (some ⟨n2, 0, none⟩) : Value) ∧ ρ 3 = (.bool (true) : Value) ∧ ρ 4 = (.pointer (some ⟨n12, 0, none⟩) : Value) ∧ ρ 5 = (.int .i64 ((i : Nat) : Int) : Value) ∧ True) ⟨T0, T2, rfl, T4, T5, trivial⟩ fun ρ84 ⟨T0, T2, T3, T4, T5, _⟩ => ?_
      refine thenF_normal (hK78 _ _ ?_)
      refine wpF_ret ?_
      refine postF_ret (fn := Try.f18) _ rfl [.agg (Lib.byteCells (pre s i)).toArray, .bool (true)] (.tuple #[.agg (Lib.byteCells (pre s i)).toArray, .bool (true)]) rfl ⟨ResF.row T2 hb8 leb8_ty33 rfl (by rw [List.size_toArray, Lib.byteCells_length]; first | (rw [List.length_replicate]; exact leb8_isz33) | (rw [pre_length _ _ (by omega)]; exact leb8_isz33)), T3, trivial⟩ ?_
      refine ⟨?_, hE⟩
      rw [hun]

theorem hasPrefixL_0 (w : World) (s p : List UInt8) (h : p.length ≤ s.length) :
    Calls Try.prog 33 #[St s, St p] w fun e w' => e = .returned (.bool (decide (p.length ≤ s.length ∧ s.take p.length = p))) ∧ Ext w w' := by
  refine calls_of_wpF (args := [.string ⟨(s).toArray⟩, .string ⟨(p).toArray⟩]) Try.func33 rfl 18 rfl (Nat.le_of_ble_eq_true rfl) ?_
  intro ρ0 hb
  have T0 : ρ0 0 = (.string ⟨(s).toArray⟩ : Value) := hb.get 0
  have T1 : ρ0 1 = (.string ⟨(p).toArray⟩ : Value) := hb.get 1
  clear hb
  have hE := Ext.refl w
  refine wpF_seq_k fun K1 hK1 => ?_
  refine wpF_text ?_
  refine opsF_step rfl (YieldsK.assign (show _ = (.bool (false) : Value) from rfl) ?_)    -- strings.go:16 t4 := (Op.assign (Operand.const (Value.bool false)))
  refine opsF_end (fun ρ => ρ 0 = (.string ⟨(s).toArray⟩ : Value) ∧ ρ 1 = (.string ⟨(p).toArray⟩ : Value) ∧ ρ 4 = (.bool (false) : Value) ∧ True) ⟨T0, T1, rfl, trivial⟩ fun ρ2 ⟨T0, T1, T4, _⟩ => ?_
  refine thenF_normal (hK1 _ _ ?_)
  refine wpF_seq_k fun K3 hK3 => ?_
  refine wpF_text ?_
  refine opsF_step rfl (YieldsK.move (show _ = (.string ⟨(s).toArray⟩ : Value) from T0) ?_)    -- strings.go:17 t5 := (Op.move (Operand.tmp 0))
  refine opsF_step rfl (YieldsK.lenSt (l := s) leb8_ty9 (show _ = (.string ⟨(s).toArray⟩ : Value) from rfl) ?_)    -- strings.go:17 t6 := (Op.call { callee := (Callee.builtin Builtin.len), args := #[(Operand.tmp 5)], argTypes := #[9] })
  refine opsF_step rfl (YieldsK.move (show _ = (.string ⟨(p).toArray⟩ : Value) from T1) ?_)    -- strings.go:17 t7 := (Op.move (Operand.tmp 1))
  refine opsF_step rfl (YieldsK.lenSt (l := p) leb8_ty9 (show _ = (.string ⟨(p).toArray⟩ : Value) from rfl) ?_)    -- strings.go:17 t8 := (Op.call { callee := (Callee.builtin Builtin.len), args := #[(Operand.tmp 7)], argTypes := #[9] })
  refine opsF_step rfl (YieldsK.eqI (a := ((s.length : Nat) : Int)) (b := ((p.length : Nat) : Int)) (show _ = (.int .i64 ((s.length : Nat) : Int) : Value) from rfl) (show _ = (.int .i64 ((p.length : Nat) : Int) : Value) from rfl) (k_geq _ .i64 (s.length) (p.length)) ?_)    -- strings.go:17 t9 := (Op.binOp BinOp.geq 3 (Operand.tmp 6) (Operand.tmp 8) 3)
  refine opsF_step rfl (YieldsK.move (show _ = (.bool (true) : Value) from (congrArg Value.bool (decide_eq_true (h)))) ?_)    -- strings.go:17 t10 := (Op.move (Operand.tmp 9))
  refine opsF_on (d := 10) rfl rfl (show _ = (.bool (true) : Value) from rfl) (YieldsK.move (show _ = (.string ⟨(s).toArray⟩ : Value) from T0) ?_)    -- strings.go:17 t11 := (Op.move (Operand.tmp 0))
  refine opsF_on (d := 10) rfl rfl (show _ = (.bool (true) : Value) from rfl) (YieldsK.move (show _ = (.string ⟨(p).toArray⟩ : Value) from T1) ?_)    -- strings.go:17 t12 := (Op.move (Operand.tmp 1))
  refine opsF_on (d := 10) rfl rfl (show _ = (.bool (true) : Value) from rfl) (YieldsK.lenSt (l := p) leb8_ty9 (show _ = (.string ⟨(p).toArray⟩ : Value) from rfl) ?_)    -- strings.go:17 t13 := (Op.call { callee := (Callee.builtin Builtin.len), args := #[(Operand.tmp 12)], argTypes := #[9] })
  refine opsF_on (d := 10) rfl rfl (show _ = (.bool (true) : Value) from rfl) (YieldsK.sliceSt (l := s) leb8_ty9 (0) (p.length) (show _ = (.string ⟨(s).toArray⟩ : Value) from rfl) (.inl ⟨rfl, rfl⟩) (.inr ⟨.i64, congrArg some (show _ = (.int .i64 ((p.length : Nat) : Int) : Value) from rfl)⟩) (Nat.zero_le _) (h) ?_)    -- strings.go:17 t14 := (Op.slice 9 (Operand.tmp 11) none (some (Operand.tmp 13)) none)
  refine opsF_on (d := 10) rfl rfl (show _ = (.bool (true) : Value) from rfl) (YieldsK.move (show _ = (.string ⟨(p).toArray⟩ : Value) from T1) ?_)    -- strings.go:17 t15 := (Op.move (Operand.tmp 1))
  refine opsF_on (d := 10) rfl rfl (show _ = (.bool (true) : Value) from rfl) (YieldsK.eqSt (l := (s.drop (0)).take ((p.length) - (0))) (m := p) (.inl rfl) (show _ = (.string ⟨((s.drop (0)).take ((p.length) - (0))).toArray⟩ : Value) from rfl) (show _ = (.string ⟨(p).toArray⟩ : Value) from rfl) (decide ((s.drop (0)).take ((p.length) - (0)) = p)) rfl ?_)    -- strings.go:17 t16 := (Op.binOp BinOp.eql 9 (Operand.tmp 14) (Operand.tmp 15) 9)
  refine opsF_step rfl (YieldsK.pickT (show _ = (.bool (true) : Value) from rfl) (show _ = (.bool (decide ((s.drop (0)).take ((p.length) - (0)) = p)) : Value) from rfl) ?_)    -- strings.go:17 t17 := (Op.pick (Operand.tmp 10) (Operand.tmp 16) (Operand.const (Value.bool false)))
  refine opsF_step rfl (YieldsK.assign (show _ = (.bool (decide ((s.drop (0)).take ((p.length) - (0)) = p)) : Value) from rfl) ?_)    -- strings.go:17 t4 := (Op.assign (Operand.tmp 17))
  refine opsF_end (fun ρ => ρ 0 = (.string ⟨(s).toArray⟩ : Value) ∧ ρ 1 = (.string ⟨(p).toArray⟩ : Value) ∧ ρ 4 = (.bool (decide ((s.drop (0)).take ((p.length) - (0)) = p)) : Value) ∧ True) ⟨T0, T1, rfl, trivial⟩ fun ρ4 ⟨T0, T1, T4, _⟩ => ?_
  refine thenF_normal (hK3 _ _ ?_)
  refine wpF_ret ?_
  refine postF_ret (fn := Try.f33) _ rfl [.bool (decide ((s.drop (0)).take ((p.length) - (0)) = p))] (.bool (decide ((s.drop (0)).take ((p.length) - (0)) = p))) rfl ⟨T4, trivial⟩ ?_
  exact ⟨congrArg (fun z => Ending.returned (.bool z)) (by simp [h]), hE⟩

theorem hasPrefixL_1 (w : World) (s p : List UInt8) (h : s.length < p.length) :
    Calls Try.prog 33 #[St s, St p] w fun e w' => e = .returned (.bool (decide (p.length ≤ s.length ∧ s.take p.length = p))) ∧ Ext w w' := by
  refine calls_of_wpF (args := [.string ⟨(s).toArray⟩, .string ⟨(p).toArray⟩]) Try.func33 rfl 18 rfl (Nat.le_of_ble_eq_true rfl) ?_
  intro ρ0 hb
  have T0 : ρ0 0 = (.string ⟨(s).toArray⟩ : Value) := hb.get 0
  have T1 : ρ0 1 = (.string ⟨(p).toArray⟩ : Value) := hb.get 1
  clear hb
  have hE := Ext.refl w
  refine wpF_seq_k fun K1 hK1 => ?_
  refine wpF_text ?_
  refine opsF_step rfl (YieldsK.assign (show _ = (.bool (false) : Value) from rfl) ?_)    -- strings.go:16 t4 := (Op.assign (Operand.const (Value.bool false)))
  refine opsF_end (fun ρ => ρ 0 = (.string ⟨(s).toArray⟩ : Value) ∧ ρ 1 = (.string ⟨(p).toArray⟩ : Value) ∧ ρ 4 = (.bool (false) : Value) ∧ True) ⟨T0, T1, rfl, trivial⟩ fun ρ2 ⟨T0, T1, T4, _⟩ => ?_
  refine thenF_normal (hK1 _ _ ?_)
  refine wpF_seq_k fun K3 hK3 => ?_
  refine wpF_text ?_
  refine opsF_step rfl (YieldsK.move (show _ = (.string ⟨(s).toArray⟩ : Value) from T0) ?_)    -- strings.go:17 t5 := (Op.move (Operand.tmp 0))
  refine opsF_step rfl (YieldsK.lenSt (l := s) leb8_ty9 (show _ = (.string ⟨(s).toArray⟩ : Value) from rfl) ?_)    -- strings.go:17 t6 := (Op.call { callee := (Callee.builtin Builtin.len), args := #[(Operand.tmp 5)], argTypes := #[9] })
  refine opsF_step rfl (YieldsK.move (show _ = (.string ⟨(p).toArray⟩ : Value) from T1) ?_)    -- strings.go:17 t7 := (Op.move (Operand.tmp 1))
  refine opsF_step rfl (YieldsK.lenSt (l := p) leb8_ty9 (show _ = (.string ⟨(p).toArray⟩ : Value) from rfl) ?_)    -- strings.go:17 t8 := (Op.call { callee := (Callee.builtin Builtin.len), args := #[(Operand.tmp 7)], argTypes := #[9] })
  refine opsF_step rfl (YieldsK.eqI (a := ((s.length : Nat) : Int)) (b := ((p.length : Nat) : Int)) (show _ = (.int .i64 ((s.length : Nat) : Int) : Value) from rfl) (show _ = (.int .i64 ((p.length : Nat) : Int) : Value) from rfl) (k_geq _ .i64 (s.length) (p.length)) ?_)    -- strings.go:17 t9 := (Op.binOp BinOp.geq 3 (Operand.tmp 6) (Operand.tmp 8) 3)
  refine opsF_step rfl (YieldsK.move (show _ = (.bool (false) : Value) from (congrArg Value.bool (decide_eq_false (by omega)))) ?_)    -- strings.go:17 t10 := (Op.move (Operand.tmp 9))
  refine opsF_off (d := 10) rfl rfl rfl (show _ = (.bool (false) : Value) from rfl) rfl ?_    -- strings.go:17 t11 := (Op.move (Operand.tmp 0))
  refine opsF_off (d := 10) rfl rfl rfl (show _ = (.bool (false) : Value) from rfl) rfl ?_    -- strings.go:17 t12 := (Op.move (Operand.tmp 1))
  refine opsF_off (d := 10) rfl rfl rfl (show _ = (.bool (false) : Value) from rfl) rfl ?_    -- strings.go:17 t13 := (Op.call { callee := (Callee.builtin Builtin.len), args := #[(Operand.tmp 12)], argTypes := #[9] })
  refine opsF_off (d := 10) rfl rfl rfl (show _ = (.bool (false) : Value) from rfl) rfl ?_    -- strings.go:17 t14 := (Op.slice 9 (Operand.tmp 11) none (some (Operand.tmp 13)) none)
  refine opsF_off (d := 10) rfl rfl rfl (show _ = (.bool (false) : Value) from rfl) rfl ?_    -- strings.go:17 t15 := (Op.move (Operand.tmp 1))
  refine opsF_off (d := 10) rfl rfl rfl (show _ = (.bool (false) : Value) from rfl) rfl ?_    -- strings.go:17 t16 := (Op.binOp BinOp.eql 9 (Operand.tmp 14) (Operand.tmp 15) 9)
  refine opsF_step rfl (YieldsK.pickF (show _ = (.bool (false) : Value) from rfl) (show _ = (.bool (false) : Value) from rfl) ?_)    -- strings.go:17 t17 := (Op.pick (Operand.tmp 10) (Operand.tmp 16) (Operand.const (Value.bool false)))
  refine opsF_step rfl (YieldsK.assign (show _ = (.bool (false) : Value) from rfl) ?_)    -- strings.go:17 t4 := (Op.assign (Operand.tmp 17))
  refine opsF_end (fun ρ => ρ 0 = (.string ⟨(s).toArray⟩ : Value) ∧ ρ 1 = (.string ⟨(p).toArray⟩ : Value) ∧ ρ 4 = (.bool (false) : Value) ∧ True) ⟨T0, T1, rfl, trivial⟩ fun ρ4 ⟨T0, T1, T4, _⟩ => ?_
  refine thenF_normal (hK3 _ _ ?_)
  refine wpF_ret ?_
  refine postF_ret (fn := Try.f33) _ rfl [.bool (false)] (.bool (false)) rfl ⟨T4, trivial⟩ ?_
  exact ⟨congrArg (fun z => Ending.returned (.bool z)) (by rw [decide_eq_false (by omega)]), hE⟩

theorem hasPrefixL_any (w : World) (s p : List UInt8) :
    Calls Try.prog 33 #[St s, St p] w fun e w' => e = .returned (.bool (decide (p.length ≤ s.length ∧ s.take p.length = p))) ∧ Ext w w' := by
  by_cases h : p.length ≤ s.length
  · exact hasPrefixL_0 w s p h
  · exact hasPrefixL_1 w s p (by omega)

theorem hasPrefix_any (w : World) (s p : List UInt8) :
    Calls Try.prog 30 #[St s, St p] w fun e w' => e = .returned (.bool (decide (p.length ≤ s.length ∧ s.take p.length = p))) ∧ Ext w w' := by
  refine calls_of_wpF (args := [.string ⟨(s).toArray⟩, .string ⟨(p).toArray⟩]) Try.func30 rfl 8 rfl (Nat.le_of_ble_eq_true rfl) ?_
  intro ρ0 hb
  have T0 : ρ0 0 = (.string ⟨(s).toArray⟩ : Value) := hb.get 0
  have T1 : ρ0 1 = (.string ⟨(p).toArray⟩ : Value) := hb.get 1
  clear hb
  have hE := Ext.refl w
  refine wpF_seq_k fun K1 hK1 => ?_
  refine wpF_text ?_
  refine opsF_step rfl (YieldsK.assign (show _ = (.bool (false) : Value) from rfl) ?_)    -- strings.go:501 t4 := (Op.assign (Operand.const (Value.bool false)))
  refine opsF_end (fun ρ => ρ 0 = (.string ⟨(s).toArray⟩ : Value) ∧ ρ 1 = (.string ⟨(p).toArray⟩ : Value) ∧ ρ 4 = (.bool (false) : Value) ∧ True) ⟨T0, T1, rfl, trivial⟩ fun ρ2 ⟨T0, T1, T4, _⟩ => ?_
  refine thenF_normal (hK1 _ _ ?_)
  refine wpF_seq_k fun K3 hK3 => ?_
  refine wpF_text ?_
  refine opsF_step rfl (YieldsK.move (show _ = (.string ⟨(s).toArray⟩ : Value) from T0) ?_)    -- strings.go:502 t5 := (Op.move (Operand.tmp 0))
  refine opsF_step rfl (YieldsK.move (show _ = (.string ⟨(p).toArray⟩ : Value) from T1) ?_)    -- strings.go:502 t6 := (Op.move (Operand.tmp 1))
  refine opsF_step rfl (YieldsK.callA2 leb8_pl33 (show _ = (.string ⟨(s).toArray⟩ : Value) from rfl) (show _ = (.string ⟨(p).toArray⟩ : Value) from rfl) ?_)    -- strings.go:502 t7 := (Op.call { callee := (Callee.value (Operand.func 33)), args := #[(Operand.tmp 5), (Operand.tmp 6)], argTypes :
  refine (hasPrefixL_any _ s p).mono ?_
  rintro e w5 ⟨rfl, hx4⟩
  refine ⟨_, rfl, ?_⟩
  have hE : Ext w w5 := (hE.trans hx4)
  refine opsF_step rfl (YieldsK.assign (show _ = (.bool (decide (p.length ≤ s.length ∧ s.take p.length = p)) : Value) from rfl) ?_)    -- strings.go:502 t4 := (Op.assign (Operand.tmp 7))
  refine opsF_end (fun ρ => ρ 0 = (.string ⟨(s).toArray⟩ : Value) ∧ ρ 1 = (.string ⟨(p).toArray⟩ : Value) ∧ ρ 4 = (.bool (decide (p.length ≤ s.length ∧ s.take p.length = p)) : Value) ∧ True) ⟨T0, T1, rfl, trivial⟩ fun ρ6 ⟨T0, T1, T4, _⟩ => ?_
  refine thenF_normal (hK3 _ _ ?_)
  refine wpF_ret ?_
  refine postF_ret (fn := Try.f30) _ rfl [.bool (decide (p.length ≤ s.length ∧ s.take p.length = p))] (.bool (decide (p.length ≤ s.length ∧ s.take p.length = p))) rfl ⟨T4, trivial⟩ ?_
  exact ⟨rfl, hE⟩

theorem starts_0 (w : World) (id : List UInt8) (hid : id.length = 32) (s : List UInt8) (h : s = []) :
    Calls Try.prog 21 #[.agg (Lib.byteCells id).toArray, St s] w fun e w' => e = .returned (.bool (startsB id s)) ∧ Ext w w' := by
  refine calls_of_wpF (args := [.agg (Lib.byteCells id).toArray, .string ⟨(s).toArray⟩]) Try.func21 rfl 13 rfl (Nat.le_of_ble_eq_true rfl) ?_
  intro ρ0 hb
  have T0 : ρ0 0 = (.agg (Lib.byteCells id).toArray : Value) := hb.get 0
  have T1 : ρ0 1 = (.string ⟨(s).toArray⟩ : Value) := hb.get 1
  clear hb
  have hE := Ext.refl w
  refine wpF_seq_k fun K1 hK1 => ?_
  refine wpF_text ?_
  refine opsF_step rfl (YieldsK.box (cs := (Lib.byteCells id).toArray) (show _ = (.agg (Lib.byteCells id).toArray : Value) from T0) fun n2 w3 hn4 hb5 hx6 hs7 => ?_)    -- leb.go:121 t2 := (Op.box 33 (Operand.tmp 0))
  have hE : Ext w w3 := (hE.trans hx6)
  have hb8 := hb5; clear hb5
  have hl9 : n2 < w3.heap.size := by omega
  refine opsF_step rfl (YieldsK.assign (show _ = (.bool (false) : Value) from rfl) ?_)    -- leb.go:121 t4 := (Op.assign (Operand.const (Value.bool false)))
  refine opsF_end (fun ρ => ρ 0 = (.agg (Lib.byteCells id).toArray : Value) ∧ ρ 1 = (.string ⟨(s).toArray⟩ : Value) ∧ ρ 2 = (.pointer (some ⟨n2, 0, none⟩) : Value) ∧ ρ 4 = (.bool (false) : Value) ∧ True) ⟨T0, T1, rfl, rfl, trivial⟩ fun ρ10 ⟨T0, T1, T2, T4, _⟩ => ?_
  refine thenF_normal (hK1 _ _ ?_)
  refine wpF_seq_k fun K11 hK11 => ?_
  refine wpF_text ?_
  refine opsF_step rfl (YieldsK.move (show _ = (.string ⟨(s).toArray⟩ : Value) from T1) ?_)    -- leb.go:121 t5 := (Op.move (Operand.tmp 1))
  refine opsF_step rfl (YieldsK.eqSt (l := s) (m := ([] : List UInt8)) (.inr rfl) (show _ = (.string ⟨(s).toArray⟩ : Value) from rfl) (show _ = (.string ⟨(([] : List UInt8)).toArray⟩ : Value) from rfl) (decide (s ≠ (([] : List UInt8) : List UInt8))) rfl ?_)    -- leb.go:121 t6 := (Op.binOp BinOp.neq 9 (Operand.tmp 5) (Operand.const (Value.string { data := #[] })) 9)
  refine opsF_step rfl (YieldsK.move (show _ = (.bool (false) : Value) from (congrArg Value.bool (decide_eq_false (by simp [h])))) ?_)    -- leb.go:121 t7 := (Op.move (Operand.tmp 6))
  refine opsF_off (d := 7) rfl rfl rfl (show _ = (.bool (false) : Value) from rfl) rfl ?_    -- leb.go:121 t8 := (Op.load 33 (Operand.tmp 2))
  refine opsF_off (d := 7) rfl rfl rfl (show _ = (.bool (false) : Value) from rfl) rfl ?_    -- leb.go:121 t9 := (Op.call { callee := (Callee.value (Operand.func 19)), args := #[(Operand.tmp 8)], argTypes := #[33] })
  refine opsF_off (d := 7) rfl rfl rfl (show _ = (.bool (false) : Value) from rfl) rfl ?_    -- leb.go:121 t10 := (Op.move (Operand.tmp 1))
  refine opsF_off (d := 7) rfl rfl rfl (show _ = (.bool (false) : Value) from rfl) rfl ?_    -- leb.go:121 t11 := (Op.call { callee := (Callee.value (Operand.func 30)), args := #[(Operand.tmp 9), (Operand.tmp 10)], argTypes 
  refine opsF_step rfl (YieldsK.pickF (show _ = (.bool (false) : Value) from rfl) (show _ = (.bool (false) : Value) from rfl) ?_)    -- leb.go:121 t12 := (Op.pick (Operand.tmp 7) (Operand.tmp 11) (Operand.const (Value.bool false)))
  refine opsF_step rfl (YieldsK.assign (show _ = (.bool (false) : Value) from rfl) ?_)    -- leb.go:121 t4 := (Op.assign (Operand.tmp 12))
  refine opsF_end (fun ρ => ρ 0 = (.agg (Lib.byteCells id).toArray : Value) ∧ ρ 1 = (.string ⟨(s).toArray⟩ : Value) ∧ ρ 2 = (.pointer (some ⟨n2, 0, none⟩) : Value) ∧ ρ 4 = (.bool (false) : Value) ∧ True) ⟨T0, T1, T2, rfl, trivial⟩ fun ρ12 ⟨T0, T1, T2, T4, _⟩ => ?_
  refine thenF_normal (hK11 _ _ ?_)
  refine wpF_ret ?_
  refine postF_ret (fn := Try.f21) _ rfl [.bool (false)] (.bool (false)) rfl ⟨T4, trivial⟩ ?_
  exact ⟨congrArg (fun z => Ending.returned (.bool z)) (by unfold startsB; rw [decide_eq_false (by rw [h]; simp)]), hE⟩

theorem starts_1 (w : World) (id : List UInt8) (hid : id.length = 32) (s : List UInt8) (h : 0 < s.length) :
    Calls Try.prog 21 #[.agg (Lib.byteCells id).toArray, St s] w fun e w' => e = .returned (.bool (startsB id s)) ∧ Ext w w' := by
  refine calls_of_wpF (args := [.agg (Lib.byteCells id).toArray, .string ⟨(s).toArray⟩]) Try.func21 rfl 13 rfl (Nat.le_of_ble_eq_true rfl) ?_
  intro ρ0 hb
  have T0 : ρ0 0 = (.agg (Lib.byteCells id).toArray : Value) := hb.get 0
  have T1 : ρ0 1 = (.string ⟨(s).toArray⟩ : Value) := hb.get 1
  clear hb
  have hE := Ext.refl w
  refine wpF_seq_k fun K1 hK1 => ?_
  refine wpF_text ?_
  refine opsF_step rfl (YieldsK.box (cs := (Lib.byteCells id).toArray) (show _ = (.agg (Lib.byteCells id).toArray : Value) from T0) fun n2 w3 hn4 hb5 hx6 hs7 => ?_)    -- leb.go:121 t2 := (Op.box 33 (Operand.tmp 0))
  have hE : Ext w w3 := (hE.trans hx6)
  have hb8 := hb5; clear hb5
  have hl9 : n2 < w3.heap.size := by omega
  refine opsF_step rfl (YieldsK.assign (show _ = (.bool (false) : Value) from rfl) ?_)    -- leb.go:121 t4 := (Op.assign (Operand.const (Value.bool false)))
  refine opsF_end (fun ρ => ρ 0 = (.agg (Lib.byteCells id).toArray : Value) ∧ ρ 1 = (.string ⟨(s).toArray⟩ : Value) ∧ ρ 2 = (.pointer (some ⟨n2, 0, none⟩) : Value) ∧ ρ 4 = (.bool (false) : Value) ∧ True) ⟨T0, T1, rfl, rfl, trivial⟩ fun ρ10 ⟨T0, T1, T2, T4, _⟩ => ?_
  refine thenF_normal (hK1 _ _ ?_)
  refine wpF_seq_k fun K11 hK11 => ?_
  refine wpF_text ?_
  refine opsF_step rfl (YieldsK.move (show _ = (.string ⟨(s).toArray⟩ : Value) from T1) ?_)    -- leb.go:121 t5 := (Op.move (Operand.tmp 1))
  refine opsF_step rfl (YieldsK.eqSt (l := s) (m := ([] : List UInt8)) (.inr rfl) (show _ = (.string ⟨(s).toArray⟩ : Value) from rfl) (show _ = (.string ⟨(([] : List UInt8)).toArray⟩ : Value) from rfl) (decide (s ≠ (([] : List UInt8) : List UInt8))) rfl ?_)    -- leb.go:121 t6 := (Op.binOp BinOp.neq 9 (Operand.tmp 5) (Operand.const (Value.string { data := #[] })) 9)
  refine opsF_step rfl (YieldsK.move (show _ = (.bool (true) : Value) from (congrArg Value.bool (decide_eq_true (by intro e; rw [e] at h; simp at h)))) ?_)    -- leb.go:121 t7 := (Op.move (Operand.tmp 6))
  refine opsF_on (d := 7) rfl rfl (show _ = (.bool (true) : Value) from rfl) (YieldsK.loadAll (show _ = (.pointer (some ⟨n2, 0, none⟩) : Value) from T2) hb8 leb8_ty33 rfl (by rw [List.size_toArray, Lib.byteCells_length, hid]; exact leb8_isz33) ?_)    -- leb.go:121 t8 := (Op.load 33 (Operand.tmp 2))
  refine opsF_on (d := 7) rfl rfl (show _ = (.bool (true) : Value) from rfl) (YieldsK.callA1 leb8_pl19 (show _ = (.agg (Lib.byteCells id).toArray : Value) from rfl) ?_)    -- leb.go:121 t9 := (Op.call { callee := (Callee.value (Operand.func 19)), args := #[(Operand.tmp 8)], argTypes := #[33] })
  refine (hex_any _ id hid).mono ?_
  rintro e w13 ⟨rfl, hx12⟩
  refine ⟨_, rfl, ?_⟩
  have hE : Ext w w13 := (hE.trans hx12)
  have hb8 : w13.heap[n2]? = some (.cells (Lib.byteCells id).toArray 33 (0, 0)) := (Ext.blk' hx12 hb8)
  refine opsF_on (d := 7) rfl rfl (show _ = (.bool (true) : Value) from rfl) (YieldsK.move (show _ = (.string ⟨(s).toArray⟩ : Value) from T1) ?_)    -- leb.go:121 t10 := (Op.move (Operand.tmp 1))
  refine opsF_on (d := 7) rfl rfl (show _ = (.bool (true) : Value) from rfl) (YieldsK.callA2 leb8_pl30 (show _ = (.string ⟨(hexOf id).toArray⟩ : Value) from rfl) (show _ = (.string ⟨(s).toArray⟩ : Value) from rfl) ?_)    -- leb.go:121 t11 := (Op.call { callee := (Callee.value (Operand.func 30)), args := #[(Operand.tmp 9), (Operand.tmp 10)], argTypes 
  refine (hasPrefix_any _ (hexOf id) s).mono ?_
  rintro e w15 ⟨rfl, hx14⟩
  refine ⟨_, rfl, ?_⟩
  have hE : Ext w w15 := (hE.trans hx14)
  have hb8 : w15.heap[n2]? = some (.cells (Lib.byteCells id).toArray 33 (0, 0)) := (Ext.blk' hx14 hb8)
  refine opsF_step rfl (YieldsK.pickT (show _ = (.bool (true) : Value) from rfl) (show _ = (.bool (decide (s.length ≤ (hexOf id).length ∧ (hexOf id).take s.length = s)) : Value) from rfl) ?_)    -- leb.go:121 t12 := (Op.pick (Operand.tmp 7) (Operand.tmp 11) (Operand.const (Value.bool false)))
  refine opsF_step rfl (YieldsK.assign (show _ = (.bool (decide (s.length ≤ (hexOf id).length ∧ (hexOf id).take s.length = s)) : Value) from rfl) ?_)    -- leb.go:121 t4 := (Op.assign (Operand.tmp 12))
  refine opsF_end (fun ρ => ρ 0 = (.agg (Lib.byteCells id).toArray : Value) ∧ ρ 1 = (.string ⟨(s).toArray⟩ : Value) ∧ ρ 2 = (.pointer (some ⟨n2, 0, none⟩) : Value) ∧ ρ 4 = (.bool (decide (s.length ≤ (hexOf id).length ∧ (hexOf id).take s.length = s)) : Value) ∧ True) ⟨T0, T1, T2, rfl, trivial⟩ fun ρ16 ⟨T0, T1, T2, T4, _⟩ => ?_
  refine thenF_normal (hK11 _ _ ?_)
  refine wpF_ret ?_
  refine postF_ret (fn := Try.f21) _ rfl [.bool (decide (s.length ≤ (hexOf id).length ∧ (hexOf id).take s.length = s))] (.bool (decide (s.length ≤ (hexOf id).length ∧ (hexOf id).take s.length = s))) rfl ⟨T4, trivial⟩ ?_
  exact ⟨congrArg (fun z => Ending.returned (.bool z)) (by unfold startsB; simp [h]), hE⟩

theorem starts_any (w : World) (id : List UInt8) (hid : id.length = 32) (s : List UInt8) :
    Calls Try.prog 21 #[.agg (Lib.byteCells id).toArray, St s] w fun e w' => e = .returned (.bool (startsB id s)) ∧ Ext w w' := by
  by_cases h : s = []
  · exact starts_0 w id hid s h
  · exact starts_1 w id hid s (List.length_pos_iff.2 h)

theorem refStarts_0 (w : World) (id : List UInt8) (hid : id.length = 32) (s : List UInt8) (h : s.length < 1) :
    Calls Try.prog 22 #[.agg (Lib.byteCells id).toArray, St s] w fun e w' => e = .returned (.bool (startsB id s)) ∧ Ext w w' := by
  have hl : (hexOf id).length = 64 := by rw [hexOf_length, hid]
  refine calls_of_wpF (args := [.agg (Lib.byteCells id).toArray, .string ⟨(s).toArray⟩]) Try.func22 rfl 24 rfl (Nat.le_of_ble_eq_true rfl) ?_
  intro ρ0 hb
  have T0 : ρ0 0 = (.agg (Lib.byteCells id).toArray : Value) := hb.get 0
  have T1 : ρ0 1 = (.string ⟨(s).toArray⟩ : Value) := hb.get 1
  clear hb
  have hE := Ext.refl w
  refine wpF_seq_k fun K1 hK1 => ?_
  refine wpF_text ?_
  refine opsF_step rfl (YieldsK.box (cs := (Lib.byteCells id).toArray) (show _ = (.agg (Lib.byteCells id).toArray : Value) from T0) fun n2 w3 hn4 hb5 hx6 hs7 => ?_)    -- ref.go:115 t2 := (Op.box 33 (Operand.tmp 0))
  have hE : Ext w w3 := (hE.trans hx6)
  have hb8 := hb5; clear hb5
  have hl9 : n2 < w3.heap.size := by omega
  refine opsF_step rfl (YieldsK.assign (show _ = (.bool (false) : Value) from rfl) ?_)    -- ref.go:115 t4 := (Op.assign (Operand.const (Value.bool false)))
  refine opsF_end (fun ρ => ρ 0 = (.agg (Lib.byteCells id).toArray : Value) ∧ ρ 1 = (.string ⟨(s).toArray⟩ : Value) ∧ ρ 2 = (.pointer (some ⟨n2, 0, none⟩) : Value) ∧ ρ 4 = (.bool (false) : Value) ∧ True) ⟨T0, T1, rfl, rfl, trivial⟩ fun ρ10 ⟨T0, T1, T2, T4, _⟩ => ?_
  refine thenF_normal (hK1 _ _ ?_)
  refine wpF_seq_k fun K11 hK11 => ?_
  refine wpF_text ?_
  refine opsF_step rfl (YieldsK.loadAll (show _ = (.pointer (some ⟨n2, 0, none⟩) : Value) from T2) hb8 leb8_ty33 rfl (by rw [List.size_toArray, Lib.byteCells_length, hid]; exact leb8_isz33) ?_)    -- ref.go:116 t6 := (Op.load 33 (Operand.tmp 2))
  refine opsF_step rfl (YieldsK.callA1 leb8_pl20 (show _ = (.agg (Lib.byteCells id).toArray : Value) from rfl) ?_)    -- ref.go:116 t7 := (Op.call { callee := (Callee.value (Operand.func 20)), args := #[(Operand.tmp 6)], argTypes := #[33] })
  refine (refHex_any _ id hid).mono ?_
  rintro e w13 ⟨rfl, hx12⟩
  refine ⟨_, rfl, ?_⟩
  have hE : Ext w w13 := (hE.trans hx12)
  have hb8 : w13.heap[n2]? = some (.cells (Lib.byteCells id).toArray 33 (0, 0)) := (Ext.blk' hx12 hb8)
  refine opsF_step rfl (YieldsK.assign (show _ = (.string ⟨(hexOf id).toArray⟩ : Value) from rfl) ?_)    -- ref.go:116 t5 := (Op.assign (Operand.tmp 7))
  refine opsF_end (fun ρ => ρ 0 = (.agg (Lib.byteCells id).toArray : Value) ∧ ρ 1 = (.string ⟨(s).toArray⟩ : Value) ∧ ρ 2 = (.pointer (some ⟨n2, 0, none⟩) : Value) ∧ ρ 4 = (.bool (false) : Value) ∧ ρ 5 = (.string ⟨(hexOf id).toArray⟩ : Value) ∧ True) ⟨T0, T1, T2, T4, rfl, trivial⟩ fun ρ14 ⟨T0, T1, T2, T4, T5, _⟩ => ?_
  refine thenF_normal (hK11 _ _ ?_)
  refine wpF_seq_k fun K15 hK15 => ?_
  refine wpF_text ?_
  refine opsF_step rfl (YieldsK.move (show _ = (.string ⟨(s).toArray⟩ : Value) from T1) ?_)    -- ref.go:117 t8 := (Op.move (Operand.tmp 1))
  refine opsF_step rfl (YieldsK.lenSt (l := s) leb8_ty9 (show _ = (.string ⟨(s).toArray⟩ : Value) from rfl) ?_)    -- ref.go:117 t9 := (Op.call { callee := (Callee.builtin Builtin.len), args := #[(Operand.tmp 8)], argTypes := #[9] })
  refine opsF_step rfl (YieldsK.eqI (a := ((s.length : Nat) : Int)) (b := ((1 : Nat) : Int)) (show _ = (.int .i64 ((s.length : Nat) : Int) : Value) from rfl) (show _ = (.int .i64 ((1 : Nat) : Int) : Value) from rfl) (k_geq _ .i64 (s.length) (1)) ?_)    -- ref.go:117 t10 := (Op.binOp BinOp.geq 3 (Operand.tmp 9) (Operand.const (Value.int IntKind.i64 1)) 3)
  refine opsF_step rfl (YieldsK.move (show _ = (.bool (false) : Value) from (congrArg Value.bool (decide_eq_false (by omega)))) ?_)    -- ref.go:117 t11 := (Op.move (Operand.tmp 10))
  refine opsF_off (d := 11) rfl rfl rfl (show _ = (.bool (false) : Value) from rfl) rfl ?_    -- ref.go:117 t12 := (Op.move (Operand.tmp 1))
  refine opsF_off (d := 11) rfl rfl rfl (show _ = (.bool (false) : Value) from rfl) rfl ?_    -- ref.go:117 t13 := (Op.call { callee := (Callee.builtin Builtin.len), args := #[(Operand.tmp 12)], argTypes := #[9] })
  refine opsF_off (d := 11) rfl rfl rfl (show _ = (.bool (false) : Value) from rfl) rfl ?_    -- ref.go:117 t14 := (Op.binOp BinOp.leq 3 (Operand.tmp 13) (Operand.const (Value.int IntKind.i64 64)) 3)
  refine opsF_step rfl (YieldsK.pickF (show _ = (.bool (false) : Value) from rfl) (show _ = (.bool (false) : Value) from rfl) ?_)    -- ref.go:117 t15 := (Op.pick (Operand.tmp 11) (Operand.tmp 14) (Operand.const (Value.bool false)))
  refine opsF_step rfl (YieldsK.move (show _ = (.bool (false) : Value) from rfl) ?_)    -- ref.go:117 t16 := (Op.move (Operand.tmp 15))
  refine opsF_off (d := 16) rfl rfl rfl (show _ = (.bool (false) : Value) from rfl) rfl ?_    -- ref.go:117 t17 := (Op.move (Operand.tmp 5))
  refine opsF_off (d := 16) rfl rfl rfl (show _ = (.bool (false) : Value) from rfl) rfl ?_    -- ref.go:117 t18 := (Op.move (Operand.tmp 1))
  refine opsF_off (d := 16) rfl rfl rfl (show _ = (.bool (false) : Value) from rfl) rfl ?_    -- ref.go:117 t19 := (Op.call { callee := (Callee.builtin Builtin.len), args := #[(Operand.tmp 18)], argTypes := #[9] })
  refine opsF_off (d := 16) rfl rfl rfl (show _ = (.bool (false) : Value) from rfl) rfl ?_    -- ref.go:117 t20 := (Op.slice 9 (Operand.tmp 17) none (some (Operand.tmp 19)) none)
  refine opsF_off (d := 16) rfl rfl rfl (show _ = (.bool (false) : Value) from rfl) rfl ?_    -- ref.go:117 t21 := (Op.move (Operand.tmp 1))
  refine opsF_off (d := 16) rfl rfl rfl (show _ = (.bool (false) : Value) from rfl) rfl ?_    -- ref.go:117 t22 := (Op.binOp BinOp.eql 9 (Operand.tmp 20) (Operand.tmp 21) 9)
  refine opsF_step rfl (YieldsK.pickF (show _ = (.bool (false) : Value) from rfl) (show _ = (.bool (false) : Value) from rfl) ?_)    -- ref.go:117 t23 := (Op.pick (Operand.tmp 16) (Operand.tmp 22) (Operand.const (Value.bool false)))
  refine opsF_step rfl (YieldsK.assign (show _ = (.bool (false) : Value) from rfl) ?_)    -- ref.go:117 t4 := (Op.assign (Operand.tmp 23))
  refine opsF_end (fun ρ => ρ 0 = (.agg (Lib.byteCells id).toArray : Value) ∧ ρ 1 = (.string ⟨(s).toArray⟩ : Value) ∧ ρ 2 = (.pointer (some ⟨n2, 0, none⟩) : Value) ∧ ρ 4 = (.bool (false) : Value) ∧ ρ 5 = (.string ⟨(hexOf id).toArray⟩ : Value) ∧ True) ⟨T0, T1, T2, rfl, T5, trivial⟩ fun ρ16 ⟨T0, T1, T2, T4, T5, _⟩ => ?_
  refine thenF_normal (hK15 _ _ ?_)
  refine wpF_ret ?_
  refine postF_ret (fn := Try.f22) _ rfl [.bool (false)] (.bool (false)) rfl ⟨T4, trivial⟩ ?_
  exact ⟨congrArg (fun z => Ending.returned (.bool z)) (by unfold startsB; rw [decide_eq_false (by omega)]), hE⟩

theorem refStarts_1 (w : World) (id : List UInt8) (hid : id.length = 32) (s : List UInt8) (h : 0 < s.length) (h2 : s.length ≤ 64) :
    Calls Try.prog 22 #[.agg (Lib.byteCells id).toArray, St s] w fun e w' => e = .returned (.bool (startsB id s)) ∧ Ext w w' := by
  have hl : (hexOf id).length = 64 := by rw [hexOf_length, hid]
  refine calls_of_wpF (args := [.agg (Lib.byteCells id).toArray, .string ⟨(s).toArray⟩]) Try.func22 rfl 24 rfl (Nat.le_of_ble_eq_true rfl) ?_
  intro ρ0 hb
  have T0 : ρ0 0 = (.agg (Lib.byteCells id).toArray : Value) := hb.get 0
  have T1 : ρ0 1 = (.string ⟨(s).toArray⟩ : Value) := hb.get 1
  clear hb
  have hE := Ext.refl w
  refine wpF_seq_k fun K1 hK1 => ?_
  refine wpF_text ?_
  refine opsF_step rfl (YieldsK.box (cs := (Lib.byteCells id).toArray) (show _ = (.agg (Lib.byteCells id).toArray : Value) from T0) fun n2 w3 hn4 hb5 hx6 hs7 => ?_)    -- ref.go:115 t2 := (Op.box 33 (Operand.tmp 0))
  have hE : Ext w w3 := (hE.trans hx6)
  have hb8 := hb5; clear hb5
  have hl9 : n2 < w3.heap.size := by omega
  refine opsF_step rfl (YieldsK.assign (show _ = (.bool (false) : Value) from rfl) ?_)    -- ref.go:115 t4 := (Op.assign (Operand.const (Value.bool false)))
  refine opsF_end (fun ρ => ρ 0 = (.agg (Lib.byteCells id).toArray : Value) ∧ ρ 1 = (.string ⟨(s).toArray⟩ : Value) ∧ ρ 2 = (.pointer (some ⟨n2, 0, none⟩) : Value) ∧ ρ 4 = (.bool (false) : Value) ∧ True) ⟨T0, T1, rfl, rfl, trivial⟩ fun ρ10 ⟨T0, T1, T2, T4, _⟩ => ?_
  refine thenF_normal (hK1 _ _ ?_)
  refine wpF_seq_k fun K11 hK11 => ?_
  refine wpF_text ?_
  refine opsF_step rfl (YieldsK.loadAll (show _ = (.pointer (some ⟨n2, 0, none⟩) : Value) from T2) hb8 leb8_ty33 rfl (by rw [List.size_toArray, Lib.byteCells_length, hid]; exact leb8_isz33) ?_)    -- ref.go:116 t6 := (Op.load 33 (Operand.tmp 2))
  refine opsF_step rfl (YieldsK.callA1 leb8_pl20 (show _ = (.agg (Lib.byteCells id).toArray : Value) from rfl) ?_)    -- ref.go:116 t7 := (Op.call { callee := (Callee.value (Operand.func 20)), args := #[(Operand.tmp 6)], argTypes := #[33] })
  refine (refHex_any _ id hid).mono ?_
  rintro e w13 ⟨rfl, hx12⟩
  refine ⟨_, rfl, ?_⟩
  have hE : Ext w w13 := (hE.trans hx12)
  have hb8 : w13.heap[n2]? = some (.cells (Lib.byteCells id).toArray 33 (0, 0)) := (Ext.blk' hx12 hb8)
  refine opsF_step rfl (YieldsK.assign (show _ = (.string ⟨(hexOf id).toArray⟩ : Value) from rfl) ?_)    -- ref.go:116 t5 := (Op.assign (Operand.tmp 7))
  refine opsF_end (fun ρ => ρ 0 = (.agg (Lib.byteCells id).toArray : Value) ∧ ρ 1 = (.string ⟨(s).toArray⟩ : Value) ∧ ρ 2 = (.pointer (some ⟨n2, 0, none⟩) : Value) ∧ ρ 4 = (.bool (false) : Value) ∧ ρ 5 = (.string ⟨(hexOf id).toArray⟩ : Value) ∧ True) ⟨T0, T1, T2, T4, rfl, trivial⟩ fun ρ14 ⟨T0, T1, T2, T4, T5, _⟩ => ?_
  refine thenF_normal (hK11 _ _ ?_)
  refine wpF_seq_k fun K15 hK15 => ?_
  refine wpF_text ?_
  refine opsF_step rfl (YieldsK.move (show _ = (.string ⟨(s).toArray⟩ : Value) from T1) ?_)    -- ref.go:117 t8 := (Op.move (Operand.tmp 1))
  refine opsF_step rfl (YieldsK.lenSt (l := s) leb8_ty9 (show _ = (.string ⟨(s).toArray⟩ : Value) from rfl) ?_)    -- ref.go:117 t9 := (Op.call { callee := (Callee.builtin Builtin.len), args := #[(Operand.tmp 8)], argTypes := #[9] })
  refine opsF_step rfl (YieldsK.eqI (a := ((s.length : Nat) : Int)) (b := ((1 : Nat) : Int)) (show _ = (.int .i64 ((s.length : Nat) : Int) : Value) from rfl) (show _ = (.int .i64 ((1 : Nat) : Int) : Value) from rfl) (k_geq _ .i64 (s.length) (1)) ?_)    -- ref.go:117 t10 := (Op.binOp BinOp.geq 3 (Operand.tmp 9) (Operand.const (Value.int IntKind.i64 1)) 3)
  refine opsF_step rfl (YieldsK.move (show _ = (.bool (true) : Value) from (congrArg Value.bool (decide_eq_true (h)))) ?_)    -- ref.go:117 t11 := (Op.move (Operand.tmp 10))
  refine opsF_on (d := 11) rfl rfl (show _ = (.bool (true) : Value) from rfl) (YieldsK.move (show _ = (.string ⟨(s).toArray⟩ : Value) from T1) ?_)    -- ref.go:117 t12 := (Op.move (Operand.tmp 1))
  refine opsF_on (d := 11) rfl rfl (show _ = (.bool (true) : Value) from rfl) (YieldsK.lenSt (l := s) leb8_ty9 (show _ = (.string ⟨(s).toArray⟩ : Value) from rfl) ?_)    -- ref.go:117 t13 := (Op.call { callee := (Callee.builtin Builtin.len), args := #[(Operand.tmp 12)], argTypes := #[9] })
  refine opsF_on (d := 11) rfl rfl (show _ = (.bool (true) : Value) from rfl) (YieldsK.eqI (a := ((s.length : Nat) : Int)) (b := ((64 : Nat) : Int)) (show _ = (.int .i64 ((s.length : Nat) : Int) : Value) from rfl) (show _ = (.int .i64 ((64 : Nat) : Int) : Value) from rfl) (k_leq _ .i64 (s.length) (64)) ?_)    -- ref.go:117 t14 := (Op.binOp BinOp.leq 3 (Operand.tmp 13) (Operand.const (Value.int IntKind.i64 64)) 3)
  refine opsF_step rfl (YieldsK.pickT (show _ = (.bool (true) : Value) from rfl) (show _ = (.bool (true) : Value) from (congrArg Value.bool (decide_eq_true (h2)))) ?_)    -- ref.go:117 t15 := (Op.pick (Operand.tmp 11) (Operand.tmp 14) (Operand.const (Value.bool false)))
  refine opsF_step rfl (YieldsK.move (show _ = (.bool (true) : Value) from rfl) ?_)    -- ref.go:117 t16 := (Op.move (Operand.tmp 15))
  refine opsF_on (d := 16) rfl rfl (show _ = (.bool (true) : Value) from rfl) (YieldsK.move (show _ = (.string ⟨(hexOf id).toArray⟩ : Value) from T5) ?_)    -- ref.go:117 t17 := (Op.move (Operand.tmp 5))
  refine opsF_on (d := 16) rfl rfl (show _ = (.bool (true) : Value) from rfl) (YieldsK.move (show _ = (.string ⟨(s).toArray⟩ : Value) from T1) ?_)    -- ref.go:117 t18 := (Op.move (Operand.tmp 1))
  refine opsF_on (d := 16) rfl rfl (show _ = (.bool (true) : Value) from rfl) (YieldsK.lenSt (l := s) leb8_ty9 (show _ = (.string ⟨(s).toArray⟩ : Value) from rfl) ?_)    -- ref.go:117 t19 := (Op.call { callee := (Callee.builtin Builtin.len), args := #[(Operand.tmp 18)], argTypes := #[9] })
  refine opsF_on (d := 16) rfl rfl (show _ = (.bool (true) : Value) from rfl) (YieldsK.sliceSt (l := hexOf id) leb8_ty9 (0) (s.length) (show _ = (.string ⟨(hexOf id).toArray⟩ : Value) from rfl) (.inl ⟨rfl, rfl⟩) (.inr ⟨.i64, congrArg some (show _ = (.int .i64 ((s.length : Nat) : Int) : Value) from rfl)⟩) (Nat.zero_le _) (by omega) ?_)    -- ref.go:117 t20 := (Op.slice 9 (Operand.tmp 17) none (some (Operand.tmp 19)) none)
  refine opsF_on (d := 16) rfl rfl (show _ = (.bool (true) : Value) from rfl) (YieldsK.move (show _ = (.string ⟨(s).toArray⟩ : Value) from T1) ?_)    -- ref.go:117 t21 := (Op.move (Operand.tmp 1))
  refine opsF_on (d := 16) rfl rfl (show _ = (.bool (true) : Value) from rfl) (YieldsK.eqSt (l := ((hexOf id : List UInt8).drop (0)).take ((s.length) - (0))) (m := s) (.inl rfl) (show _ = (.string ⟨(((hexOf id : List UInt8).drop (0)).take ((s.length) - (0))).toArray⟩ : Value) from rfl) (show _ = (.string ⟨(s).toArray⟩ : Value) from rfl) (decide (((hexOf id : List UInt8).drop (0)).take ((s.length) - (0)) = s)) rfl ?_)    -- ref.go:117 t22 := (Op.binOp BinOp.eql 9 (Operand.tmp 20) (Operand.tmp 21) 9)
  refine opsF_step rfl (YieldsK.pickT (show _ = (.bool (true) : Value) from rfl) (show _ = (.bool (decide (((hexOf id : List UInt8).drop (0)).take ((s.length) - (0)) = s)) : Value) from rfl) ?_)    -- ref.go:117 t23 := (Op.pick (Operand.tmp 16) (Operand.tmp 22) (Operand.const (Value.bool false)))
  refine opsF_step rfl (YieldsK.assign (show _ = (.bool (decide (((hexOf id : List UInt8).drop (0)).take ((s.length) - (0)) = s)) : Value) from rfl) ?_)    -- ref.go:117 t4 := (Op.assign (Operand.tmp 23))
  refine opsF_end (fun ρ => ρ 0 = (.agg (Lib.byteCells id).toArray : Value) ∧ ρ 1 = (.string ⟨(s).toArray⟩ : Value) ∧ ρ 2 = (.pointer (some ⟨n2, 0, none⟩) : Value) ∧ ρ 4 = (.bool (decide (((hexOf id : List UInt8).drop (0)).take ((s.length) - (0)) = s)) : Value) ∧ ρ 5 = (.string ⟨(hexOf id).toArray⟩ : Value) ∧ True) ⟨T0, T1, T2, rfl, T5, trivial⟩ fun ρ16 ⟨T0, T1, T2, T4, T5, _⟩ => ?_
  refine thenF_normal (hK15 _ _ ?_)
  refine wpF_ret ?_
  refine postF_ret (fn := Try.f22) _ rfl [.bool (decide (((hexOf id : List UInt8).drop (0)).take ((s.length) - (0)) = s))] (.bool (decide (((hexOf id : List UInt8).drop (0)).take ((s.length) - (0)) = s))) rfl ⟨T4, trivial⟩ ?_
  exact ⟨congrArg (fun z => Ending.returned (.bool z)) (by unfold startsB; simp [h, hl, h2]), hE⟩

theorem refStarts_2 (w : World) (id : List UInt8) (hid : id.length = 32) (s : List UInt8) (h : 64 < s.length) :
    Calls Try.prog 22 #[.agg (Lib.byteCells id).toArray, St s] w fun e w' => e = .returned (.bool (startsB id s)) ∧ Ext w w' := by
  have hl : (hexOf id).length = 64 := by rw [hexOf_length, hid]
  refine calls_of_wpF (args := [.agg (Lib.byteCells id).toArray, .string ⟨(s).toArray⟩]) Try.func22 rfl 24 rfl (Nat.le_of_ble_eq_true rfl) ?_
  intro ρ0 hb
  have T0 : ρ0 0 = (.agg (Lib.byteCells id).toArray : Value) := hb.get 0
  have T1 : ρ0 1 = (.string ⟨(s).toArray⟩ : Value) := hb.get 1
  clear hb
  have hE := Ext.refl w
  refine wpF_seq_k fun K1 hK1 => ?_
  refine wpF_text ?_
  refine opsF_step rfl (YieldsK.box (cs := (Lib.byteCells id).toArray) (show _ = (.agg (Lib.byteCells id).toArray : Value) from T0) fun n2 w3 hn4 hb5 hx6 hs7 => ?_)    -- ref.go:115 t2 := (Op.box 33 (Operand.tmp 0))
  have hE : Ext w w3 := (hE.trans hx6)
  have hb8 := hb5; clear hb5
  have hl9 : n2 < w3.heap.size := by omega
  refine opsF_step rfl (YieldsK.assign (show _ = (.bool (false) : Value) from rfl) ?_)    -- ref.go:115 t4 := (Op.assign (Operand.const (Value.bool false)))
  refine opsF_end (fun ρ => ρ 0 = (.agg (Lib.byteCells id).toArray : Value) ∧ ρ 1 = (.string ⟨(s).toArray⟩ : Value) ∧ ρ 2 = (.pointer (some ⟨n2, 0, none⟩) : Value) ∧ ρ 4 = (.bool (false) : Value) ∧ True) ⟨T0, T1, rfl, rfl, trivial⟩ fun ρ10 ⟨T0, T1, T2, T4, _⟩ => ?_
  refine thenF_normal (hK1 _ _ ?_)
  refine wpF_seq_k fun K11 hK11 => ?_
  refine wpF_text ?_
  refine opsF_step rfl (YieldsK.loadAll (show _ = (.pointer (some ⟨n2, 0, none⟩) : Value) from T2) hb8 leb8_ty33 rfl (by rw [List.size_toArray, Lib.byteCells_length, hid]; exact leb8_isz33) ?_)    -- ref.go:116 t6 := (Op.load 33 (Operand.tmp 2))
  refine opsF_step rfl (YieldsK.callA1 leb8_pl20 (show _ = (.agg (Lib.byteCells id).toArray : Value) from rfl) ?_)    -- ref.go:116 t7 := (Op.call { callee := (Callee.value (Operand.func 20)), args := #[(Operand.tmp 6)], argTypes := #[33] })
  refine (refHex_any _ id hid).mono ?_
  rintro e w13 ⟨rfl, hx12⟩
  refine ⟨_, rfl, ?_⟩
  have hE : Ext w w13 := (hE.trans hx12)
  have hb8 : w13.heap[n2]? = some (.cells (Lib.byteCells id).toArray 33 (0, 0)) := (Ext.blk' hx12 hb8)
  refine opsF_step rfl (YieldsK.assign (show _ = (.string ⟨(hexOf id).toArray⟩ : Value) from rfl) ?_)    -- ref.go:116 t5 := (Op.assign (Operand.tmp 7))
  refine opsF_end (fun ρ => ρ 0 = (.agg (Lib.byteCells id).toArray : Value) ∧ ρ 1 = (.string ⟨(s).toArray⟩ : Value) ∧ ρ 2 = (.pointer (some ⟨n2, 0, none⟩) : Value) ∧ ρ 4 = (.bool (false) : Value) ∧ ρ 5 = (.string ⟨(hexOf id).toArray⟩ : Value) ∧ True) ⟨T0, T1, T2, T4, rfl, trivial⟩ fun ρ14 ⟨T0, T1, T2, T4, T5, _⟩ => ?_
  refine thenF_normal (hK11 _ _ ?_)
  refine wpF_seq_k fun K15 hK15 => ?_
  refine wpF_text ?_
  refine opsF_step rfl (YieldsK.move (show _ = (.string ⟨(s).toArray⟩ : Value) from T1) ?_)    -- ref.go:117 t8 := (Op.move (Operand.tmp 1))
  refine opsF_step rfl (YieldsK.lenSt (l := s) leb8_ty9 (show _ = (.string ⟨(s).toArray⟩ : Value) from rfl) ?_)    -- ref.go:117 t9 := (Op.call { callee := (Callee.builtin Builtin.len), args := #[(Operand.tmp 8)], argTypes := #[9] })
  refine opsF_step rfl (YieldsK.eqI (a := ((s.length : Nat) : Int)) (b := ((1 : Nat) : Int)) (show _ = (.int .i64 ((s.length : Nat) : Int) : Value) from rfl) (show _ = (.int .i64 ((1 : Nat) : Int) : Value) from rfl) (k_geq _ .i64 (s.length) (1)) ?_)    -- ref.go:117 t10 := (Op.binOp BinOp.geq 3 (Operand.tmp 9) (Operand.const (Value.int IntKind.i64 1)) 3)
  refine opsF_step rfl (YieldsK.move (show _ = (.bool (true) : Value) from (congrArg Value.bool (decide_eq_true (by omega)))) ?_)    -- ref.go:117 t11 := (Op.move (Operand.tmp 10))
  refine opsF_on (d := 11) rfl rfl (show _ = (.bool (true) : Value) from rfl) (YieldsK.move (show _ = (.string ⟨(s).toArray⟩ : Value) from T1) ?_)    -- ref.go:117 t12 := (Op.move (Operand.tmp 1))
  refine opsF_on (d := 11) rfl rfl (show _ = (.bool (true) : Value) from rfl) (YieldsK.lenSt (l := s) leb8_ty9 (show _ = (.string ⟨(s).toArray⟩ : Value) from rfl) ?_)    -- ref.go:117 t13 := (Op.call { callee := (Callee.builtin Builtin.len), args := #[(Operand.tmp 12)], argTypes := #[9] })
  refine opsF_on (d := 11) rfl rfl (show _ = (.bool (true) : Value) from rfl) (YieldsK.eqI (a := ((s.length : Nat) : Int)) (b := ((64 : Nat) : Int)) (show _ = (.int .i64 ((s.length : Nat) : Int) : Value) from rfl) (show _ = (.int .i64 ((64 : Nat) : Int) : Value) from rfl) (k_leq _ .i64 (s.length) (64)) ?_)    -- ref.go:117 t14 := (Op.binOp BinOp.leq 3 (Operand.tmp 13) (Operand.const (Value.int IntKind.i64 64)) 3)
  refine opsF_step rfl (YieldsK.pickT (show _ = (.bool (true) : Value) from rfl) (show _ = (.bool (false) : Value) from (congrArg Value.bool (decide_eq_false (by omega)))) ?_)    -- ref.go:117 t15 := (Op.pick (Operand.tmp 11) (Operand.tmp 14) (Operand.const (Value.bool false)))
  refine opsF_step rfl (YieldsK.move (show _ = (.bool (false) : Value) from rfl) ?_)    -- ref.go:117 t16 := (Op.move (Operand.tmp 15))
  refine opsF_off (d := 16) rfl rfl rfl (show _ = (.bool (false) : Value) from rfl) rfl ?_    -- ref.go:117 t17 := (Op.move (Operand.tmp 5))
  refine opsF_off (d := 16) rfl rfl rfl (show _ = (.bool (false) : Value) from rfl) rfl ?_    -- ref.go:117 t18 := (Op.move (Operand.tmp 1))
  refine opsF_off (d := 16) rfl rfl rfl (show _ = (.bool (false) : Value) from rfl) rfl ?_    -- ref.go:117 t19 := (Op.call { callee := (Callee.builtin Builtin.len), args := #[(Operand.tmp 18)], argTypes := #[9] })
  refine opsF_off (d := 16) rfl rfl rfl (show _ = (.bool (false) : Value) from rfl) rfl ?_    -- ref.go:117 t20 := (Op.slice 9 (Operand.tmp 17) none (some (Operand.tmp 19)) none)
  refine opsF_off (d := 16) rfl rfl rfl (show _ = (.bool (false) : Value) from rfl) rfl ?_    -- ref.go:117 t21 := (Op.move (Operand.tmp 1))
  refine opsF_off (d := 16) rfl rfl rfl (show _ = (.bool (false) : Value) from rfl) rfl ?_    -- ref.go:117 t22 := (Op.binOp BinOp.eql 9 (Operand.tmp 20) (Operand.tmp 21) 9)
  refine opsF_step rfl (YieldsK.pickF (show _ = (.bool (false) : Value) from rfl) (show _ = (.bool (false) : Value) from rfl) ?_)    -- ref.go:117 t23 := (Op.pick (Operand.tmp 16) (Operand.tmp 22) (Operand.const (Value.bool false)))
  refine opsF_step rfl (YieldsK.assign (show _ = (.bool (false) : Value) from rfl) ?_)    -- ref.go:117 t4 := (Op.assign (Operand.tmp 23))
  refine opsF_end (fun ρ => ρ 0 = (.agg (Lib.byteCells id).toArray : Value) ∧ ρ 1 = (.string ⟨(s).toArray⟩ : Value) ∧ ρ 2 = (.pointer (some ⟨n2, 0, none⟩) : Value) ∧ ρ 4 = (.bool (false) : Value) ∧ ρ 5 = (.string ⟨(hexOf id).toArray⟩ : Value) ∧ True) ⟨T0, T1, T2, rfl, T5, trivial⟩ fun ρ16 ⟨T0, T1, T2, T4, T5, _⟩ => ?_
  refine thenF_normal (hK15 _ _ ?_)
  refine wpF_ret ?_
  refine postF_ret (fn := Try.f22) _ rfl [.bool (false)] (.bool (false)) rfl ⟨T4, trivial⟩ ?_
  exact ⟨congrArg (fun z => Ending.returned (.bool z)) (by unfold startsB; rw [decide_eq_false (by omega)]), hE⟩

theorem refStarts_any (w : World) (id : List UInt8) (hid : id.length = 32) (s : List UInt8) :
    Calls Try.prog 22 #[.agg (Lib.byteCells id).toArray, St s] w fun e w' => e = .returned (.bool (startsB id s)) ∧ Ext w w' := by
  by_cases h : s.length < 1
  · exact refStarts_0 w id hid s h
  · by_cases h2 : s.length ≤ 64
    · exact refStarts_1 w id hid s (by omega) h2
    · exact refStarts_2 w id hid s (by omega)
end Go.Proofs.Ytcindgknimallaa
