/- The walk of leb.GetId. -/
import Derived.Test.YtcindgknimallaaLeb4
namespace Go.Proofs.Ytcindgknimallaa
open Go.RowKit
theorem uId : Try.prog.underlying 33 = some (.array 32 5) := by kernel_rfl
theorem sizeId : (Try.prog.info? 33).map (·.size) = some 32 := by kernel_rfl
theorem sizeB1 : (Try.prog.info? 5).map (·.size) = some 1 := by kernel_rfl

/-- The id of no bytes. -/
def zero32 : List UInt8 := List.replicate 32 0
theorem zero32_cells : #[Value.int IntKind.u8 0, Value.int IntKind.u8 0, Value.int IntKind.u8 0, Value.int IntKind.u8 0, Value.int IntKind.u8 0, Value.int IntKind.u8 0, Value.int IntKind.u8 0, Value.int IntKind.u8 0, Value.int IntKind.u8 0, Value.int IntKind.u8 0, Value.int IntKind.u8 0, Value.int IntKind.u8 0, Value.int IntKind.u8 0, Value.int IntKind.u8 0, Value.int IntKind.u8 0, Value.int IntKind.u8 0, Value.int IntKind.u8 0, Value.int IntKind.u8 0, Value.int IntKind.u8 0, Value.int IntKind.u8 0, Value.int IntKind.u8 0, Value.int IntKind.u8 0, Value.int IntKind.u8 0, Value.int IntKind.u8 0, Value.int IntKind.u8 0, Value.int IntKind.u8 0, Value.int IntKind.u8 0, Value.int IntKind.u8 0, Value.int IntKind.u8 0, Value.int IntKind.u8 0, Value.int IntKind.u8 0, Value.int IntKind.u8 0] = (Lib.byteCells zero32).toArray := rfl

theorem idCells_size {l : List UInt8} (h : l.length = 32) : (Lib.byteCells l).toArray.size = 32 := by simp [Lib.byteCells, h]
theorem sizeId_of {l : List UInt8} (h : l.length = 32) : (Try.prog.info? 33).map (·.size) = some (Lib.byteCells l).toArray.size := by rw [idCells_size h]; exact sizeId
theorem zero32_len : zero32.length = 32 := List.length_replicate

theorem allocId (ρ : Operand → Value) (d : Option Tmp) (ty : TypeId) (pos : String) (af : Array Edge) (w : World) : (execOp ρ ⟨d, .alloc 33, ty, pos, af, none⟩).run Try.prog w = .ok (.value (.pointer (some ⟨w.heap.size, 0, none⟩))) (w.alloc (.cells (Lib.byteCells zero32).toArray 33)) := by kernel_rfl

/-- What GetId answers, at a place within. -/
def getIdRes (l : List UInt8) (a : Nat) : Value :=
  if l.length - a < 32 then .tuple #[.agg (Lib.byteCells zero32).toArray, .int .i64 0, .int .i64 6]
  else .tuple #[.agg (Lib.byteCells ((l.drop a).take 32)).toArray, .int .i64 ↑(a + 32), .int .i64 0]

set_option maxRecDepth 100000 in
set_option maxHeartbeats 1000000 in
theorem getId_in (w : World) (v : Value) (l : List UInt8) (hr : RB w v l) (a : Nat) (ha : a ≤ l.length) :
    Calls Try.prog 16 #[v, .int .i64 a] w fun e w' => e = .returned (getIdRes l a) ∧ Ext w w' := by
  have HR := Lib.hid hr
  obtain ⟨ao, cap, rfl, h2, h3⟩ := hr.len
  clear hr
  have hd : decide ((a : Int) < 0) = false := by simp
  have hd2 : decide (l.length < a) = false := by simp; omega
  by_cases hs : l.length - a < 32
  · have hR : getIdRes l a = .tuple #[.agg (Lib.byteCells zero32).toArray, .int .i64 0, .int .i64 6] := by unfold getIdRes; rw [if_pos hs]
    rw [hR]
    clear hR
    go_enter Try.func16, Try.ntmps16
    have HSI := Lib.hid (sizeId_of zero32_len)
    go_wp2_with (first | (refine wpList_value (o := ⟨some 4, .alloc _, _, _, _, _⟩) rfl _ _ (allocId _ _ _ _ _ _) ?_) | (refine wpList_load_row (o := ⟨some 21, _, _, _, _, _⟩) rfl _ _ rfl w.heap.size rfl _ _ _ _ (heap_alloc_new w _) uId rfl HSI.out ?_) | (refine wpList_store_same (o := ⟨none, .store _ _ _, _, _, _, _⟩) rfl _ _ _ rfl w.heap.size rfl (Lib.byteCells zero32).toArray 33 rfl (heap_alloc_new w _) HSI.out (byteCells_one zero32) ?_))
    refine bodyPost_ret (v := .tuple #[.agg (Lib.byteCells zero32).toArray, .int .i64 0, .int .i64 6]) (results_cell2 Try.results16 _ _ w.heap.size 33 (Lib.byteCells zero32).toArray (0, 0) _ rfl (heap_alloc_new w _) uId rfl HSI.out) rfl ⟨rfl, (Below.refl _ _).alloc (Nat.le_refl _) _⟩
  · have hR : getIdRes l a = .tuple #[.agg (Lib.byteCells ((l.drop a).take 32)).toArray, .int .i64 ↑(a + 32), .int .i64 0] := by unfold getIdRes; rw [if_neg hs]
    rw [hR]
    clear hR
    go_enter Try.func16, Try.ntmps16
    go_wp2_with (refine wpList_value (o := ⟨some 4, .alloc _, _, _, _, _⟩) rfl _ _ (allocId _ _ _ _ _ _) ?_)
    have hal : a + 32 ≤ l.length := by omega
    obtain ⟨w0, hw0⟩ : ∃ w0, w0 = w.alloc (.cells (Lib.byteCells zero32).toArray 33) := ⟨_, rfl⟩
    have hbox : w0.heap[w.heap.size]? = some (.cells (Lib.byteCells zero32).toArray 33 (0, 0)) := by rw [hw0]; exact heap_alloc_new w _
    have hsz : w0.heap.size = w.heap.size + 1 := by rw [hw0]; simp
    have hb0 : Below w.heap.size w w0 := by rw [hw0]; exact (Below.refl _ _).alloc (Nat.le_refl _) _
    rw [← hw0]
    clear hw0
    have hl32 : ((l.drop a).take 32).length = 32 := by rw [List.length_take, List.length_drop]; omega
    have HL32 := Lib.hid hl32
    clear hl32 hd hd2
    refine wp_region_kill [4] (fun n => if n = 4 then [3] else []) (fun w' => Below w.heap.size w0 w' ∧ ∃ cur : Array Value, cur.size = 32 ∧ w'.heap[w.heap.size]? = some (.cells cur 33 (0, 0)))
      (fun w1 w2 => w1.grownBy w2 (some w.heap.size) ∧ ((∃ cur : Array Value, cur.size = 32 ∧ w1.heap[w.heap.size]? = some (.cells cur 33 (0, 0))) → ∃ cur : Array Value, cur.size = 32 ∧ w2.heap[w.heap.size]? = some (.cells cur 33 (0, 0))))
      [Is (.slice (some ⟨w.heap.size, 0, none⟩) 32 32), Is (.slice ao l.length cap), Is (.int .i64 a), (fun x w' => RB w' x (l.drop a)), (fun _ w' => w'.heap[w.heap.size]? = some (.cells (Lib.byteCells ((l.drop a).take 32)).toArray 33 (0, 0)))]
      (by kernel_rfl) _ _ (by kernel_rfl) (by kernel_rfl) [22, 23, 24, 25, 26] (by kernel_rfl)
      (fun w1 w2 h k => ⟨h.1.trans (k.mono (by have := h.1.size; have := hsz; omega)), by obtain ⟨cur, h1, h2⟩ := h.2; exact ⟨cur, h1, (k.block _ (Array.getElem?_eq_some_iff.1 h2).1).trans h2⟩⟩)
      (fun w1 w2 h k => ⟨h.1.grown k.1 (by have := h.1.size; have := hsz; omega) (fun _ e => by cases e; exact Nat.le_refl _), k.2 h.2⟩) (fun w => ⟨World.grownBy.refl _ _, fun h => h⟩) ⟨(Below.refl _ _).drew, _, idCells_size rfl, hbox⟩ ?hst ?hsk ?hs ?hQ
    case hst =>
      refine ⟨Stab.is _, Stab.is _, Stab.is _, Stab.rb _, fun v w1 w2 h k => ?_, trivial⟩
      have h' : w1.heap[w.heap.size]? = _ := h
      exact (k.block _ (Array.getElem?_eq_some_iff.1 h').1).trans h'
    case hsk =>
      intro n i hn hi hk hne hb
      simp at hn
      subst hn
      match i, hi, hk, hne, hb with
      | 0, _, _, _, _ => exact Stab.is _
      | 1, _, _, _, _ => exact Stab.is _
      | 2, _, _, _, _ => exact Stab.is _
      | 3, _, hk, _, _ => simp at hk
      | 4, _, _, hne, _ => simp at hne
    case hs =>
      refine ⟨?_, ?_, ?_, ?_, ?_, trivial⟩
      · refine stepNone rfl fun ρ w1 hC h => ?_
        have h4 : ρ 4 = .pointer (some ⟨w.heap.size, 0, none⟩) := h 4 (by decide)
        refine YieldsK.value (v := .slice (some ⟨w.heap.size, 0, none⟩) 32 32) (w' := w1) ?_ ⟨Ext.refl _, rfl⟩
        clear h hC
        simp [execOp, evalR, h4, go_sem]
      · refine stepNone rfl fun ρ w1 hC h => ?_
        have h0 : ρ 0 = .slice ao l.length cap := h 0 (by decide)
        exact ⟨Ext.refl _, h0⟩
      · refine stepNone rfl fun ρ w1 hC h => ?_
        have h0 : ρ 1 = .int .i64 a := h 1 (by decide)
        exact ⟨Ext.refl _, h0⟩
      · refine stepNone rfl fun ρ w1 hC h => ?_
        have h23 : ρ 23 = .slice ao l.length cap := h 23 (by decide)
        have h24 : ρ 24 = .int .i64 a := h 24 (by decide)
        have hr1 : RB w1 (evalR ρ (.tmp 23)) l := by show RB w1 (ρ 23) l; rw [h23]; exact HR.out.keep (hb0.trans hC.1)
        refine YieldsK.reslice u22 sizeB hr1 a l.length ha (Nat.le_refl _) (.inr ⟨.i64, by simp [evalR, h24]⟩) (.inl ⟨rfl, rfl⟩) ?_
        intro ao' c' hr'
        rw [List.take_of_length_le (by rw [List.length_drop]; exact Nat.le_refl _)] at hr'
        exact ⟨Ext.refl _, hr'⟩
      · refine stepNone rfl fun ρ w1 hC h => ?_
        have h22 : ρ 22 = .slice (some ⟨w.heap.size, 0, none⟩) 32 32 := h 22 (by decide)
        have h25 : RB w1 (ρ 25) (l.drop a) := h 25 (by decide)
        obtain ⟨hC1, cur, hcs, hcb⟩ := hC
        have hm : Nat.min (l.drop a).length 32 = 32 := Nat.min_eq_right (by rw [List.length_drop]; exact Nat.le_sub_of_add_le (by rw [Nat.add_comm]; exact hal))
        have hfit : 0 + Nat.min (l.drop a).length 32 ≤ cur.size := by rw [hm, hcs]; exact Nat.le_refl _
        refine YieldsK.copyB (.tmp 22) (.tmp 25) (o := 0) u22 sizeB1 h22 h25 hcb hfit ?_
        have e : (cur.toList.take 0 ++ Lib.byteCells ((l.drop a).take 32) ++ cur.toList.drop (0 + Nat.min (l.drop a).length 32)).toArray = (Lib.byteCells ((l.drop a).take 32)).toArray := by
          have hd0 : cur.toList.drop (0 + 32) = [] := List.drop_of_length_le (Nat.le_of_eq (by rw [Array.length_toList, hcs]))
          rw [hm, hd0]
          simp
        rw [e]
        have hw := setRow_heap w1 w.heap.size cur (Lib.byteCells ((l.drop a).take 32)).toArray 33 (0, 0) hcb
        exact ⟨⟨⟨rfl, rfl, rfl, by simp, fun k _ hk => setRow_other w1 w.heap.size k _ (fun e => hk (by rw [e]))⟩, fun _ => ⟨_, idCells_size HL32.out, hw⟩⟩, hw⟩
    case hQ =>
      intro u w1 hC hE
      obtain ⟨-, -, -, -, h26, -⟩ := hE
      have hblk : w1.heap[w.heap.size]? = some (.cells (Lib.byteCells ((l.drop a).take 32)).toArray 33 (0, 0)) := h26
      clear h26
      simp only [wrote, List.foldl_cons, List.foldl_nil, List.setIfInBounds_toArray, List.set_cons_zero, List.set_cons_succ]
      have hsi : (Try.prog.info? 33).map (·.size) = some (Lib.byteCells ((l.drop a).take 32)).toArray.size := by rw [idCells_size HL32.out]; exact sizeId
      have HB := Lib.hid hblk
      clear hblk
      have HSI := Lib.hid hsi
      clear hsi
      go_wp2_with (first | (refine wpList_load_row (o := ⟨some 27, _, _, _, _, _⟩) rfl _ _ rfl w.heap.size rfl _ _ _ _ HB.out uId rfl HSI.out ?_) | (refine wpList_store_same (o := ⟨none, .store _ _ _, _, _, _, _⟩) rfl _ _ _ rfl w.heap.size rfl (Lib.byteCells ((l.drop a).take 32)).toArray 33 rfl HB.out HSI.out (byteCells_one _) ?_))
      refine bodyPost_ret (v := .tuple #[.agg (Lib.byteCells ((l.drop a).take 32)).toArray, .int .i64 ↑(a + 32), .int .i64 0]) ?_ rfl ⟨rfl, hb0.trans hC.1⟩
      exact results_cell2 Try.results16 _ _ w.heap.size 33 _ (0, 0) _ rfl HB.out uId rfl HSI.out
end Go.Proofs.Ytcindgknimallaa
