/- The walk of the law LebBack. -/
import Derived.Test.YtcindgknimallaaLebAwake
import Derived.Test.YtcindgknimallaaIdEq
namespace Go.Proofs.Ytcindgknimallaa
open Go.RowKit

theorem eqGuardId : Try.prog.eqGuardType Try.prog.depth 33 = false := by kernel_rfl

/-! ### The plain law -/
theorem back_get (A rest : List UInt8) (n : Nat) (hn : n ≤ 9223372036854775807) : getRes A.length (lebDec 0 ((A ++ Lib.uvarint n ++ rest).drop A.length)) = .tuple #[.int .i64 n, .int .i64 ↑(A.length + (Lib.uvarint n).length), .int .i64 0] := by
  rw [List.append_assoc, List.drop_left, lebDec_uvarint rest 8 n 0 (by omega) (by omega) (fun h => by omega)]
  rfl
theorem back_text (pre rest : List UInt8) (s : ByteArray) (hn : s.size ≤ 9223372036854775807) : getTextRes (pre ++ Lib.uvarint s.size ++ s.data.toList ++ rest) pre.length s.size = .tuple #[.string s, .int .i64 ↑(pre.length + (Lib.uvarint s.size).length + s.size), .int .i64 0] := by
  have hss : s.data.toList.length = s.size := by rw [Array.length_toList]; rfl
  unfold getTextRes
  have e1 : pre ++ Lib.uvarint s.size ++ s.data.toList ++ rest = pre ++ (Lib.uvarint s.size ++ (s.data.toList ++ rest)) := by simp
  have e2 : (pre ++ Lib.uvarint s.size ++ s.data.toList ++ rest).drop pre.length = Lib.uvarint s.size ++ (s.data.toList ++ rest) := by rw [e1, List.drop_left]
  rw [e2, lebDec_uvarint _ 8 s.size 0 (by omega) (by omega) (fun h => by omega)]
  simp only []
  rw [if_neg (by omega), if_neg (by simp [hss]; omega)]
  have e3 : (pre ++ Lib.uvarint s.size ++ s.data.toList ++ rest).drop (pre.length + (Lib.uvarint s.size).length) = s.data.toList ++ rest := by
    have : pre.length + (Lib.uvarint s.size).length = (pre ++ Lib.uvarint s.size).length := by simp
    rw [this, List.append_assoc (pre ++ Lib.uvarint s.size), List.drop_left]
  rw [e3, ← hss, List.take_left]
theorem back_id (pre id rest : List UInt8) (hid : id.length = 32) : getIdRes (pre ++ id ++ rest) pre.length = .tuple #[.agg (Lib.byteCells id).toArray, .int .i64 ↑(pre.length + 32), .int .i64 0] := by
  unfold getIdRes
  rw [if_neg (by simp [hid]), List.append_assoc, List.drop_left, ← hid, List.take_left]

/-- The law's argument, in a block of its own. -/
def writ (va vb : Value) (n : Int) (s : ByteArray) (id : List UInt8) : List Value := [va, vb, .int .i64 n, .string s] ++ Lib.byteCells id
theorem writ_cells {w : World} {g : Nat} {t : TypeId} {va vb : Value} {n : Int} {s : ByteArray} {id : List UInt8} (h : w.heap[g]? = some (.cells (writ va vb n s id).toArray t (0, 0))) :
    w.cell? ⟨g, 0, none⟩ = some va ∧ w.cell? ⟨g, 1, none⟩ = some vb ∧ w.cell? ⟨g, 2, none⟩ = some (.int .i64 n) ∧ w.cell? ⟨g, 3, none⟩ = some (.string s) := by
  simp [World.cell?, h, writ]
theorem writ_id {w : World} {g : Nat} {t : TypeId} {va vb : Value} {n : Int} {s : ByteArray} {id : List UInt8} (h : w.heap[g]? = some (.cells (writ va vb n s id).toArray t (0, 0))) :
    w.rangeAt g 4 (Lib.byteCells id) := by
  intro j v hv
  have : (writ va vb n s id)[4 + j]? = some v := by
    unfold writ
    rw [List.getElem?_append_right (by simp)]
    simpa using hv
  simp [World.cell?, h, this]
theorem Ext.blk {w w' : World} (h : Ext w w') {g : Nat} {o : Obj} (hb : w.heap[g]? = some o) : w'.heap[g]? = some o := (h.block g (Array.getElem?_eq_some_iff.1 hb).1).trans hb

set_option maxRecDepth 100000 in
set_option maxHeartbeats 2000000 in
theorem lebBack_walk (w : World) (va vb : Value) (A B : List UInt8) (hA : RB w va A) (hB : RB w vb B) (n : Int) (hn : n ≤ 9223372036854775807) (s : ByteArray) (id : List UInt8) (hid : id.length = 32) (hl : A.length + B.length + s.size + 128 ≤ 140737488355328) :
    Calls Try.prog 4 #[.agg (writ va vb n s id).toArray] w fun e w' => e = .returned (.bool true) ∧ Below w.heap.size w w' := by
  have HA := Lib.hid hA
  have HB := Lib.hid hB
  obtain ⟨aoA, capA, rfl, hA2, hA3⟩ := hA.len
  obtain ⟨aoB, capB, rfl, hB2, hB3⟩ := hB.len
  clear hA hB
  have HID := Lib.hid hid
  clear hid
  obtain ⟨C, hC⟩ : ∃ C, C = writ (.slice aoA A.length capA) (.slice aoB B.length capB) n s id := ⟨_, rfl⟩
  rw [← hC]
  have HC := Lib.hid hC
  clear hC
  have hbx := heap_alloc_new w (.cells C.toArray 35)
  have hx0 : Ext w (w.alloc (.cells C.toArray 35)) := (Below.refl _ _).alloc (Nat.le_refl _) _
  obtain ⟨w0, hw0⟩ : ∃ w0, w0 = w.alloc (.cells C.toArray 35) := ⟨_, rfl⟩
  rw [← hw0] at hbx hx0
  have hbw : w0.heap[w.heap.size]? = some (.cells (writ (.slice aoA A.length capA) (.slice aoB B.length capB) n s id).toArray 35 (0, 0)) := by rw [hbx, HC.out]
  have HX := Lib.hid (show Ext w w0 ∧ w0.heap[w.heap.size]? = some (.cells (writ (.slice aoA A.length capA) (.slice aoB B.length capB) n s id).toArray 35 (0, 0)) from ⟨hx0, hbw⟩)
  have HW0 := Lib.hid hw0
  obtain ⟨k0, k1, k2, k3⟩ := writ_cells hbw
  clear hx0 hbw hbx
  rw [hw0] at k0 k1 k2 k3
  clear hw0
  by_cases h0 : n < 0
  · have hd : decide (n < 0) = true := by simp [h0]
    go_enter Try.func4, Try.ntmps4
    go_wp2_with fail
    rw [← HW0.out]
    refine (awake02 w0).mono ?_
    rintro e w1 ⟨rfl, h1⟩
    go_wp2_with fail
    go_ret
    exact ⟨rfl, HX.out.1.trans h1⟩
  obtain ⟨n, rfl⟩ := Int.eq_ofNat_of_zero_le (by omega : 0 ≤ n)
  have hd : decide ((n : Int) < 0) = false := by simp
  clear h0
  have hu := uvarint_len63 n (by omega)
  have hu2 := uvarint_len63 s.size (by omega)
  go_enter Try.func4, Try.ntmps4
  go_wp2_with fail
  rw [← HW0.out]
  clear k0 k1 k2 k3
  refine (put_any w0 _ A (HA.out.keep HX.out.1) (by omega) n (by omega)).mono ?_
  rintro e w1 ⟨v1, rfl, h1⟩
  obtain ⟨k0, k1, k2, k3⟩ := writ_cells (h1.ext.blk HX.out.2)
  go_wp2_with fail
  refine (putText_any w1 v1 _ h1.rb s (by simp; omega)).mono ?_
  rintro e w2 ⟨v2, rfl, h2⟩
  clear k0 k1 k2 k3
  have hx2 : Ext w0 w2 := h1.ext.trans h2.ext
  have HR := Lib.hid (writ_id (hx2.blk HX.out.2))
  have HCL : Hid ((Lib.byteCells id).length = 32) := by rw [Lib.byteCells_length]; exact HID.out
  have HSI := Lib.hid (sizeId_of HID.out)
  go_wp2_with (refine wpList_load_mid (op := ⟨some 30, _, _, _, _, _⟩) rfl _ _ rfl w.heap.size 4 rfl (Lib.byteCells id) _ HR.out uId rfl (HSI.out.trans (by simp)) ?_)
  refine (putId_any w2 v2 _ h2.rb id HID.out (by simp; omega)).mono ?_
  rintro e w3 ⟨v3, rfl, h3⟩
  have hx3 : Ext w0 w3 := hx2.trans h3.ext
  obtain ⟨k0, k1, k2, k3⟩ := writ_cells (hx3.blk HX.out.2)
  obtain ⟨i0, hi, hz0, hz1, hz2⟩ := info_parts infoB
  have HSB := Lib.hid ((HB.out.keep (HX.out.1.trans hx3)).src (P := Try.prog) u22)
  obtain ⟨L3, hL3⟩ : ∃ L3, L3 = A ++ Lib.uvarint n ++ Lib.uvarint s.size ++ s.data.toList ++ id := ⟨_, rfl⟩
  rw [← hL3] at h3
  have hl3 : L3.length + B.length ≤ 140737488355328 := by
    have h9 := HID.out
    rw [hL3]
    simp
    omega
  have HL3 := Lib.hid hL3
  have HX2 := Lib.hid hx2
  have H3 := Lib.hid h3
  clear h1 h2 h3 hx2 hx3 HR hL3
  go_wp2_with (at_builtin; refine wpList_append_src _ rfl _ _ 22 22 rfl w2.heap.size 5 i0 (.int .u8 0) 1 1 u22 hi hz0 hz1 hz2 rfl _ _ _ rfl H3.out.own _ _ _ rfl HSB.out ?c1 ?c2 ?c3 ?_)
  case c1 => unfold maxLen; omega
  case c2 => omega
  case c3 => exact H3.out.by_.size
  intro v4 w4 ho4 g4
  have h4 := H3.out.more g4 ho4
  have hx4 : Ext w0 w4 := HX2.out.trans h4.ext
  obtain ⟨k0, k1, k2, k3⟩ := writ_cells (hx4.blk HX.out.2)
  obtain ⟨L4, hL4⟩ : ∃ L4, L4 = L3 ++ B := ⟨_, rfl⟩
  rw [← hL4] at h4
  have e1 : L4 = A ++ Lib.uvarint n ++ (Lib.uvarint s.size ++ s.data.toList ++ id ++ B) := by rw [hL4, HL3.out]; simp
  have e2 : L4 = (A ++ Lib.uvarint n) ++ Lib.uvarint s.size ++ s.data.toList ++ (id ++ B) := by rw [hL4, HL3.out]; simp
  have e3 : L4 = (A ++ Lib.uvarint n ++ Lib.uvarint s.size ++ s.data.toList) ++ id ++ B := by rw [hL4, HL3.out]
  have hss : s.data.toList.length = s.size := by rw [Array.length_toList]; rfl
  have l4 : L4.length = A.length + (Lib.uvarint n).length + (Lib.uvarint s.size).length + s.size + 32 + B.length := by rw [e3]; simp [HID.out, hss]; omega
  obtain ⟨p1, hp1⟩ : ∃ p1, p1 = A.length + (Lib.uvarint n).length := ⟨_, rfl⟩
  obtain ⟨p2, hp2⟩ : ∃ p2, p2 = p1 + (Lib.uvarint s.size).length + s.size := ⟨_, rfl⟩
  have g1 : getRes A.length (lebDec 0 (L4.drop A.length)) = .tuple #[.int .i64 n, .int .i64 p1, .int .i64 0] := by rw [e1, hp1]; exact back_get A _ n (by omega)
  have g2 : getTextRes L4 p1 s.size = .tuple #[.string s, .int .i64 p2, .int .i64 0] := by
    have hp : p1 = (A ++ Lib.uvarint n).length := by rw [hp1]; simp
    rw [e2, hp2, hp]
    exact back_text (A ++ Lib.uvarint n) (id ++ B) s (by omega)
  have g3 : getIdRes L4 p2 = .tuple #[.agg (Lib.byteCells id).toArray, .int .i64 ↑(p2 + 32), .int .i64 0] := by
    have hp : p2 = (A ++ Lib.uvarint n ++ Lib.uvarint s.size ++ s.data.toList).length := by rw [hp2, hp1]; simp [hss]; omega
    rw [e3, hp]
    exact back_id _ id B HID.out
  have b1 : A.length ≤ L4.length := by omega
  have b2 : p1 ≤ L4.length := by omega
  have b3 : p2 ≤ L4.length := by omega
  have b4 : p2 + 32 + B.length ≤ 140737488355328 := by omega
  have G := Lib.hid (And.intro g1 (And.intro g2 (And.intro g3 (show L4.length = p2 + 32 + B.length from by omega))))
  have H4 := Lib.hid h4.rb
  have HX4 := Lib.hid hx4
  obtain ⟨ao4, c4, rfl, hc4, hc4'⟩ := h4.rb.len
  clear h4 hx4 hL4 e1 e2 e3 hss hp1 hp2 g1 g2 g3 l4 g4 ho4 hi hz0 hz1 hz2 hl3 HSB H3 hu hu2
  go_wp2_with fail
  refine (get_in w4 _ L4 H4.out A.length b1).mono ?_
  rintro e w5 ⟨rfl, rfl⟩
  rw [G.out.1]
  go_wp2_with fail
  refine (getText_in w4 _ L4 H4.out p1 b2 s.size).mono ?_
  rintro e w5 ⟨rfl, rfl⟩
  rw [G.out.2.1]
  go_wp2_with fail
  refine (getId_in w4 _ L4 H4.out p2 b3).mono ?_
  rintro e w5 ⟨rfl, hx5⟩
  rw [G.out.2.2.1]
  have hx5' := HX4.out.trans hx5
  clear k0 k1 k2 k3
  obtain ⟨k0, k1, k2, k3⟩ := writ_cells (hx5'.blk HX.out.2)
  have HR5 := Lib.hid (writ_id (hx5'.blk HX.out.2))
  have hlt5 : w.heap.size < w5.heap.size := (Array.getElem?_eq_some_iff.1 (hx5'.blk HX.out.2)).1
  have HX5 := Lib.hid hx5'
  clear hx5 hx5'
  go_wp2_with (first | (refine wpList_value (o := ⟨some 10, .alloc _, _, _, _, _⟩) rfl _ _ (allocId _ _ _ _ _ _) ?_) | (refine wpList_store_row' (o := ⟨none, .store _ _ _, _, _, _, _⟩) rfl _ _ _ rfl w5.heap.size rfl (Lib.byteCells id).toArray (Lib.byteCells zero32).toArray 33 rfl (heap_alloc_new w5 _) ((idCells_size HID.out).trans (idCells_size zero32_len).symm) HSI.out (byteCells_one _) ?_))
  intro w6 hb6 hg6 hs6
  have hx6 : Ext w5 w6 := by
    refine ⟨hg6.os, hg6.tape, hg6.output, by rw [hs6]; simp, fun k hk => ?_⟩
    rw [hg6.block k (by simp; omega) (fun e => by simp at e; omega)]
    exact heap_alloc_old w5 _ hk
  have hx6' := HX5.out.trans hx6
  clear k0 k1 k2 k3 hg6
  obtain ⟨k0, k1, k2, k3⟩ := writ_cells (hx6'.blk HX.out.2)
  have HR6 := Lib.hid (writ_id (hx6'.blk HX.out.2))
  have HX6 := Lib.hid hx6'
  have HB6 := Lib.hid hb6
  clear hb6 hx6' hx6 hs6
  have q4 : ((L4.length : Int) - ((p2 : Int) + 32) == (B.length : Int)) = true := by have := G.out.2.2.2; simp; omega
  have q5 := G.out.2.2.2
  have HSI2 : Hid ((Try.prog.info? 33).map (·.size) = some (Lib.byteCells id).length) := HSI.out.trans (by simp)
  have hdec : decide (id = id) = true := by simp
  go_wp2_with (first | (refine wpList_valueG (o := ⟨some 85, _, _, _, _, _⟩) rfl _ _ (run_execLoad (b := w5.heap.size) rfl (rangeAt_block HB6.out) uId rfl HSI2.out) ?_) | (refine wpList_valueG (o := ⟨some 87, _, _, _, _, _⟩) rfl _ _ (run_execLoad (b := w.heap.size) rfl HR6.out uId rfl HSI2.out) ?_) | (refine wpList_valueG (o := ⟨some 88, _, _, _, _, _⟩) rfl _ _ (run_execEql uId u5 (sizeB _) eqGuardId HID.out HID.out rfl rfl) ?_) | (go_at_call 9; refine (awake02 _).mono ?_; rintro e w7 ⟨rfl, h7⟩))
  go_ret
  exact ⟨rfl, (HX.out.1.trans HX6.out).trans (by assumption)⟩
end Go.Proofs.Ytcindgknimallaa
