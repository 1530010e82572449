/- The walk of the law's awake: what the chapter's examples say. -/
import Derived.Test.YtcindgknimallaaLeb5
namespace Go.Proofs.Ytcindgknimallaa
open Go.RowKit

theorem rbNil (w : World) : RB w (.slice none 0 0) [] := ⟨rfl, none, 0, rfl, Nat.le_refl _, by simp [maxLen], fun _ => ⟨rfl, rfl⟩, fun a h => by cases h⟩
/-- A row of bytes that was just laid. -/
theorem rbLit (w : World) (t : TypeId) (l : List UInt8) (hl : l.length ≤ 9223372036854775807) : RB (w.alloc (.cells (Lib.byteCells l).toArray t)) (.slice (some ⟨w.heap.size, 0, none⟩) l.length l.length) l := by
  refine ⟨by rw [Lib.byteCells_length]; simp, some ⟨w.heap.size, 0, none⟩, l.length, rfl, Nat.le_refl _, hl, fun h => (by cases h), fun a ha j u hu => ?_⟩
  cases ha
  rw [Addr.add_lit, Nat.zero_add, World.cell?, heap_alloc_new w _]
  simpa using hu

theorem getEx (w : World) : Calls Try.prog 14 #[.slice (some ⟨w.heap.size, 0, none⟩) 2 2, .int .i64 0] (w.alloc (.cells #[.int .u8 128, .int .u8 0] 5)) fun e w' => e = .returned (.tuple #[.int .i64 0, .int .i64 0, .int .i64 6]) ∧ w.alloc (.cells #[.int .u8 128, .int .u8 0] 5) = w' :=
  get_in (w.alloc (.cells (Lib.byteCells [128, 0]).toArray 5)) _ [128, 0] (rbLit w 5 [128, 0] (by decide)) 0 (by decide)
theorem getTextEx (w : World) (n : Nat) (hn : w.heap.size = n) : Calls Try.prog 15 #[.slice (some ⟨n, 0, none⟩) 5 5, .int .i64 0, .int .i64 3] (w.alloc (.cells #[.int .u8 3, .int .u8 97, .int .u8 98, .int .u8 99, .int .u8 100] 5)) fun e w' => e = .returned (.tuple #[.string ⟨#[97, 98, 99]⟩, .int .i64 4, .int .i64 0]) ∧ w.alloc (.cells #[.int .u8 3, .int .u8 97, .int .u8 98, .int .u8 99, .int .u8 100] 5) = w' :=
  hn ▸ getText_in (w.alloc (.cells (Lib.byteCells [3, 97, 98, 99, 100]).toArray 5)) _ [3, 97, 98, 99, 100] (rbLit w 5 [3, 97, 98, 99, 100] (by decide)) 0 (by decide) 3

set_option maxRecDepth 100000 in
set_option maxHeartbeats 300000 in
theorem awake02 (w : World) : Calls Try.prog 9 #[] w fun e w' => e = .returned (.bool true) ∧ Ext w w' := by
  have u300 : [] ++ Lib.uvarint 300 = [172, 2] := by
    rw [Lib.uvarint_big (by omega), Lib.uvarint_small (by omega)]
    rfl
  have U300 := Lib.hid u300
  clear u300
  go_enter Try.func9, Try.ntmps9
  go_wp2_with fail
  refine (put_any w _ [] (rbNil w) (by simp) 300 (by omega)).mono ?_
  rintro e w1 ⟨v1, rfl, h1⟩
  rw [U300.out] at h1
  obtain ⟨b1, o1, c1, rfl, hc1, hc1', hbw1, hcell1⟩ := h1.rb.open_ (by decide)
  have hx1 := h1.ext
  clear h1 U300
  have HC1 := Lib.hid hcell1
  clear hcell1
  go_wp2_with fail
  refine (getEx w1).mono ?_
  rintro e w2 ⟨rfl, rfl⟩
  go_wp2_with fail
  refine (getTextEx _ (w1.heap.size + 1) (by simp)).mono ?_
  rintro e w3 ⟨rfl, rfl⟩
  have k0 : w1.cell? ⟨b1, o1, none⟩ = some (.int .u8 172) := HC1.out 0 (by decide)
  have k1 : w1.cell? ⟨b1, o1 + 1, none⟩ = some (.int .u8 2) := HC1.out 1 (by decide)
  have k2 : b1 ≠ w1.heap.size := by omega
  have k3 : b1 ≠ w1.heap.size + 1 := by omega
  go_wp2_with fail
  go_ret
  exact ⟨rfl, hx1.trans (((Ext.refl _).alloc (Nat.le_refl _) _).alloc (by simp) _)⟩
end Go.Proofs.Ytcindgknimallaa
