/- Blocks, one behind the other: how a sum that is being made stands to the bytes that were written. Plain Lean. -/
import Derived.Test.YtcindgknimallaaDoorShaPlain
namespace Go.Proofs.YtcindgknimallaaDoor
namespace Sha
theorem blocks_snoc : ∀ (k : Nat) (s : List UInt32) (b : List UInt8), blocks s b (k + 1) = rounds (blocks s b k) ((b.drop (64 * k)).take 64)
  | 0, s, b => by simp [blocks]
  | k + 1, s, b => by
    rw [blocks, blocks_snoc k, blocks, List.drop_drop]
    rw [show 64 + 64 * k = 64 * (k + 1) by omega]
/-- Only the bytes of the blocks count. -/
theorem blocks_append : ∀ (k : Nat) (s : List UInt32) (b c : List UInt8), 64 * k ≤ b.length → blocks s (b ++ c) k = blocks s b k
  | 0, _, _, _, _ => rfl
  | k + 1, s, b, c, h => by
    rw [blocks, blocks, List.take_append_of_le_length (by omega), List.drop_append_of_le_length (by omega), blocks_append k _ _ _ (by rw [List.length_drop]; omega)]
/-- State, rest and fill of a sum to which the bytes p were written. -/
structure At (p : List UInt8) (s : List UInt32) (r : List UInt8) : Prop where
  state : s = blocks first p (p.length / 64)
  len : r.length = 64
  rest : r.take (p.length % 64) = p.drop (64 * (p.length / 64))
theorem At.slen {p : List UInt8} {s : List UInt32} {r : List UInt8} (h : At p s r) : s.length = 8 := by rw [h.state]; exact blocks_length _ _ _ rfl
/-- Bytes that leave room. -/
theorem At.put {p : List UInt8} {s : List UInt32} {r : List UInt8} (h : At p s r) (x : List UInt8) (hx : p.length % 64 + x.length < 64) :
    At (p ++ x) s (r.take (p.length % 64) ++ x ++ r.drop (p.length % 64 + x.length)) := by
  have hl : (p ++ x).length = p.length + x.length := List.length_append
  have hd : (p ++ x).length / 64 = p.length / 64 := by rw [hl]; omega
  have hm : (p ++ x).length % 64 = p.length % 64 + x.length := by rw [hl]; omega
  have hr := h.len
  refine ⟨?_, ?_, ?_⟩
  · rw [hd, blocks_append _ _ _ _ (by omega)]; exact h.state
  · simp only [List.length_append, List.length_take, List.length_drop]; omega
  · have e : (r.take (p.length % 64) ++ x).length = p.length % 64 + x.length := by rw [List.length_append, List.length_take]; omega
    rw [hm, hd, List.take_append_of_le_length (by omega), List.take_of_length_le (by omega), h.rest, List.drop_append_of_le_length (by omega)]
/-- Bytes that fill the block. -/
theorem At.fill {p : List UInt8} {s : List UInt32} {r : List UInt8} (h : At p s r) (x : List UInt8) (hx : p.length % 64 + x.length = 64) :
    At (p ++ x) (rounds s (r.take (p.length % 64) ++ x)) (r.take (p.length % 64) ++ x) := by
  have hl : (p ++ x).length = p.length + x.length := List.length_append
  have hd : (p ++ x).length / 64 = p.length / 64 + 1 := by rw [hl]; omega
  have hm : (p ++ x).length % 64 = 0 := by rw [hl]; omega
  have hr := h.len
  have e : (r.take (p.length % 64) ++ x).length = 64 := by rw [List.length_append, List.length_take]; omega
  refine ⟨?_, e, ?_⟩
  · rw [hd, blocks_snoc, blocks_append _ _ _ _ (by omega), ← h.state, List.drop_append_of_le_length (by omega), ← h.rest]
    exact congrArg _ (List.take_of_length_le (Nat.le_of_eq e)).symm
  · rw [hm, hd, List.take_zero, List.drop_of_length_le (by omega)]
theorem at_nil : At [] first (List.replicate 64 0) := ⟨rfl, by simp, by simp⟩
end Sha
end Go.Proofs.YtcindgknimallaaDoor
