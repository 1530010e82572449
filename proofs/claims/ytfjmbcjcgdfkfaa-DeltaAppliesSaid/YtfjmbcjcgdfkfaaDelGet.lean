/- Plain law: what the reference's Get finds is what lebDec reads. -/
import Derived.Test.YtfjmbcjcgdfkfaaDel16
namespace Go.Proofs.Ytfjmbcjcgdfkfaa
open Go.RowKit
def valL : List UInt8 → Nat
  | [] => 0
  | c :: r => c.toNat % 128 + 128 * valL r
/-- A number of k + 1 bytes. -/
theorem lebDec_run : ∀ (k j : Nat) (l : List UInt8), (∀ t, t < k → 128 ≤ (l.getD t 0).toNat) → k < l.length → (l.getD k 0).toNat < 128 → j + k ≤ 8 → ¬ ((l.getD k 0).toNat = 0 ∧ 0 < j + k) → lebDec j l = some (valL (l.take (k + 1)), k + 1)
  | _, _, [], _, h, _, _, _ => by simp at h
  | 0, j, c :: r, _, _, h2, _, h4 => by
    simp only [List.getD_cons_zero] at h2 h4
    unfold lebDec
    rw [if_neg (by omega), if_neg (by simpa using h4)]
    rw [List.take_succ_cons, List.take_zero, valL, valL, Nat.mul_zero, Nat.add_zero, Nat.mod_eq_of_lt h2]
  | k + 1, j, c :: r, h1, h0, h2, h3, h4 => by
    have hc := h1 0 (by omega)
    simp only [List.getD_cons_zero] at hc
    simp only [List.getD_cons_succ] at h2 h4
    unfold lebDec
    rw [if_pos hc, if_neg (by omega), lebDec_run k (j + 1) r (fun t ht => by have := h1 (t + 1) (by omega); simpa only [List.getD_cons_succ] using this) (by simpa using h0) h2 (by omega) (by rw [show j + 1 + k = j + (k + 1) by omega]; exact h4)]
    have hl := c.toNat_lt
    simp only [Option.map_some, List.take_succ_cons, valL]
    rw [show c.toNat % 128 = c.toNat - 128 by omega]
/-- A nought behind others. -/
theorem lebDec_zero : ∀ (k j : Nat) (l : List UInt8), (∀ t, t < k → 128 ≤ (l.getD t 0).toNat) → k < l.length → (l.getD k 0).toNat = 0 → 0 < j + k → lebDec j l = none
  | _, _, [], _, h, _, _ => by simp at h
  | 0, j, c :: r, _, _, h2, h4 => by
    simp only [List.getD_cons_zero] at h2
    unfold lebDec
    rw [if_neg (by omega), if_pos ⟨h2, by omega⟩]
  | k + 1, j, c :: r, h1, h0, h2, h4 => by
    have hc := h1 0 (by omega)
    simp only [List.getD_cons_zero] at hc
    simp only [List.getD_cons_succ] at h2
    unfold lebDec
    rw [if_pos hc]
    split
    · rfl
    · rw [lebDec_zero k (j + 1) r (fun t ht => by have := h1 (t + 1) (by omega); simpa only [List.getD_cons_succ] using this) (by simpa using h0) h2 (by omega)]
      rfl
/-- No end within nine bytes. -/
theorem lebDec_none : ∀ (k j : Nat) (l : List UInt8), j ≤ 8 → (∀ t, t < k → 128 ≤ (l.getD t 0).toNat) → (l.length ≤ k ∨ 9 ≤ j + k) → lebDec j l = none
  | _, j, [], _, _, _ => by simp [lebDec]
  | 0, j, c :: r, hj, _, h => by simp at h; omega
  | k + 1, j, c :: r, hj, h1, h => by
    have hc := h1 0 (by omega)
    simp only [List.getD_cons_zero] at hc
    unfold lebDec
    rw [if_pos hc]
    split
    · rfl
    · rw [lebDec_none k (j + 1) r (by omega) (fun t ht => by have := h1 (t + 1) (by omega); simpa only [List.getD_cons_succ] using this) (by simp at h; omega)]
      rfl
theorem valL_drop (l : List UInt8) (i k : Nat) (hi : i < k) (hk : k ≤ l.length) : valL ((l.take k).drop i) = (l.getD i 0).toNat % 128 + 128 * valL ((l.take k).drop (i + 1)) := by
  have hl : i < (l.take k).length := by rw [List.length_take]; omega
  rw [List.drop_eq_getElem_cons hl, valL]
  congr 2
  simp [List.getD, show i < l.length by omega]
theorem valL_lt : ∀ l : List UInt8, valL l < 128 ^ l.length
  | [] => by simp [valL]
  | c :: r => by
    have := valL_lt r
    rw [valL, List.length_cons, Nat.pow_succ]
    omega
end Go.Proofs.Ytfjmbcjcgdfkfaa
