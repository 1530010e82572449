/- leb in plain Lean: reading a number. -/
import Derived.Lib.Varint
namespace Go.Proofs.Ytfjmbcjcgdfkfaa
/-- The number that begins a list of bytes, and how many bytes it takes; k: how many came ahead of these. -/
def lebDec (k : Nat) : List UInt8 → Option (Nat × Nat)
  | [] => none
  | c :: r => if 128 ≤ c.toNat then (if 8 ≤ k then none else (lebDec (k + 1) r).map (fun x => (c.toNat - 128 + 128 * x.1, x.2 + 1)))
      else if c.toNat = 0 ∧ 0 < k then none else some (c.toNat, 1)
theorem lebDec_pos : ∀ (l : List UInt8) (k : Nat) (x : Nat × Nat), lebDec k l = some x → 1 ≤ x.2 ∧ x.2 ≤ l.length ∧ x.2 + k ≤ max 9 (k + 1)
  | [], k, x, h => by simp [lebDec] at h
  | c :: r, k, x, h => by
    unfold lebDec at h
    split at h
    · split at h
      · cases h
      · obtain ⟨y, hy, rfl⟩ := Option.map_eq_some_iff.1 h
        have := lebDec_pos r (k + 1) y hy
        simp
        omega
    · split at h
      · cases h
      · cases h; simp; omega
theorem lebDec_lt : ∀ (l : List UInt8) (k : Nat) (x : Nat × Nat), lebDec k l = some x → x.1 < 128 ^ x.2
  | [], k, x, h => by simp [lebDec] at h
  | c :: r, k, x, h => by
    unfold lebDec at h
    split at h
    · split at h
      · cases h
      · obtain ⟨y, hy, rfl⟩ := Option.map_eq_some_iff.1 h
        have := lebDec_lt r (k + 1) y hy
        have hc := c.toNat_lt
        simp only [Nat.pow_succ]
        omega
    · split at h
      · cases h
      · cases h; simp; omega
theorem lebDec_uvarint (rest : List UInt8) : ∀ (m n k : Nat), n < 128 ^ (m + 1) → m + k ≤ 8 → (0 < k → 0 < n) → lebDec k (Lib.uvarint n ++ rest) = some (n, (Lib.uvarint n).length)
  | m, n, k, hn, hk, h0 => by
    by_cases h : n < 128
    · rw [Lib.uvarint_small h]
      have : (n.toUInt8).toNat = n := by simp [Nat.toUInt8, UInt8.toNat_ofNat']; omega
      simp only [List.cons_append, lebDec, this]
      rw [if_neg (by omega), if_neg (by omega)]
      simp
    · have hb : ((n % 128 + 128).toUInt8).toNat = n % 128 + 128 := by simp [Nat.toUInt8, UInt8.toNat_ofNat']; omega
      rw [Lib.uvarint_big (by omega)]
      simp only [List.cons_append, lebDec, hb]
      match m, hn, hk with
      | 0, hn, _ => simp at hn; omega
      | m + 1, hn, hk =>
        rw [if_pos (by omega), if_neg (by omega), lebDec_uvarint rest m (n / 128) (k + 1) (by rw [Nat.pow_succ] at hn; exact Nat.div_lt_of_lt_mul (by rw [Nat.mul_comm]; exact hn)) (by omega) (fun _ => by omega)]
        simp
        omega
end Go.Proofs.Ytfjmbcjcgdfkfaa
