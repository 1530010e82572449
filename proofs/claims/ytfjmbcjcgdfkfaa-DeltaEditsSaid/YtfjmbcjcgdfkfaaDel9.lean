/- Reading a delta in plain words. -/
import Derived.Test.YtfjmbcjcgdfkfaaDel8
namespace Go.Proofs.Ytfjmbcjcgdfkfaa
open Go.RowKit
def sizesP (D : List UInt8) : Option (Nat × Nat × Nat) := match lebDec 0 (D.drop 0) with
  | none => none
  | some (a, k) => match lebDec 0 (D.drop (0 + k)) with
    | none => none
    | some (b, j) => some (a, b, 0 + k + j)
def sizesRes : Option (Nat × Nat × Nat) → Value
  | none => .tuple #[NI 0, NI 0, NI 0, NI 6]
  | some (a, b, n) => .tuple #[NI a, NI b, NI n, NI 0]
def cutP (F : List UInt8) (p s nx : Nat) : Option (List UInt8 × Nat) := if s < 1 ∨ F.length < p ∨ F.length - p < s then none else some ((F.drop p).take s, nx)
def pieceP (B D : List UInt8) (i : Nat) : Option (List UInt8 × Nat) := match lebDec 0 (D.drop i) with
  | none => none
  | some (x, k) => if x % 2 = 1 then (match lebDec 0 (D.drop (i + k)) with
    | none => none
    | some (p, m) => cutP B p (x / 2) (i + k + m)) else cutP D (i + k) (x / 2) (i + k + x / 2)
def applyGo (B D : List UInt8) (size : Nat) : Nat → Nat → List UInt8 → Option (List UInt8)
  | 0, _, _ => none
  | f + 1, i, o => if i < D.length then (match pieceP B D i with
    | none => none
    | some (b, nx) => if size - o.length < b.length then none else applyGo B D size f nx (o ++ b)) else if o.length = size then some o else none
def applyP (B D : List UInt8) : List UInt8 × Nat := match sizesP D with
  | none => ([], 6)
  | some (a, b, n) => if 262144 < b then ([], 2) else if a ≠ B.length then ([], 6) else match applyGo B D b (D.length + 1) n [] with
    | none => ([], 6)
    | some o => (o, 0)
theorem sizesP_bound {D : List UInt8} {a b n : Nat} (h : sizesP D = some (a, b, n)) : a < 9223372036854775808 ∧ b < 9223372036854775808 ∧ n ≤ D.length := by
  unfold sizesP at h
  split at h
  · cases h
  · rename_i x k hk
    have h1 := lebDec_bound (a := 0) (by omega) hk
    split at h
    · cases h
    · rename_i y j hj
      have h2 := lebDec_bound (a := 0 + k) (by omega) hj
      simp only [Option.some.injEq, Prod.mk.injEq] at h
      obtain ⟨rfl, rfl, rfl⟩ := h
      omega
theorem cutP_some {F b : List UInt8} {p s nx n : Nat} (h : cutP F p s nx = some (b, n)) : 1 ≤ s ∧ p ≤ F.length ∧ s ≤ F.length - p ∧ b = (F.drop p).take s ∧ n = nx := by
  unfold cutP at h
  split at h
  · cases h
  · simp only [Option.some.injEq, Prod.mk.injEq] at h
    exact ⟨by omega, by omega, by omega, h.1.symm, h.2.symm⟩
theorem pieceP_bound {B D b : List UInt8} {i nx : Nat} (hi : i ≤ D.length) (h : pieceP B D i = some (b, nx)) : i < nx ∧ nx ≤ D.length ∧ b.length ≤ B.length + D.length := by
  unfold pieceP at h
  split at h
  · cases h
  · rename_i x k hk
    have h1 := lebDec_bound hi hk
    split at h
    · split at h
      · cases h
      · rename_i p m hm
        have h2 := lebDec_bound (a := i + k) (by omega) hm
        obtain ⟨c1, c2, c3, rfl, rfl⟩ := cutP_some h
        rw [List.length_take, List.length_drop]
        omega
    · obtain ⟨c1, c2, c3, rfl, rfl⟩ := cutP_some h
      rw [List.length_take, List.length_drop]
      omega
end Go.Proofs.Ytfjmbcjcgdfkfaa
