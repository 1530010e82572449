/- Plain law: what stands longest anywhere is what stands longest where eight bytes stand, or it is short. -/
import Derived.Test.YtfjmbcjcgdfkfaaDelBack
namespace Go.Proofs.Ytfjmbcjcgdfkfaa
open Go.RowKit
def longP (B T : List UInt8) (i : Nat) : Nat × Nat := (List.range B.length).foldl (bstep B T i) (0, 0)
theorem posOf_all (B : List UInt8) (r : List UInt8) (hr : r.length = 8) : posOf B (B.length - 7) r = posOf B B.length r := by
  unfold posOf
  by_cases h : B.length ≤ 7
  · have h0 : B.length - 7 = 0 := by omega
    rw [h0]
    symm
    rw [List.filter_eq_nil_iff.2]
    · rfl
    · intro j hj he
      have e := congrArg List.length (eq_of_beq he)
      rw [List.length_take, List.length_drop, hr] at e
      omega
  · rw [show B.length = (B.length - 7) + 7 by omega, List.range_add, List.filter_append, Nat.add_sub_cancel]
    have : List.filter (fun j => List.take 8 (List.drop j B) == r) (List.map (fun x => B.length - 7 + x) (List.range 7)) = [] := by
      rw [List.filter_eq_nil_iff]
      intro j hj he
      obtain ⟨x, hx, rfl⟩ := List.mem_map.1 hj
      have e := congrArg List.length (eq_of_beq he)
      rw [List.length_take, List.length_drop, hr] at e
      omega
    rw [this, List.append_nil]
theorem fold_both (B T : List UInt8) (i : Nat) (h8 : i + 8 ≤ T.length) : ∀ k, k ≤ B.length → ((((List.range k).foldl (bstep B T i) (0, 0)).2 < 8 ∧ (posOf B k ((T.drop i).take 8)).foldl (bstep B T i) (0, 0) = (0, 0)) ∨ (8 ≤ ((List.range k).foldl (bstep B T i) (0, 0)).2 ∧ (posOf B k ((T.drop i).take 8)).foldl (bstep B T i) (0, 0) = (List.range k).foldl (bstep B T i) (0, 0)))
  | 0, _ => .inl ⟨(by show (0 : Nat) < 8; decide), rfl⟩
  | k + 1, hk => by
    have ih := fold_both B T i h8 k (by omega)
    have hp : posOf B (k + 1) ((T.drop i).take 8) = posOf B k ((T.drop i).take 8) ++ (if ((B.drop k).take 8 == (T.drop i).take 8) = true then [k] else []) := by
      unfold posOf
      rw [List.range_succ, List.filter_append]
      congr 1
      by_cases h : ((B.drop k).take 8 == (T.drop i).take 8) = true
      · simp [h]
      · simp [h]
    rw [List.range_succ, List.foldl_append, List.foldl_cons, List.foldl_nil, hp]
    generalize (List.range k).foldl (bstep B T i) (0, 0) = L at *
    by_cases h : ((B.drop k).take 8 == (T.drop i).take 8) = true
    · rw [if_pos h, List.foldl_append, List.foldl_cons, List.foldl_nil]
      have he := eq_of_beq h
      have hl := congrArg List.length he
      rw [List.length_take, List.length_take, List.length_drop, List.length_drop] at hl
      have h9 := lcp_ge 8 (B.drop k) (T.drop i) (by rw [List.length_drop]; omega) (by rw [List.length_drop]; omega) he
      rcases ih with ⟨h1, h2⟩ | ⟨h1, h2⟩
      · right
        rw [h2, bstep, if_pos (by omega), bstep, if_pos (show (0 : Nat) < _ by omega)]
        exact ⟨h9, rfl⟩
      · right
        rw [h2]
        refine ⟨?_, rfl⟩
        unfold bstep
        split
        · exact h9
        · exact h1
    · rw [if_neg h, List.append_nil]
      have h9 : lcp (B.drop k) (T.drop i) < 8 := by
        apply Classical.byContradiction
        intro hc
        exact h (by rw [lcp_take (B.drop k) (T.drop i) 8 (by omega)]; simp)
      rcases ih with ⟨h1, h2⟩ | ⟨h1, h2⟩
      · left
        refine ⟨?_, h2⟩
        unfold bstep
        split
        · exact h9
        · exact h1
      · right
        rw [bstep, if_neg (by omega)]
        exact ⟨h1, h2⟩
theorem best_long (B T : List UInt8) (i : Nat) (hi : i ≤ T.length) : ((longP B T i).2 < 8 ∧ (best B T i).2 = 0) ∨ (8 ≤ (longP B T i).2 ∧ best B T i = longP B T i) := by
  by_cases h8 : i + 8 ≤ T.length
  · have hb : best B T i = (posOf B B.length ((T.drop i).take 8)).foldl (bstep B T i) (0, 0) := by
      rw [best, if_pos h8, posOf_all B _ (by rw [List.length_take, List.length_drop]; omega)]
    rcases fold_both B T i h8 B.length (Nat.le_refl _) with ⟨h1, h2⟩ | ⟨h1, h2⟩
    · exact .inl ⟨h1, by rw [hb, h2]⟩
    · exact .inr ⟨h1, by rw [hb, h2]; rfl⟩
  · left
    have := fold_le B T i hi (List.range B.length) (0, 0) (fun z hz => by have := List.mem_range.1 hz; omega) (Nat.zero_le _) (Nat.zero_le _)
    exact ⟨by unfold longP; omega, by rw [best, if_neg h8]⟩
end Go.Proofs.Ytfjmbcjcgdfkfaa
