/- Plain law: a text of which a piece was turned has a small delta. -/
import Derived.Test.YtfjmbcjcgdfkfaaDelBack
namespace Go.Proofs.Ytfjmbcjcgdfkfaa
open Go.RowKit
theorem best_none {B T : List UInt8} {i : Nat} (h : T.length < i + 8) : (best B T i).2 = 0 := by rw [best, if_neg (by omega)]
theorem makeT_short (B T : List UInt8) : ∀ (f i fr : Nat), T.length < i + 8 → makeT B T f i fr = flushT T fr T.length
  | 0, _, _, _ => rfl
  | f + 1, i, fr, h => by
    unfold makeT
    split
    · rw [if_pos (best_none h)]
      exact makeT_short B T f (i + 1) fr (by omega)
    · rfl
theorem flushT_len2 (T : List UInt8) (fr to : Nat) (ht : to ≤ T.length) (hT : T.length ≤ 5000) : (flushT T fr to).length ≤ (to - fr) + 2 := by
  unfold flushT
  split
  · have h2 := uv2 (2 * (to - fr)) (by omega)
    rw [List.length_append, List.length_take, List.length_drop]
    omega
  · simp
/-- What the fold ends with is at least what stands at each place. -/
theorem fold_ge (B T : List UInt8) (i : Nat) : ∀ (zs : List Nat) (pn : Nat × Nat), pn.2 ≤ (zs.foldl (bstep B T i) pn).2 ∧ ∀ z ∈ zs, lcp (B.drop z) (T.drop i) ≤ (zs.foldl (bstep B T i) pn).2
  | [], _ => ⟨Nat.le_refl _, by simp⟩
  | z :: zs, pn => by
    rw [List.foldl_cons]
    have ih := fold_ge B T i zs (bstep B T i pn z)
    have h1 : pn.2 ≤ (bstep B T i pn z).2 ∧ lcp (B.drop z) (T.drop i) ≤ (bstep B T i pn z).2 := by
      unfold bstep
      split
      · exact ⟨by omega, Nat.le_refl _⟩
      · exact ⟨Nat.le_refl _, by omega⟩
    refine ⟨Nat.le_trans h1.1 ih.1, fun x hx => ?_⟩
    rcases List.mem_cons.1 hx with e | hx
    · rw [e]; exact Nat.le_trans h1.2 ih.1
    · exact ih.2 x hx
/-- Where m bytes, eight or more, of the target stand in the base, so many or more are copied. -/
theorem best_at (B T : List UInt8) (i z m : Nat) (h8 : 8 ≤ m) (hz : z + m ≤ B.length) (hi : i + m ≤ T.length) (he : (B.drop z).take m = (T.drop i).take m) : m ≤ (best B T i).2 := by
  have hl : m ≤ lcp (B.drop z) (T.drop i) := lcp_ge m _ _ (by rw [List.length_drop]; omega) (by rw [List.length_drop]; omega) he
  have h8e : (B.drop z).take 8 = (T.drop i).take 8 := lcp_take _ _ 8 (by omega)
  rw [best, if_pos (by omega)]
  refine Nat.le_trans hl ((fold_ge B T i _ (0, 0)).2 z ?_)
  unfold posOf
  rw [List.mem_filter, List.mem_range]
  exact ⟨by omega, by rw [h8e]; simp⟩
/-- The tail: what is left of the target stands in the base. -/
theorem makeT_tail (B T : List UInt8) (f i fr z : Nat) (hB : B.length ≤ 5000) (hT : T.length ≤ 5000) (hfi : T.length ≤ i + f) (hi : i ≤ T.length) (hfr : fr ≤ i) (hz : z + (T.length - i) ≤ B.length) (he : (B.drop z).take (T.length - i) = T.drop i) : (makeT B T f i fr).length ≤ (i - fr) + 9 := by
  by_cases h8 : T.length < i + 8
  · rw [makeT_short B T f i fr h8]
    have := flushT_len2 T fr T.length (Nat.le_refl _) hT
    omega
  · cases f with
    | zero => omega
    | succ f =>
      have hb := best_at B T i z (T.length - i) (by omega) hz (by omega) (by rw [he, List.take_of_length_le (by rw [List.length_drop]; omega)])
      have hle := best_le B T i hi
      have hn : (best B T i).2 = T.length - i := by omega
      unfold makeT
      rw [if_pos (by omega), if_neg (by omega), hn, show i + (T.length - i) = T.length by omega, makeT_short B T f T.length T.length (by omega)]
      have h1 := flushT_len2 T fr i hi hT
      have h2 := uv2 (2 * (T.length - i) + 1) (by omega)
      have h3 := uv2 (best B T i).1 (by omega)
      have h4 : flushT T T.length T.length = [] := by rw [flushT, if_neg (by omega)]
      rw [h4]
      simp only [List.length_append, List.length_nil]
      omega
/-- Ahead of the tail. -/
theorem makeT_mid (B T : List UInt8) (e z : Nat) (hB : B.length ≤ 5000) (hT : T.length ≤ 5000) (he : e ≤ T.length) (ht : ∀ i, e ≤ i → i ≤ T.length → z + (i - e) + (T.length - i) ≤ B.length ∧ (B.drop (z + (i - e))).take (T.length - i) = T.drop i) : ∀ (f i fr : Nat), fr ≤ i → i ≤ e → T.length ≤ i + f → (makeT B T f i fr).length ≤ (e - fr) + 15
  | 0, i, fr, h1, h2, h3 => by
    have hie : i = e := by omega
    subst hie
    have := makeT_tail B T 0 i fr (z + (i - i)) hB hT h3 he h1 (ht i (Nat.le_refl _) he).1 (ht i (Nat.le_refl _) he).2
    omega
  | f + 1, i, fr, h1, h2, h3 => by
    by_cases hie : i = e
    · subst hie
      have := makeT_tail B T (f + 1) i fr (z + (i - i)) hB hT h3 he h1 (ht i (Nat.le_refl _) he).1 (ht i (Nat.le_refl _) he).2
      omega
    · unfold makeT
      rw [if_pos (by omega)]
      split
      · exact makeT_mid B T e z hB hT he ht f (i + 1) fr (by omega) (by omega) (by omega)
      · rename_i hn
        have hle := best_le B T i (by omega)
        have h8 := (best_is B T i hn).2
        have f1 := flushT_len2 T fr i (by omega) hT
        have u1 := uv2 (2 * (best B T i).2 + 1) (by omega)
        have u2 := uv2 (best B T i).1 (by omega)
        generalize (best B T i).2 = n at *
        simp only [List.length_append]
        by_cases hin : i + n ≤ e
        · have := makeT_mid B T e z hB hT he ht f (i + n) (i + n) (Nat.le_refl _) hin (by omega)
          omega
        · have h5 := ht (i + n) (by omega) (by omega)
          have := makeT_tail B T f (i + n) (i + n) _ hB hT (by omega) (by omega) (Nat.le_refl _) h5.1 h5.2
          omega
theorem edits_len (B P : List UInt8) (k : Nat) (hB : B.length ≤ 3000) (hk : k + 21 ≤ B.length) (hP : P.length ≤ 200) : (makeP B (B.take k ++ P ++ B.drop (k + 10))).length ≤ 4 * P.length + 60 := by
  obtain ⟨T, hTd⟩ : ∃ T, T = B.take k ++ P ++ B.drop (k + 10) := ⟨_, rfl⟩
  have hTk : (B.take k ++ P).length = k + P.length := by rw [List.length_append, List.length_take]; omega
  have hTl : T.length = k + P.length + (B.length - (k + 10)) := by rw [hTd, List.length_append, hTk, List.length_drop]
  rw [← hTd]
  have ht : ∀ i, k + P.length ≤ i → i ≤ T.length → k + 10 + (i - (k + P.length)) + (T.length - i) ≤ B.length ∧ (B.drop (k + 10 + (i - (k + P.length)))).take (T.length - i) = T.drop i := fun i h1 h2 => by
    refine ⟨by omega, ?_⟩
    rw [List.take_of_length_le (by rw [List.length_drop]; omega), hTd, List.drop_append, hTk, show List.drop i (B.take k ++ P) = [] from List.drop_of_length_le (by rw [hTk]; exact h1), List.nil_append, List.drop_drop]
  have hmid := makeT_mid B T (k + P.length) (k + 10) (by omega) (by omega) (by omega) ht
  have u1 := uv2 B.length (by omega)
  have u2 := uv2 T.length (by omega)
  rw [makeP_T, List.length_append, List.length_append]
  by_cases h8 : k < 8
  · have := hmid T.length 0 0 (Nat.le_refl _) (by omega) (by omega)
    omega
  · have hb := best_at B T 0 0 k (by omega) (by omega) (by omega) (by rw [List.drop_zero, List.drop_zero, hTd, List.append_assoc, List.take_append_of_le_length (by rw [List.length_take]; omega), List.take_take, Nat.min_self])
    have hle := best_le B T 0 (Nat.zero_le _)
    obtain ⟨f, hf⟩ : ∃ f, T.length = f + 1 := ⟨T.length - 1, by omega⟩
    have key : (makeT B T (f + 1) 0 0).length ≤ P.length + 25 := by
      unfold makeT
      rw [if_pos (by omega), if_neg (by omega)]
      have u3 := uv2 (2 * (best B T 0).2 + 1) (by omega)
      have u4 := uv2 (best B T 0).1 (by omega)
      have h4 : flushT T 0 0 = [] := by rw [flushT, if_neg (by omega)]
      rw [h4]
      generalize (best B T 0).2 = n at *
      simp only [List.length_append, List.length_nil]
      by_cases hin : 0 + n ≤ k + P.length
      · have := hmid f (0 + n) (0 + n) (Nat.le_refl _) hin (by omega)
        omega
      · have h5 := ht (0 + n) (by omega) (by omega)
        have := makeT_tail B T f (0 + n) (0 + n) _ (by omega) (by omega) (by omega) (by omega) (Nat.le_refl _) h5.1 h5.2
        omega
    rw [← hf] at key
    omega
end Go.Proofs.Ytfjmbcjcgdfkfaa
