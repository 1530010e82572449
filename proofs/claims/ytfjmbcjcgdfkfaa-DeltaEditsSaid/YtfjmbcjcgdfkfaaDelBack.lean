/- Plain law: a delta that was made is read again; how long it is at most. -/
import Derived.Test.YtfjmbcjcgdfkfaaDel12
namespace Go.Proofs.Ytfjmbcjcgdfkfaa
open Go.RowKit
theorem lcp_take : ∀ (a b : List UInt8) (n : Nat), n ≤ lcp a b → a.take n = b.take n
  | _, _, 0, _ => by simp
  | [], b, n + 1, h => by simp [lcp] at h
  | a :: u, [], n + 1, h => by simp [lcp] at h
  | a :: u, b :: z, n + 1, h => by
    unfold lcp at h
    split at h
    · rename_i e
      rw [List.take_succ_cons, List.take_succ_cons, e, lcp_take u z n (by omega)]
    · omega
theorem lcp_ge : ∀ (n : Nat) (a b : List UInt8), n ≤ a.length → n ≤ b.length → a.take n = b.take n → n ≤ lcp a b
  | 0, _, _, _, _, _ => Nat.zero_le _
  | n + 1, [], _, h, _, _ => by simp at h
  | n + 1, _ :: _, [], _, h, _ => by simp at h
  | n + 1, a :: u, b :: z, h1, h2, h => by
    rw [List.take_succ_cons, List.take_succ_cons] at h
    injection h with e1 e2
    unfold lcp
    rw [if_pos e1]
    have := lcp_ge n u z (by simpa using h1) (by simpa using h2) e2
    omega
/-- What the fold over the places keeps. -/
theorem fold_is (B T : List UInt8) (i : Nat) : ∀ (zs : List Nat) (pn : Nat × Nat), (pn.2 = 0 ∨ pn.2 = lcp (B.drop pn.1) (T.drop i) ∧ 8 ≤ pn.2) → (∀ z ∈ zs, 8 ≤ lcp (B.drop z) (T.drop i)) → (zs.foldl (bstep B T i) pn).2 = 0 ∨ (zs.foldl (bstep B T i) pn).2 = lcp (B.drop (zs.foldl (bstep B T i) pn).1) (T.drop i) ∧ 8 ≤ (zs.foldl (bstep B T i) pn).2
  | [], _, h, _ => h
  | z :: zs, pn, h, hz => by
    rw [List.foldl_cons]
    refine fold_is B T i zs _ ?_ (fun x hx => hz x (by simp [hx]))
    unfold bstep
    split
    · exact .inr ⟨rfl, hz z (by simp)⟩
    · exact h
theorem best_is (B T : List UInt8) (i : Nat) (h : (best B T i).2 ≠ 0) : (best B T i).2 = lcp (B.drop (best B T i).1) (T.drop i) ∧ 8 ≤ (best B T i).2 := by
  have key : (best B T i).2 = 0 ∨ (best B T i).2 = lcp (B.drop (best B T i).1) (T.drop i) ∧ 8 ≤ (best B T i).2 := by
    unfold best
    split
    · rename_i h8
      refine fold_is B T i _ _ (.inl rfl) (fun z hz => ?_)
      unfold posOf at hz
      rw [List.mem_filter, List.mem_range] at hz
      have he := eq_of_beq hz.2
      exact lcp_ge 8 _ _ (by rw [List.length_drop]; omega) (by rw [List.length_drop]; omega) he
    · exact .inl rfl
  exact key.resolve_left h
/-- What is made, without what was there. -/
def flushT (T : List UInt8) (fr to : Nat) : List UInt8 := if fr < to then Lib.uvarint (2 * (to - fr)) ++ (T.drop fr).take (to - fr) else []
def makeT (B T : List UInt8) : Nat → Nat → Nat → List UInt8
  | 0, _, fr => flushT T fr T.length
  | f + 1, i, fr => if i < T.length then (if (best B T i).2 = 0 then makeT B T f (i + 1) fr
      else flushT T fr i ++ (Lib.uvarint (2 * (best B T i).2 + 1) ++ (Lib.uvarint (best B T i).1 ++ makeT B T f (i + (best B T i).2) (i + (best B T i).2)))) else flushT T fr T.length
theorem flushP_T (T : List UInt8) (fr to : Nat) (o : List UInt8) : flushP T fr to o = o ++ flushT T fr to := by
  unfold flushP flushT
  split
  · rw [List.append_assoc]
  · simp
theorem makeGo_T (B T : List UInt8) : ∀ (f i fr : Nat) (o : List UInt8), makeGo B T f i fr o = o ++ makeT B T f i fr
  | 0, _, fr, o => flushP_T T fr T.length o
  | f + 1, i, fr, o => by
    unfold makeGo makeT
    split
    · split
      · exact makeGo_T B T f _ _ _
      · rw [makeGo_T B T f, flushP_T]
        simp only [List.append_assoc]
    · exact flushP_T T fr T.length o
theorem uv2 (n : Nat) (h : n < 16384) : (Lib.uvarint n).length ≤ 2 := Lib.uvarint_length 1 n (by omega)
theorem flushT_len (T : List UInt8) (fr to : Nat) (ht : to ≤ T.length) (hT : T.length ≤ 5000) : (flushT T fr to).length ≤ 2 * (to - fr) := by
  unfold flushT
  split
  · have h2 := uv2 (2 * (to - fr)) (by omega)
    rw [List.length_append, List.length_take, List.length_drop]
    by_cases h1 : to - fr = 1
    · rw [h1, Lib.uvarint_small (by omega)]
      simp
      omega
    · omega
  · simp
theorem makeT_len (B T : List UInt8) (hB : B.length ≤ 5000) (hT : T.length ≤ 5000) : ∀ (f i fr : Nat), fr ≤ i → i ≤ T.length → (makeT B T f i fr).length ≤ 2 * (T.length - fr)
  | 0, i, fr, _, _ => flushT_len T fr T.length (Nat.le_refl _) hT
  | f + 1, i, fr, h, hi => by
    unfold makeT
    split
    · split
      · exact makeT_len B T hB hT f (i + 1) fr (by omega) (by omega)
      · rename_i h1 hn
        have hb := best_le B T i hi
        have h8 := (best_is B T i hn).2
        have ih := makeT_len B T hB hT f (i + (best B T i).2) (i + (best B T i).2) (Nat.le_refl _) (by omega)
        have hf := flushT_len T fr i hi hT
        have u1 := uv2 (2 * (best B T i).2 + 1) (by omega)
        have u2 := uv2 (best B T i).1 (by omega)
        simp only [List.length_append]
        omega
    · exact flushT_len T fr T.length (Nat.le_refl _) hT
theorem makeP_T (B T : List UInt8) : makeP B T = Lib.uvarint B.length ++ Lib.uvarint T.length ++ makeT B T T.length 0 0 := makeGo_T B T _ _ _ _
theorem makeP_len (B T : List UInt8) (hB : B.length ≤ 5000) (hT : T.length ≤ 5000) : (makeP B T).length ≤ 2 * T.length + 18 := by
  have := makeT_len B T hB hT T.length 0 0 (Nat.le_refl _) (Nat.zero_le _)
  have u1 := uv2 B.length (by omega)
  have u2 := uv2 T.length (by omega)
  rw [makeP_T, List.length_append, List.length_append]
  omega
/-- A piece that is added, read. -/
theorem piece_add (B pre bs rest : List UInt8) (h1 : 1 ≤ bs.length) (h2 : bs.length ≤ 1048576) : pieceP B (pre ++ (Lib.uvarint (2 * bs.length) ++ (bs ++ rest))) pre.length = some (bs, pre.length + (Lib.uvarint (2 * bs.length)).length + bs.length) := by
  unfold pieceP
  rw [List.drop_left, lebDec_uv _ (by omega)]
  simp only
  rw [if_neg (by omega), cutP, if_neg (by simp only [List.length_append]; omega), Nat.mul_div_cancel_left _ (by decide)]
  rw [show pre ++ (Lib.uvarint (2 * bs.length) ++ (bs ++ rest)) = (pre ++ Lib.uvarint (2 * bs.length)) ++ (bs ++ rest) by rw [List.append_assoc], ← List.length_append, List.drop_left, List.take_left]
/-- A piece that is copied, read. -/
theorem piece_copy (B pre rest : List UInt8) (p n : Nat) (hn : 1 ≤ n) (hp : p ≤ B.length) (hpn : n ≤ B.length - p) (hB : B.length ≤ 1048576) : pieceP B (pre ++ (Lib.uvarint (2 * n + 1) ++ (Lib.uvarint p ++ rest))) pre.length = some ((B.drop p).take n, pre.length + (Lib.uvarint (2 * n + 1)).length + (Lib.uvarint p).length) := by
  unfold pieceP
  rw [List.drop_left, lebDec_uv _ (by omega)]
  simp only
  rw [if_pos (by omega), show pre ++ (Lib.uvarint (2 * n + 1) ++ (Lib.uvarint p ++ rest)) = (pre ++ Lib.uvarint (2 * n + 1)) ++ (Lib.uvarint p ++ rest) by rw [List.append_assoc], ← List.length_append, List.drop_left, lebDec_uv _ (by omega)]
  simp only
  rw [show (2 * n + 1) / 2 = n by omega, cutP, if_neg (by omega)]
theorem take_more (T : List UInt8) (fr to : Nat) (h : fr ≤ to) : T.take fr ++ (T.drop fr).take (to - fr) = T.take to := by
  rw [← List.take_add]
  congr 1
  omega
theorem flush_read (B T pre rest : List UInt8) (fr to : Nat) (h : fr ≤ to) (ht : to ≤ T.length) (hT : T.length ≤ 1048576) (g : Nat) (hg : (flushT T fr to ++ rest).length < g) : ∃ g', rest.length < g' ∧ applyGo B (pre ++ (flushT T fr to ++ rest)) T.length g pre.length (T.take fr) = applyGo B (pre ++ (flushT T fr to ++ rest)) T.length g' (pre ++ flushT T fr to).length (T.take to) := by
  by_cases hlt : fr < to
  · have hl : ((T.drop fr).take (to - fr)).length = to - fr := by rw [List.length_take, List.length_drop]; omega
    have hf : flushT T fr to = Lib.uvarint (2 * ((T.drop fr).take (to - fr)).length) ++ (T.drop fr).take (to - fr) := by rw [flushT, if_pos hlt, hl]
    have hfl : 1 ≤ (flushT T fr to).length := by rw [hf, List.length_append, hl]; omega
    cases g with
    | zero => omega
    | succ g =>
      refine ⟨g, by rw [List.length_append] at hg; omega, ?_⟩
      rw [applyGo, if_pos (by simp only [List.length_append]; omega)]
      have hp := piece_add B pre ((T.drop fr).take (to - fr)) rest (by omega) (by omega)
      rw [show pre ++ (flushT T fr to ++ rest) = pre ++ (Lib.uvarint (2 * ((T.drop fr).take (to - fr)).length) ++ ((T.drop fr).take (to - fr) ++ rest)) by rw [hf, List.append_assoc], hp]
      simp only
      rw [if_neg (by rw [hl, List.length_take]; omega), take_more T fr to h]
      congr 1
      rw [hf]
      simp only [List.length_append]
      omega
  · have he : fr = to := by omega
    subst he
    have hf : flushT T fr fr = [] := by rw [flushT, if_neg (by omega)]
    rw [hf] at hg ⊢
    exact ⟨g, by simpa using hg, by simp⟩
theorem applyGo_end (B D T : List UInt8) (g : Nat) (hg : 0 < g) : applyGo B D T.length g D.length (T.take T.length) = some T := by
  cases g with
  | zero => omega
  | succ g => rw [applyGo, if_neg (by omega), List.take_length, if_pos rfl]
theorem last_read (B T pre : List UInt8) (fr : Nat) (h : fr ≤ T.length) (hT : T.length ≤ 1048576) (g : Nat) (hg : (flushT T fr T.length).length < g) : applyGo B (pre ++ flushT T fr T.length) T.length g pre.length (T.take fr) = some T := by
  obtain ⟨g', h1, h2⟩ := flush_read B T pre [] fr T.length h (Nat.le_refl _) hT g (by simpa using hg)
  rw [List.append_nil] at h2
  rw [h2]
  exact applyGo_end B _ T g' (by omega)
theorem read_make (B T : List UInt8) (hB : B.length ≤ 1048576) (hT : T.length ≤ 1048576) : ∀ (f i fr : Nat) (pre : List UInt8) (g : Nat), fr ≤ i → i ≤ T.length → (makeT B T f i fr).length < g → applyGo B (pre ++ makeT B T f i fr) T.length g pre.length (T.take fr) = some T
  | 0, i, fr, pre, g, h1, h2, hg => last_read B T pre fr (by omega) hT g hg
  | f + 1, i, fr, pre, g, h1, h2, hg => by
    unfold makeT at hg ⊢
    split
    · rename_i hi
      rw [if_pos hi] at hg
      split
      · rename_i hn
        rw [if_pos hn] at hg
        exact read_make B T hB hT f (i + 1) fr pre g (by omega) (by omega) hg
      · rename_i hn
        rw [if_neg hn] at hg
        have hb := best_le B T i h2
        have hs := best_is B T i hn
        generalize best B T i = pn at *
        obtain ⟨p, n⟩ := pn
        simp only at hn hb hs hg ⊢
        have hpn := (lcp_le (B.drop p) (T.drop i)).1
        rw [List.length_drop] at hpn
        obtain ⟨g', h3, h4⟩ := flush_read B T pre (Lib.uvarint (2 * n + 1) ++ (Lib.uvarint p ++ makeT B T f (i + n) (i + n))) fr i h1 h2 hT g hg
        rw [h4]
        have hu := Lib.uvarint_pos (2 * n + 1)
        cases g' with
        | zero => omega
        | succ g' =>
          rw [← List.append_assoc pre, applyGo, if_pos (by simp only [List.length_append]; omega), piece_copy B (pre ++ flushT T fr i) _ p n (by omega) hb.1 (by omega) hB]
          simp only
          have hl : ((B.drop p).take n).length = n := by rw [List.length_take, List.length_drop]; omega
          rw [if_neg (by rw [hl, List.length_take]; omega), lcp_take (B.drop p) (T.drop i) n (by omega)]
          have ht : T.take i ++ (T.drop i).take n = T.take (i + n) := by
            have := take_more T i (i + n) (by omega)
            rwa [Nat.add_sub_cancel_left] at this
          rw [ht]
          have ih := read_make B T hB hT f (i + n) (i + n) (pre ++ flushT T fr i ++ Lib.uvarint (2 * n + 1) ++ Lib.uvarint p) g' (Nat.le_refl _) (by omega) (by simp only [List.length_append] at h3; omega)
          rw [← ih]
          simp only [List.append_assoc, List.length_append, Nat.add_assoc]
    · rename_i hi
      rw [if_neg hi] at hg
      exact last_read B T pre fr (by omega) hT g hg
/-- A target is made again of its delta. -/
theorem apply_make (B T : List UInt8) (hB : B.length ≤ 5000) (hT : T.length ≤ 5000) : applyP B (makeP B T) = (T, 0) := by
  unfold applyP
  rw [makeP_sizes B T (by omega) (by omega)]
  simp only
  rw [if_neg (by omega), if_neg (by simp), makeP_T, Nat.zero_add, ← List.length_append]
  have := read_make B T (by omega) (by omega) T.length 0 0 (Lib.uvarint B.length ++ Lib.uvarint T.length) ((Lib.uvarint B.length ++ Lib.uvarint T.length ++ makeT B T T.length 0 0).length + 1) (Nat.le_refl _) (Nat.zero_le _) (by simp only [List.length_append]; omega)
  rw [List.take_zero] at this
  rw [this]
end Go.Proofs.Ytfjmbcjcgdfkfaa
