/- Plain laws of the delta: its head; the chapter's example. -/
import Derived.Test.YtfjmbcjcgdfkfaaDel11
namespace Go.Proofs.Ytfjmbcjcgdfkfaa
open Go.RowKit
theorem flushP_ex (T : List UInt8) (fr to : Nat) (o : List UInt8) : ∃ r, flushP T fr to o = o ++ r := by
  unfold flushP
  split
  · exact ⟨Lib.uvarint (2 * (to - fr)) ++ (T.drop fr).take (to - fr), by rw [List.append_assoc]⟩
  · exact ⟨[], by simp⟩
theorem makeGo_ex (B T : List UInt8) : ∀ (f i fr : Nat) (o : List UInt8), ∃ r, makeGo B T f i fr o = o ++ r
  | 0, _, fr, o => flushP_ex T fr T.length o
  | f + 1, i, fr, o => by
    unfold makeGo
    split
    · split
      · exact makeGo_ex B T f _ _ _
      · obtain ⟨r, hr⟩ := makeGo_ex B T f (i + (best B T i).2) (i + (best B T i).2) (flushP T fr i o ++ Lib.uvarint (2 * (best B T i).2 + 1) ++ Lib.uvarint (best B T i).1)
        obtain ⟨q, hq⟩ := flushP_ex T fr i o
        exact ⟨q ++ Lib.uvarint (2 * (best B T i).2 + 1) ++ Lib.uvarint (best B T i).1 ++ r, by rw [hr, hq]; simp only [List.append_assoc]⟩
    · exact flushP_ex T fr T.length o
theorem lebDec_uv (n : Nat) (h : n < 9223372036854775808) (r : List UInt8) : lebDec 0 (Lib.uvarint n ++ r) = some (n, (Lib.uvarint n).length) := lebDec_uvarint r 8 n 0 (Nat.lt_of_lt_of_le h (by decide)) (by omega) (by omega)
theorem makeP_sizes (B T : List UInt8) (hB : B.length ≤ 1048576) (hT : T.length ≤ 1048576) : sizesP (makeP B T) = some (B.length, T.length, 0 + (Lib.uvarint B.length).length + (Lib.uvarint T.length).length) := by
  obtain ⟨r, hr⟩ := makeGo_ex B T T.length 0 0 (Lib.uvarint B.length ++ Lib.uvarint T.length)
  have h1 : makeP B T = Lib.uvarint B.length ++ (Lib.uvarint T.length ++ r) := by rw [makeP, hr, List.append_assoc]
  unfold sizesP
  rw [h1, List.drop_zero, lebDec_uv _ (by omega)]
  simp only
  rw [Nat.zero_add, List.drop_left, lebDec_uv _ (by omega)]
theorem apply_other (O B T : List UInt8) (hB : B.length ≤ 2000) (hT : T.length ≤ 2000) (hne : B.length ≠ O.length) : applyP O (makeP B T) = ([], 6) := by
  unfold applyP
  rw [makeP_sizes B T (by omega) (by omega)]
  simp only
  rw [if_neg (by omega), if_pos hne]
/-- uvarint by a count, for reckoning. -/
def uvS : Nat → Nat → List UInt8
  | 0, _ => []
  | f + 1, x => if x < 128 then [x.toUInt8] else (x % 128 + 128).toUInt8 :: uvS f (x / 128)
theorem uvS_eq : ∀ (f x : Nat), x < f → Lib.uvarint x = uvS f x
  | 0, x, h => by omega
  | f + 1, x, h => by
    unfold uvS
    split
    · rename_i h1
      exact Lib.uvarint_small h1
    · rename_i h1
      rw [Lib.uvarint_big (by omega), uvS_eq f (x / 128) (by omega)]
theorem uv_fun : Lib.uvarint = fun x => uvS (x + 1) x := funext fun x => uvS_eq (x + 1) x (by omega)
def makeGoU (U : Nat → List UInt8) (B T : List UInt8) : Nat → Nat → Nat → List UInt8 → List UInt8
  | 0, _, fr, o => if fr < T.length then o ++ U (2 * (T.length - fr)) ++ (T.drop fr).take (T.length - fr) else o
  | f + 1, i, fr, o => if i < T.length then (if (best B T i).2 = 0 then makeGoU U B T f (i + 1) fr o
      else makeGoU U B T f (i + (best B T i).2) (i + (best B T i).2) ((if fr < i then o ++ U (2 * (i - fr)) ++ (T.drop fr).take (i - fr) else o) ++ U (2 * (best B T i).2 + 1) ++ U (best B T i).1)) else (if fr < T.length then o ++ U (2 * (T.length - fr)) ++ (T.drop fr).take (T.length - fr) else o)
theorem makeGo_U (B T : List UInt8) : ∀ (f i fr : Nat) (o : List UInt8), makeGo B T f i fr o = makeGoU Lib.uvarint B T f i fr o
  | 0, _, _, _ => rfl
  | f + 1, i, fr, o => by
    unfold makeGo makeGoU
    rw [makeGo_U B T f, makeGo_U B T f]
    rfl
def ten : List UInt8 := [48, 49, 50, 51, 52, 53, 54, 55, 56, 57]
theorem make_ten : makeP ten (ten ++ [120]) = [10, 11, 21, 0, 2, 120] := by
  unfold makeP
  rw [makeGo_U, uv_fun]
  decide +kernel
theorem apply_ten : applyP ten [10, 11, 21, 0, 2, 120] = (ten ++ [120], 0) := by decide +kernel
end Go.Proofs.Ytfjmbcjcgdfkfaa
