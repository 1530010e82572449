/- delta.Make in plain words; a row of numbers that is read. -/
import Derived.Test.YtfjmbcjcgdfkfaaDel6
namespace Go.Proofs.Ytfjmbcjcgdfkfaa
open Go.RowKit
section
variable {P : Program} {K : Value → World → Prop} {ρ : Slots} {w : World} {d : Option Tmp} {ty : TypeId} {pos : String} {af : Array Edge} {gd : Option (Nat × Bool)}
theorem YieldsK.lenOwn {t e e2 : TypeId} (ht : P.underlying t = some (.slice e2)) {x : Operand} {b z n : Nat} {xs : List Value} (h : w.ownsRow b e z (evalR ρ x) n xs) (hk : K (NI n) w) : YieldsK P K ((execOp (evalR ρ) ⟨d, .call ⟨.builtin .len, #[x], #[t]⟩, ty, pos, af, gd⟩).run P w) := by
  rcases h.2 with ⟨e1, h0⟩ | ⟨g, cap, cur, e1, -⟩
  · subst h0
    exact YieldsK.lenSl ht e1 hk
  · exact YieldsK.lenSl ht e1 hk
/-- The address of an owned row's element. -/
theorem YieldsK.atOwn {t e e2 : TypeId} (ht : P.underlying t = some (.slice e2)) (he : ∀ w' : World, (sizeOf e2).run P w' = .ok 1 w') {x y : Operand} {b : Nat} {xs : List Value} (h : w.ownsRow b e 1 (evalR ρ x) xs.length xs) {k : IntKind} {i : Nat} (hy : evalR ρ y = .int k (i : Int)) (hi : i < xs.length)
    (hk : ∀ v, PCell (xs.getD i undef) v w → K v w) : YieldsK P K ((execOp (evalR ρ) ⟨d, .indexAddr t x y, ty, pos, af, gd⟩).run P w) := by
  rcases h.2 with ⟨e1, h0⟩ | ⟨g, cap, cur, e1, -⟩
  · omega
  · have hc := h.cells (g := g) (by rw [e1]; rfl) i (xs.getD i undef) (by simp [hi])
    rw [Addr.add_lit] at hc
    exact YieldsK.atSl ht he e1 hy hi (hk _ ⟨_, rfl, hc⟩)
end
def bstep (B T : List UInt8) (i : Nat) (pn : Nat × Nat) (q : Nat) : Nat × Nat := if pn.2 < lcp (B.drop q) (T.drop i) then (q, lcp (B.drop q) (T.drop i)) else pn
/-- What stands longest, of the places where eight bytes stand: the place, and how long. -/
def best (B T : List UInt8) (i : Nat) : Nat × Nat := if i + 8 ≤ T.length then (posOf B (B.length - 7) ((T.drop i).take 8)).foldl (bstep B T i) (0, 0) else (0, 0)
def makeGo (B T : List UInt8) : Nat → Nat → Nat → List UInt8 → List UInt8
  | 0, _, fr, o => flushP T fr T.length o
  | f + 1, i, fr, o => if i < T.length then (if (best B T i).2 = 0 then makeGo B T f (i + 1) fr o
      else makeGo B T f (i + (best B T i).2) (i + (best B T i).2) (flushP T fr i o ++ Lib.uvarint (2 * (best B T i).2 + 1) ++ Lib.uvarint (best B T i).1)) else flushP T fr T.length o
def makeP (B T : List UInt8) : List UInt8 := makeGo B T T.length 0 0 (Lib.uvarint B.length ++ Lib.uvarint T.length)
theorem flushP_length (T : List UInt8) (fr to : Nat) (o : List UInt8) (ht : to ≤ 1048576) : (flushP T fr to o).length ≤ o.length + (to - fr) + 9 := by
  unfold flushP
  split
  · have := uvarint_len63 (2 * (to - fr)) (by omega)
    simp only [List.length_append, List.length_take, List.length_drop]
    omega
  · omega
theorem foldl_take_succ {α : Type} (f : α → Nat → α) (a : α) (zs : List Nat) (j : Nat) (h : j < zs.length) : (zs.take (j + 1)).foldl f a = f ((zs.take j).foldl f a) (zs.getD j 0) := by
  rw [List.take_succ_eq_append_getElem h, List.foldl_append]
  simp [h]
theorem NI_getD (zs : List Nat) (j : Nat) (h : j < zs.length) : (zs.map NI).getD j undef = NI (zs.getD j 0) := by simp [h]
theorem makeGo_end {B T : List UInt8} {f i fr : Nat} {o : List UInt8} (h : ¬ i < T.length) : makeGo B T f i fr o = flushP T fr T.length o := by
  cases f with
  | zero => rfl
  | succ f => rw [makeGo, if_neg h]
theorem posOf_lt {B : List UInt8} {k : Nat} {r : List UInt8} {j : Nat} (h : j < (posOf B k r).length) : (posOf B k r).getD j 0 < k := by
  have hm : (posOf B k r).getD j 0 ∈ posOf B k r := by
    rw [List.getD_eq_getElem?_getD, List.getElem?_eq_getElem h]
    exact List.getElem_mem h
  unfold posOf at hm
  rw [List.mem_filter, List.mem_range] at hm
  exact hm.1
end Go.Proofs.Ytfjmbcjcgdfkfaa
