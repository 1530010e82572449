/- Two rows of bytes that grow side by side; what the reference's Make adds. -/
import Derived.Test.YtfjmbcjcgdfkfaaDel14
namespace Go.Proofs.Ytfjmbcjcgdfkfaa
open Go.RowKit
structure RM (w0 w : World) (va : Value) (o : List UInt8) (vb : Value) (ad : List UInt8) : Prop where
  ext : Ext w0 w
  a : w.ownsRow w0.heap.size 5 1 va o.length (Lib.byteCells o)
  b : w.ownsRow w0.heap.size 5 1 vb ad.length (Lib.byteCells ad)
  ap : ∀ k, va.ownBlock = some k → vb.ownBlock ≠ some k
section
variable {w0 w w' : World} {va vb : Value} {o ad : List UInt8}
theorem own_grew2 {v v' x : Value} {b : Nat} {e : TypeId} {z n : Nat} {xs : List Value} (h : w.ownsRow b e z x n xs) (hx : ∀ k, x.ownBlock = some k → v.ownBlock ≠ some k) (gr : Grew w w' v v') : w'.ownsRow b e z x n xs :=
  h.kept gr.by_ (by cases hb : x.ownBlock with | none => exact .inl rfl | some k => exact .inr (fun e => hx k hb e.symm))
theorem apart_new2 {v v' x : Value} (hx : ∀ k, x.ownBlock = some k → v.ownBlock ≠ some k) (ht : ∀ k, x.ownBlock = some k → k < w.heap.size) (gr : Grew w w' v v') : ∀ k, x.ownBlock = some k → v'.ownBlock ≠ some k := fun k hk hv => by
  rcases gr.fresh k hv with h1 | h1
  · exact hx k hk h1
  · have := ht k hk; omega
theorem RM.keep (h : RM w0 w va o vb ad) (k : Ext w w') : RM w0 w' va o vb ad := ⟨h.ext.trans k, Stab.own _ _ _ _ _ _ _ _ h.a k, Stab.own _ _ _ _ _ _ _ _ h.b k, h.ap⟩
theorem RM.growA {v' : Value} {o' : List UInt8} (h : RM w0 w va o vb ad) (gr : Grew w w' va v') (ho : w'.ownsRow w0.heap.size 5 1 v' o'.length (Lib.byteCells o')) : RM w0 w' v' o' vb ad :=
  have hba : ∀ k, vb.ownBlock = some k → va.ownBlock ≠ some k := fun k hk ha => h.ap k ha hk
  ⟨ext_grew h.ext gr h.a (Nat.le_refl _), ho, own_grew2 h.b hba gr, fun k hk hb => apart_new2 hba (fun k hk => (h.b.lt k hk).2) gr k hb hk⟩
theorem RM.growB {v' : Value} {o' : List UInt8} (h : RM w0 w va o vb ad) (gr : Grew w w' vb v') (ho : w'.ownsRow w0.heap.size 5 1 v' o'.length (Lib.byteCells o')) : RM w0 w' va o v' o' :=
  ⟨ext_grew h.ext gr h.b (Nat.le_refl _), own_grew2 h.a h.ap gr, ho, apart_new2 h.ap (fun k hk => (h.a.lt k hk).2) gr⟩
theorem RM.reset (h : RM w0 w va o vb ad) : RM w0 w va o (.slice none 0 0) [] := ⟨h.ext, h.a, World.ownsRow_nil _ _ _ 1, fun k _ hk => by simp [Value.ownBlock] at hk⟩
end
def addP (b : List UInt8) : List UInt8 := if b.length = 0 then [] else Lib.uvarint (2 * b.length) ++ b
theorem addP_flush (T : List UInt8) (fr to : Nat) (h : fr ≤ to) (ht : to ≤ T.length) : addP ((T.drop fr).take (to - fr)) = flushT T fr to := by
  have hl : ((T.drop fr).take (to - fr)).length = to - fr := by rw [List.length_take, List.length_drop]; omega
  unfold addP flushT
  rw [hl]
  by_cases h1 : fr < to
  · rw [if_neg (by omega), if_pos h1]
  · rw [if_pos (by omega), if_neg h1]
theorem take_one_more (T : List UInt8) (fr i : Nat) (h : fr ≤ i) (hi : i < T.length) : (T.drop fr).take (i - fr) ++ [T.getD i 0] = (T.drop fr).take (i + 1 - fr) := by
  rw [show i + 1 - fr = (i - fr) + 1 by omega, List.take_add_one]
  congr 1
  rw [List.getElem?_drop, show fr + (i - fr) = i by omega, List.getElem?_eq_getElem hi]
  simp [List.getD, hi]
end Go.Proofs.Ytfjmbcjcgdfkfaa
