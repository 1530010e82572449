/- What delta.Make keeps in memory while it runs. -/
import Derived.Test.YtfjmbcjcgdfkfaaDel4
namespace Go.Proofs.Ytfjmbcjcgdfkfaa
open Go.RowKit
/-- g3: the target's cell; g5: that of what is made (it holds vc; v is the row itself, of o); g7: that of the place from which is to be added; lo to wI: the map's memory. -/
structure MK (w0 wI w : World) (lo g3 g5 g7 : Nat) (vt vc v : Value) (o : List UInt8) (fr : Nat) : Prop where
  ext : Ext w0 w
  b3 : w.heap[g3]? = some (.cells #[vt] 22 (0, 0))
  b5 : w.heap[g5]? = some (.cells #[vc] 22 (0, 0))
  b7 : w.heap[g7]? = some (.cells #[NI fr] 3 (0, 0))
  own : w.ownsRow w0.heap.size 5 1 v o.length (Lib.byteCells o)
  fz : ∀ k, lo ≤ k → k < wI.heap.size → w.heap[k]? = wI.heap[k]?
  apz : ∀ k, v.ownBlock = some k → k < lo ∨ wI.heap.size ≤ k
  l3 : w0.heap.size ≤ g3
  l5 : w0.heap.size ≤ g5
  l7 : w0.heap.size ≤ g7
  o3 : g3 < lo
  o5 : g5 < lo
  o35 : g3 ≠ g5
  o7 : wI.heap.size ≤ g7
  oi : lo ≤ wI.heap.size
  os : wI.heap.size ≤ w.heap.size
theorem own_neT {w : World} {b : Nat} {e t : TypeId} {z n g : Nat} {v : Value} {xs : List Value} {cs : Array Value} {fr : Nat × Nat} (ho : w.ownsRow b e z v n xs) (hb : w.heap[g]? = some (.cells cs t fr)) (hne : e ≠ t) : v.ownBlock ≠ some g := fun h => by
  rcases ho.2 with ⟨rfl, _⟩ | ⟨g', cap, cur, rfl, _, hg, _⟩
  · cases h
  · have : g' = g := by simpa [Value.ownBlock] using h
    subst this
    rw [hg] at hb
    simp only [Option.some.injEq, Obj.cells.injEq] at hb
    exact hne hb.2.1
section
variable {w0 wI w w' : World} {lo g3 g5 g7 : Nat} {vt vc v : Value} {o : List UInt8} {fr : Nat}
theorem MK.keep (h : MK w0 wI w lo g3 g5 g7 vt vc v o fr) (k : Ext w w') : MK w0 wI w' lo g3 g5 g7 vt vc v o fr :=
  ⟨h.ext.trans k, Ext.blk' k h.b3, Ext.blk' k h.b5, Ext.blk' k h.b7, Stab.own _ _ _ _ _ _ _ _ h.own k, fun i h1 h2 => (k.block i (Nat.lt_of_lt_of_le h2 h.os)).trans (h.fz i h1 h2), h.apz, h.l3, h.l5, h.l7, h.o3, h.o5, h.o35, h.o7, h.oi, Nat.le_trans h.os k.size⟩
theorem MK.grew {v' : Value} {o' : List UInt8} (h : MK w0 wI w lo g3 g5 g7 vt vc v o fr) (gr : Grew w w' v v') (ho : w'.ownsRow w0.heap.size 5 1 v' o'.length (Lib.byteCells o')) : MK w0 wI w' lo g3 g5 g7 vt vc v' o' fr :=
  ⟨ext_grew h.ext gr h.own (Nat.le_refl _), blk_grew h.b3 gr (own_neT h.own h.b3 (by decide)), blk_grew h.b5 gr (own_neT h.own h.b5 (by decide)), blk_grew h.b7 gr (own_neT h.own h.b7 (by decide)), ho,
    fun i h1 h2 => (gr.by_.block i (Nat.lt_of_lt_of_le h2 h.os) (fun e => by rcases h.apz i e.symm with h3 | h3 <;> omega)).trans (h.fz i h1 h2),
    fun k hk => (gr.fresh k hk).elim (h.apz k) (fun h3 => .inr (Nat.le_trans h.os h3)), h.l3, h.l5, h.l7, h.o3, h.o5, h.o35, h.o7, h.oi, Nat.le_trans h.os gr.by_.size⟩
theorem MK.set5 (h : MK w0 wI w lo g3 g5 g7 vt vc v o fr) (hb : w'.heap[g5]? = some (.cells #[v] 22 (0, 0))) (hg : w.grownBy w' (some g5)) : MK w0 wI w' lo g3 g5 g7 vt v v o fr :=
  have lt := fun {k : Nat} {x : Obj} (hx : w.heap[k]? = some x) => (Array.getElem?_eq_some_iff.1 hx).1
  have h57 : g7 ≠ g5 := by have := h.o5; have := h.o7; have := h.oi; omega
  ⟨Below.grown h.ext hg h.ext.size (fun k hk => by cases hk; exact h.l5), (hg.block g3 (lt h.b3) (by simp [h.o35])).trans h.b3, hb, (hg.block g7 (lt h.b7) (by simp [h57])).trans h.b7,
    own_kept h.own hg (own_neT h.own h.b5 (by decide)), fun i h1 h2 => (hg.block i (Nat.lt_of_lt_of_le h2 h.os) (fun e => by cases e; have := h.o5; omega)).trans (h.fz i h1 h2), h.apz, h.l3, h.l5, h.l7, h.o3, h.o5, h.o35, h.o7, h.oi, Nat.le_trans h.os hg.size⟩
theorem MK.set7 {n : Nat} (h : MK w0 wI w lo g3 g5 g7 vt vc v o fr) (hb : w'.heap[g7]? = some (.cells #[NI n] 3 (0, 0))) (hg : w.grownBy w' (some g7)) : MK w0 wI w' lo g3 g5 g7 vt vc v o n :=
  have lt := fun {k : Nat} {x : Obj} (hx : w.heap[k]? = some x) => (Array.getElem?_eq_some_iff.1 hx).1
  have h57 : g5 ≠ g7 := by have := h.o5; have := h.o7; have := h.oi; omega
  have h37 : g3 ≠ g7 := by have := h.o3; have := h.o7; have := h.oi; omega
  ⟨Below.grown h.ext hg h.ext.size (fun k hk => by cases hk; exact h.l7), (hg.block g3 (lt h.b3) (by simp [h37])).trans h.b3, (hg.block g5 (lt h.b5) (by simp [h57])).trans h.b5, hb,
    own_kept h.own hg (own_neT h.own h.b7 (by decide)), fun i h1 h2 => (hg.block i (Nat.lt_of_lt_of_le h2 h.os) (fun e => by cases e; have := h.o7; omega)).trans (h.fz i h1 h2), h.apz, h.l3, h.l5, h.l7, h.o3, h.o5, h.o35, h.o7, h.oi, Nat.le_trans h.os hg.size⟩
/-- The map as it was when it was made. -/
theorem MK.idx {b base : Nat} {I : TypeId} {G : List UInt8 → List Nat} (h : MK w0 wI w lo g3 g5 g7 vt vc v o fr) (hI : IdxAt wI b base I G) (hb : lo ≤ b) : IdxAt w b base I G := by
  obtain ⟨h1, es, c, h2, h3⟩ := hI
  refine ⟨h1, es, c, (h.fz b hb (Array.getElem?_eq_some_iff.1 h2).1).trans h2, h3.born, h3.nodup, h3.keys, fun e he => ?_, h3.all, h3.apart⟩
  obtain ⟨q, k1, k2, k3, k4⟩ := h3.ent e he
  refine ⟨q, k1, k2, k3, k4.1, ?_⟩
  rcases k4.2 with h5 | ⟨g, cap, cur, e1, hbg, hg, r⟩
  · exact .inl h5
  · exact .inr ⟨g, cap, cur, e1, hbg, (h.fz g (by omega) (Array.getElem?_eq_some_iff.1 hg).1).trans hg, r⟩
end
/-- What is added. -/
def flushP (T : List UInt8) (fr to : Nat) (o : List UInt8) : List UInt8 := if fr < to then o ++ Lib.uvarint (2 * (to - fr)) ++ (T.drop fr).take (to - fr) else o
end Go.Proofs.Ytfjmbcjcgdfkfaa
