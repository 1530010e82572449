/- A strings.Builder of the call's own, in memory. -/
import Derived.Test.YtcindgknimallaaOps2
import Derived.Lib.Builder
namespace Go.Proofs.Ytcindgknimallaa
open Go.RowKit
/-- A Builder that holds the bytes l lies at b; it and its row were made behind w0. -/
def BAt (w w0 : World) (b : Nat) (l : List UInt8) : Prop := w0.heap.size ≤ b ∧ ∃ p v, (p = .pointer none ∨ p = .pointer (some ⟨b, 0, none⟩)) ∧ w.heap[b]? = some (.cells ([p, v] : List Value).toArray 57 (0, 0)) ∧ w.ownsRow w0.heap.size 5 1 v l.length (Lib.byteCells l) ∧ v.ownBlock ≠ some b
theorem BAt.keep {w w' w0 : World} {b : Nat} {l : List UInt8} (h : BAt w w0 b l) (k : Ext w w') : BAt w' w0 b l := by
  obtain ⟨h0, p, v, h1, h2, h3, h4⟩ := h
  exact ⟨h0, p, v, h1, Ext.blk' k h2, Stab.own _ _ _ _ _ _ _ _ h3 k, h4⟩
theorem BAt.fresh {w w0 : World} {b : Nat} (h0 : w0.heap.size ≤ b) (h : w.heap[b]? = some (.cells ([.pointer none, (.slice none 0 0)] : List Value).toArray 57 (0, 0))) : BAt w w0 b [] :=
  ⟨h0, _, _, .inl rfl, h, World.ownsRow_nil w _ _ 1, by simp [Value.ownBlock]⟩
theorem BAt.lib {w w0 : World} {b : Nat} {l : List UInt8} (h : BAt w w0 b l) : Lib.IsBuilder 57 5 w0.heap.size b (Lib.byteCells l) w := by
  obtain ⟨h0, p, v, h1, h2, h3, h4⟩ := h
  have h3' : w.ownsRow w0.heap.size 5 1 v (Lib.byteCells l).length (Lib.byteCells l) := by rw [Lib.byteCells_length]; exact h3
  rcases h1 with rfl | rfl
  · exact .inl ⟨h0, v, h2, h3', h4⟩
  · exact .inr ⟨h0, v, h2, h3', h4⟩
section
variable {P : Program} {K : Value → World → Prop} {ρ : Slots} {w : World} {d : Option Tmp} {ty : TypeId} {pos : String} {af : Array Edge} {gd : Option (Nat × Bool)}
theorem info_of {t n : Nat} (hi : (P.info? t).map (·.size) = some n) : ∃ j, P.info? t = some j ∧ j.size = n := by
  cases h : P.info? t with
  | none => simp [h] at hi
  | some j => exact ⟨j, rfl, by simpa [h] using hi⟩
theorem YieldsK.toUnsafe {src dst t e : TypeId} {n : Nat} (hs : P.underlying src = some (.pointer t)) (hd : P.underlying dst = some .unsafePointer) (hi : (P.info? t).map (·.size) = some n) (hn : n ≠ 0) {x : Operand} {b o : Nat} {cs : Array Value} {fr : Nat × Nat} (hx : evalR ρ x = .pointer (some ⟨b, o, none⟩)) (hb : w.heap[b]? = some (.cells cs e fr)) (ho : o < cs.size)
    (hk : K (.pointer (some ⟨b, o, none⟩)) w) : YieldsK P K ((execOp (evalR ρ) ⟨d, .convert src dst x, ty, pos, af, gd⟩).run P w) := by
  obtain ⟨j, h1, h2⟩ := info_of hi
  have hr := Lib.run_to_unsafe (P := P) w (⟨b, o, none⟩ : Addr) hs hd h1 (by omega) (by show w.shape? b = _; unfold World.shape?; rw [hb]) ho
  refine YieldsK.value (v := .pointer (some ⟨b, o, none⟩)) (w' := w) ?_ hk
  unfold execOp
  simp only [hx, hr, Sem.run_bind, Sem.run_pure, Result.andThen_ok]
theorem YieldsK.fromUnsafe {src dst u e : TypeId} {n m : Nat} (hs : P.underlying src = some .unsafePointer) (hd : P.underlying dst = some (.pointer u)) (hi : (P.info? u).map (·.size) = some n) {x : Operand} {b o : Nat} {cs : Array Value} {fr : Nat × Nat} (hx : evalR ρ x = .pointer (some ⟨b, o, none⟩)) (hb : w.heap[b]? = some (.cells cs e fr)) (hm : cs.size = m) (hl : liesAt P P.depth e (m / P.cellsOf e) o u 1 = true)
    (hk : K (.pointer (some ⟨b, o, none⟩)) w) : YieldsK P K ((execOp (evalR ρ) ⟨d, .convert src dst x, ty, pos, af, gd⟩).run P w) := by
  obtain ⟨j, h1, h2⟩ := info_of hi
  have hr := Lib.run_from_unsafe (P := P) w (cells := m) (⟨b, o, none⟩ : Addr) hs hd h1 (by show w.shape? b = _; unfold World.shape?; rw [hb]; simp [hm]) hl
  refine YieldsK.value (v := .pointer (some ⟨b, o, none⟩)) (w' := w) ?_ hk
  unfold execOp
  simp only [hx, hr, Sem.run_bind, Sem.run_pure, Result.andThen_ok]
theorem YieldsK.neqSame {t e ty2 : TypeId} {n : Nat} (ht : P.underlying t = some (.pointer e)) (hi : (P.info? e).map (·.size) = some n) {x y : Operand} {a : Addr} (hx : evalR ρ x = .pointer (some a)) (hy : evalR ρ y = .pointer (some a)) (hk : K (.bool false) w) : YieldsK P K ((execOp (evalR ρ) ⟨d, .binOp .neq t x y ty2, ty, pos, af, gd⟩).run P w) := by
  obtain ⟨j, h1, h2⟩ := info_of hi
  have hr := Lib.run_neq_ptr_same (P := P) w a ht h1
  refine YieldsK.value (v := .bool false) (w' := w) ?_ hk
  unfold execOp
  simp only [hx, hy]
  simp [eqGuard, hr]
end
end Go.Proofs.Ytcindgknimallaa
