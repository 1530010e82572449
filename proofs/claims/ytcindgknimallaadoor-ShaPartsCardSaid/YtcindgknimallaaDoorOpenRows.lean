/- A slice of slices of bytes that came in. -/
import Derived.Test.YtcindgknimallaaDoorOpen
import Derived.Test.YtcindgknimallaaDoorParts
import Derived.Deep.Slices
namespace Go.Proofs.YtcindgknimallaaDoor
open Go.ChangeShapes Go.WideShapes Go.ChangeAt Go.RowKit Go.Deep
section
variable {H : Type} {enc : TypeId × Value → H} {P : Program} {W : World}
theorem open_rows {t e e2 : TypeId} {r : Reach} {b0 : Nat} {v : Value} {d : DataW H} {ps : List MemPlace} (ht : P.underlying t = some (.slice e)) (he : P.underlying e = some (.slice e2)) (he2 : P.underlying e2 = some (.int .u8)) (hc : P.cellsOf e = 1) (hc2 : P.cellsOf e2 = 1)
    (hval : Value.okWide P W r b0 t v) (hd : DataW.Trod enc P W 0 (fun _ => true) true t v d ps) : ∃ ls, RBs W v ls ∧ ∀ x ∈ ps, x.block < W.heap.size := by
  obtain ⟨a0, len0, cap0, rfl⟩ := okWide_slice ht hval
  obtain ⟨fuel, hf⟩ := hd
  have hlt := DataW.trod_lt fuel _ _ _ hf
  rcases open_slice1 ht hc hf with ⟨hcs, hx⟩ | ⟨a, len, cap, m, n, V, D, Pl, hcs, _, hl, hm, hmm, hx, hel⟩
  · simp [Value.cells] at hcs
    obtain ⟨rfl, rfl, rfl⟩ := hcs
    exact ⟨[], RBs.nil W, hlt⟩
  · simp [Value.cells] at hcs
    obtain ⟨rfl, rfl, rfl⟩ := hcs
    have hmc : m = cap0 := by simpa using hmm
    obtain ⟨L, hL⟩ := choose_lt (α := List UInt8) (p := fun i l => RB W (V i) l) (fun i (hi : i < len0) => by
      obtain ⟨c, l, h1, h2, _⟩ := open_bytesC he he2 hc2 (hel i (by omega)).2
      simp only [List.cons.injEq, and_true] at h1
      exact ⟨l, h1 ▸ h2⟩)
    refine ⟨(List.range len0).map L, ⟨(List.range len0).map V, by simp, ⟨by simp, some a, cap0, by simp, by simpa using hl, hm, (fun h => by cases h), fun a' ha j u hu => ?_⟩, fun i hi => ?_⟩, hlt⟩
    · cases ha
      have hj : j < len0 := by simpa using (List.getElem?_eq_some_iff.1 hu).1
      simp [hj] at hu
      rw [(hel j (by omega)).1, hu]
    · have hi' : i < len0 := by simpa using hi
      have := hL i hi'
      simpa [List.getD, hi'] using this
end
end Go.Proofs.YtcindgknimallaaDoor
