/- Operations on the map of the call's own; a row of bytes as an array; where a row stands in a base. -/
import Derived.Test.YtfjmbcjcgdfkfaaIdx
import Derived.Test.YtfjmbcjcgdfkfaaDel2
import Derived.Deep.MidRow
namespace Go.Proofs.Ytfjmbcjcgdfkfaa
open Go.RowKit
open Go.WideMaps (KeyLaw)
structure IX (w0 w : World) (b base : Nat) (I : TypeId) (G : List UInt8 → List Nat) : Prop where
  ext : Ext w0 w
  lo : w0.heap.size ≤ b
  hb : base ≤ w.heap.size
  idx : IdxAt w b base I G
structure IXO (w0 w : World) (b base : Nat) (I : TypeId) (G : List UInt8 → List Nat) (r : List UInt8) (v : Value) (zs : List Nat) (st : Nat) : Prop where
  ext : Ext w0 w
  lo : w0.heap.size ≤ b
  hb : base ≤ w.heap.size
  opn : IdxOpen w b base I G r v zs st
section
variable {P : Program} {K : Value → World → Prop} {ρ : Slots} {w w' : World} {d : Option Tmp} {ty : TypeId} {pos : String} {af : Array Edge} {gd : Option (Nat × Bool)}
variable {w0 : World} {b base : Nat} {I : TypeId} {G : List UInt8 → List Nat} {r : List UInt8} {v : Value} {zs : List Nat} {st : Nat}
theorem IX.keep (h : IX w0 w b base I G) (k : Ext w w') : IX w0 w' b base I G := ⟨h.ext.trans k, h.lo, Nat.le_trans h.hb k.size, h.idx.keep k⟩
theorem IXO.keep (h : IXO w0 w b base I G r v zs st) (k : Ext w w') : IXO w0 w' b base I G r v zs st := ⟨h.ext.trans k, h.lo, Nat.le_trans h.hb k.size, h.opn.keep k⟩
theorem YieldsK.makeMap {t : TypeId} (hk : ∀ b w', w.heap.size = b → IX w w' b (b + 1) I (fun _ => []) → K (.map (some b)) w') : YieldsK P K ((execOp (evalR ρ) ⟨d, .makeMap t none, ty, pos, af, gd⟩).run P w) := by
  refine YieldsK.value (v := .map (some w.heap.size)) (w' := w.alloc (.map #[] 0)) ?_ (hk _ _ rfl ⟨(Below.refl _ _).alloc (Nat.le_refl _) _, Nat.le_refl _, by simp, IdxAt.made w⟩)
  unfold execOp
  simp only [Option.map_none, Sem.run_bind, run_makeMap, Result.andThen_ok, Sem.run_pure]
theorem YieldsK.entry {t Kt E : TypeId} (L : KeyLaw P Kt) (hkr : ∀ r : List UInt8, r.length = 8 → ∃ l, keyOf P Kt (rk r) = some l) (ht : P.underlying t = some (.map Kt E)) (hz : ∀ u : World, (zeroValue E).run P u = .ok (.slice none 0 0) u) {x y : Operand}
    (hm : evalR ρ x = .map (some b)) (hy : evalR ρ y = rk r) (h : IX w0 w b base I G) (hr : r.length = 8) (hk : ∀ v st w1, IXO w0 w1 b base I G r v (G r) st → w.grownBy w1 (some b) → K (.tuple #[v, NI st]) w1) :
    YieldsK P K ((execOp (evalR ρ) ⟨d, .mapEntry t x y, ty, pos, af, gd⟩).run P w) := by
  obtain ⟨v, st, w1, hrun, hg, hs, ho⟩ := h.idx.entry L hkr ht hz hr
  refine YieldsK.value (v := .tuple #[v, NI st]) (w' := w1) ?_ (hk v st w1 ⟨Below.grown h.ext hg h.ext.size (fun k hk => by cases hk; exact h.lo), h.lo, by rw [hs]; exact h.hb, ho⟩ hg)
  unfold execOp
  simp only [hm, hy, Sem.run_bind, hrun, Result.andThen_ok, Sem.run_pure]
  rfl
theorem YieldsK.entryStore {t : TypeId} {x s y : Operand} (hm : evalR ρ x = .map (some b)) (hs : evalR ρ s = NI st) (hy : evalR ρ y = v) (h : IXO w0 w b base I G r v zs st) (hne : zs ≠ []) (hk : ∀ w1, IX w0 w1 b base I (updG G r zs) → K undef w1) :
    YieldsK P K ((execOp (evalR ρ) ⟨d, .entryStore t x s y, ty, pos, af, gd⟩).run P w) := by
  obtain ⟨w1, hrun, hg, hsz, ho⟩ := h.opn.store (P := P) (t := t) hne
  have hrun' : (Instr.entryStore t (.map (some b)) (NI st) v).run P w = .ok () w1 := hrun
  have hK := hk w1 ⟨Below.grown h.ext hg h.ext.size (fun k hk => by cases hk; exact h.lo), h.lo, by rw [hsz]; exact h.hb, ho⟩
  unfold execOp
  simp only [hm, hs, hy, Sem.run_bind, hrun', Result.andThen_ok, Sem.run_pure]
  exact hK
theorem IXO.own (h : IXO w0 w b base I G r v zs st) : w.ownsRow base I 1 v zs.length (zs.map NI) := h.opn.2.2.1
theorem IXO.grew {v' : Value} {zs' : List Nat} (h : IXO w0 w b base I G r v zs st) (gr : Grew w w' v v') (ho : w'.ownsRow base I 1 v' zs'.length (zs'.map NI)) : IXO w0 w' b base I G r v' zs' st :=
  ⟨Below.grown h.ext gr.by_ h.ext.size (fun k hk => Nat.le_trans h.lo (Nat.le_trans (Nat.le_of_lt h.opn.1) (h.own.lt k hk).1)), h.lo, Nat.le_trans h.hb gr.by_.size, h.opn.grew gr ho⟩
/-- A row of bytes by its address. -/
theorem YieldsK.toArr {t e : TypeId} {n : Nat} (ht : P.underlying t = some (.array n e)) {x : Operand} {l : List UInt8} (h : RB w (evalR ρ x) l) (hl : l.length = n) (hn : 0 < n) (hk : ∀ g o, w.rangeAt g o (Lib.byteCells l) → K (.pointer (some ⟨g, o, none⟩)) w) :
    YieldsK P K ((execOp (evalR ρ) ⟨d, .sliceToArrayPointer t x, ty, pos, af, gd⟩).run P w) := by
  obtain ⟨g, o, cap, hv, h1, h2, h3, h4⟩ := h.open_ (by omega)
  refine YieldsK.value (v := .pointer (some ⟨g, o, none⟩)) (w' := w) ?_ (hk g o fun j v hj => ?_)
  · unfold execOp
    simp only [hv, Instr.arrayAt, Sem.run_bind, run_underlying ht, Result.andThen_ok]
    rw [if_neg (by omega)]
    rfl
  · have hj' : j < l.length := by simpa [Lib.byteCells] using (List.getElem?_eq_some_iff.1 hj).1
    rw [h4 j hj', ← hj]
    simp [Lib.byteCells, hj', List.getD]
/-- m[r] read. -/
theorem YieldsK.look {t Kt E : TypeId} (L : KeyLaw P Kt) (hkr : ∀ r : List UInt8, r.length = 8 → ∃ l, keyOf P Kt (rk r) = some l) (ht : P.underlying t = some (.map Kt E)) (hz : ∀ u : World, (zeroValue E).run P u = .ok (.slice none 0 0) u) {x y : Operand}
    (hm : evalR ρ x = .map (some b)) (hy : evalR ρ y = rk r) (h : IdxAt w b base I G) (hr : r.length = 8) (hk : ∀ v, w.ownsRow base I 1 v (G r).length ((G r).map NI) → K v w) :
    YieldsK P K ((execOp (evalR ρ) ⟨d, .lookup t x y false, ty, pos, af, gd⟩).run P w) := by
  obtain ⟨v, hrun, ho⟩ := h.look L hkr ht hz hr
  refine YieldsK.value (v := v) (w' := w) ?_ (hk v ho)
  unfold execOp
  simp only [hm, hy, Sem.run_bind, hrun, Result.andThen_ok, Sem.run_pure]
end
/-- The places ahead of k at which a row stands in l. -/
def posOf (l : List UInt8) (k : Nat) (r : List UInt8) : List Nat := (List.range k).filter fun j => (l.drop j).take 8 == r
theorem posOf_upd (l : List UInt8) (k : Nat) : updG (posOf l k) ((l.drop k).take 8) (posOf l k ((l.drop k).take 8) ++ [k]) = posOf l (k + 1) := by
  funext s
  unfold updG posOf
  rw [List.range_succ, List.filter_append]
  by_cases h : s = (l.drop k).take 8
  · subst h
    rw [if_pos rfl]
    simp
  · rw [if_neg h]
    have : ((l.drop k).take 8 == s) = false := by simpa using fun e => h e.symm
    simp [this]
theorem posOf_zero (l : List UInt8) : posOf l 0 = fun _ => [] := by
  funext s
  rfl
theorem posOf_length (l : List UInt8) (k : Nat) (r : List UInt8) : (posOf l k r).length ≤ k := by
  have := List.length_filter_le (fun j => (l.drop j).take 8 == r) (List.range k)
  rw [List.length_range] at this
  exact this
theorem rowLaw : KeyLaw Try.prog 45 := deep_law_laid (by kernel_rfl) (m := 3) (by decide) (of_decide_eq_true (by kernel_rfl)) (by kernel_rfl) (by kernel_rfl)
theorem rowKey : ∀ r : List UInt8, r.length = 8 → ∃ l, keyOf Try.prog 45 (rk r) = some l := fun _ h =>
  keyOf_row (n := 8) (e := 5) Try.underlying45 Try.underlying5 (by kernel_rfl) (by kernel_rfl) (by kernel_rfl) (of_decide_eq_true (by kernel_rfl)) h
theorem zeroInts : ∀ u : World, (zeroValue 43).run Try.prog u = .ok (.slice none 0 0) u := fun _ => by kernel_rfl
theorem infoI : (Try.prog.info? 3).map (fun i => (i.zero, i.size, i.bytes)) = some (some (.int .i64 0), 1, 8) := by kernel_rfl
end Go.Proofs.Ytfjmbcjcgdfkfaa
