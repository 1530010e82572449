/- A Hash, a row of bytes and a row of slices of bytes that grow side by side. -/
import Derived.Test.YtcindgknimallaaDoorSha10
namespace Go.Proofs.YtcindgknimallaaDoor
open Go.RowKit
/-- The Hash g was told hl; va is a row of al; vc is a row of the slices vs, which read as ps; none of them lies in another's memory. -/
structure PA (w0 w : World) (g : Nat) (hl : List UInt8) (va : Value) (al : List UInt8) (vc : Value) (vs : List Value) (ps : List (List UInt8)) : Prop where
  ext : Ext w0 w
  lo : w0.heap.size ≤ g
  hash : HashAt w g hl
  all : w.ownsRow w0.heap.size 5 1 va al.length (Lib.byteCells al)
  cop : w.ownsRow w0.heap.size 22 1 vc vs.length vs
  len : vs.length = ps.length
  els : ∀ i, i < ps.length → RB w (vs.getD i undef) (ps.getD i [])
  eg : ∀ i, i < ps.length → (vs.getD i undef).ownBlock ≠ some g
  ea : ∀ i, i < ps.length → ∀ k, (vs.getD i undef).ownBlock = some k → va.ownBlock ≠ some k
  ec : ∀ i, i < ps.length → ∀ k, (vs.getD i undef).ownBlock = some k → vc.ownBlock ≠ some k
  et : ∀ i, i < ps.length → ∀ k, (vs.getD i undef).ownBlock = some k → k < w.heap.size
  ag : va.ownBlock ≠ some g
  cg : vc.ownBlock ≠ some g
  ac : ∀ k, va.ownBlock = some k → vc.ownBlock ≠ some k
/-- .. and p is one more slice, of nobody else's memory. -/
structure PAp (w0 w : World) (g : Nat) (hl : List UInt8) (va : Value) (al : List UInt8) (vc : Value) (vs : List Value) (ps : List (List UInt8)) (p : Value) (l : List UInt8) : Prop where
  pa : PA w0 w g hl va al vc vs ps
  rb : RB w p l
  eg : p.ownBlock ≠ some g
  ea : ∀ k, p.ownBlock = some k → va.ownBlock ≠ some k
  ec : ∀ k, p.ownBlock = some k → vc.ownBlock ≠ some k
  et : ∀ k, p.ownBlock = some k → k < w.heap.size
section
variable {w0 w w' : World} {g : Nat} {hl : List UInt8} {va : Value} {al : List UInt8} {vc : Value} {vs : List Value} {ps : List (List UInt8)} {p : Value} {l : List UInt8}
theorem PA.keep (h : PA w0 w g hl va al vc vs ps) (k : Ext w w') : PA w0 w' g hl va al vc vs ps :=
  ⟨h.ext.trans k, h.lo, h.hash.keep k, Stab.own _ _ _ _ _ _ _ _ h.all k, Stab.own _ _ _ _ _ _ _ _ h.cop k, h.len, fun i hi => (h.els i hi).keep k, h.eg, h.ea, h.ec,
    fun i hi b hb => Nat.lt_of_lt_of_le (h.et i hi b hb) k.size, h.ag, h.cg, h.ac⟩
theorem PAp.keep (h : PAp w0 w g hl va al vc vs ps p l) (k : Ext w w') : PAp w0 w' g hl va al vc vs ps p l :=
  ⟨h.pa.keep k, h.rb.keep k, h.eg, h.ea, h.ec, fun b hb => Nat.lt_of_lt_of_le (h.et b hb) k.size⟩
theorem PA.start (hE : Ext w0 w) (hg : w0.heap.size ≤ g) (hH : HashAt w g []) : PA w0 w g [] (.slice none 0 0) [] (.slice none 0 0) [] [] :=
  ⟨hE, hg, hH, World.ownsRow_nil _ _ _ 1, World.ownsRow_nil _ _ _ 1, rfl, fun i hi => by simp at hi, fun i hi => by simp at hi, fun i hi => by simp at hi, fun i hi => by simp at hi, fun i hi => by simp at hi,
    by simp [Value.ownBlock], by simp [Value.ownBlock], fun k hk => by simp [Value.ownBlock] at hk⟩
theorem PA.copy {e : TypeId} (h : PA w0 w g hl va al vc vs ps) (hN : NewB e w w' p l) : PAp w0 w' g hl va al vc vs ps p l :=
  ⟨h.keep hN.ext, RB.ofOwn hN.own, own_older hN.own h.hash.lt, fun k hk ha => by have h1 := (h.all.lt k ha).2; have h2 := (hN.own.lt k hk).1; omega,
    fun k hk ha => by have h1 := (h.cop.lt k ha).2; have h2 := (hN.own.lt k hk).1; omega, fun k hk => (hN.own.lt k hk).2⟩
theorem PA.write {hl' : List UInt8} (h : PA w0 w g hl va al vc vs ps) (hH : HashAt w' g hl') (hg : w.grownBy w' (some g)) : PA w0 w' g hl' va al vc vs ps :=
  ⟨row_fresh h.ext hg h.lo, h.lo, hH, own_kept h.all hg h.ag, own_kept h.cop hg h.cg, h.len, fun i hi => (h.els i hi).kept hg (.inr (h.eg i hi)), h.eg, h.ea, h.ec,
    fun i hi b hb => Nat.lt_of_lt_of_le (h.et i hi b hb) hg.size, h.ag, h.cg, h.ac⟩
theorem rb_grew {v v' x : Value} {m : List UInt8} (h : RB w x m) (hx : ∀ k, x.ownBlock = some k → v.ownBlock ≠ some k) (gr : Grew w w' v v') : RB w' x m :=
  h.kept gr.by_ (by cases hb : x.ownBlock with | none => exact .inl rfl | some k => exact .inr (fun e => hx k hb e.symm))
theorem own_grew {v v' x : Value} {b : Nat} {e : TypeId} {z n : Nat} {xs : List Value} (h : w.ownsRow b e z x n xs) (hx : ∀ k, x.ownBlock = some k → v.ownBlock ≠ some k) (gr : Grew w w' v v') : w'.ownsRow b e z x n xs :=
  h.kept gr.by_ (by cases hb : x.ownBlock with | none => exact .inl rfl | some k => exact .inr (fun e => hx k hb e.symm))
theorem apart_new {v v' x : Value} (hx : ∀ k, x.ownBlock = some k → v.ownBlock ≠ some k) (ht : ∀ k, x.ownBlock = some k → k < w.heap.size) (gr : Grew w w' v v') : ∀ k, x.ownBlock = some k → v'.ownBlock ≠ some k := fun k hk hv => by
  rcases gr.fresh k hv with h1 | h1
  · exact hx k hk h1
  · have := ht k hk; omega
theorem PA.addAll {va' : Value} {al' : List UInt8} (h : PA w0 w g hl va al vc vs ps) (gr : Grew w w' va va') (ho : w'.ownsRow w0.heap.size 5 1 va' al'.length (Lib.byteCells al')) : PA w0 w' g hl va' al' vc vs ps := by
  have hca : ∀ k, vc.ownBlock = some k → va.ownBlock ≠ some k := fun k hk ha => h.ac k ha hk
  refine ⟨ext_grew h.ext gr h.all (Nat.le_refl _), h.lo, h.hash.grew gr h.ag, ho, own_grew h.cop hca gr, h.len, fun i hi => rb_grew (h.els i hi) (h.ea i hi) gr, h.eg,
    fun i hi => apart_new (h.ea i hi) (h.et i hi) gr, h.ec, fun i hi b hb => Nat.lt_of_lt_of_le (h.et i hi b hb) gr.by_.size, apart_grew gr h.ag h.hash.lt, h.cg, fun k hk hc => ?_⟩
  exact apart_new hca (fun k hk => (h.cop.lt k hk).2) gr k hc hk
theorem getD_appL {α : Type} {d : α} {xs ys : List α} {i : Nat} (h : i < xs.length) : (xs ++ ys).getD i d = xs.getD i d := by
  simp only [List.getD_eq_getElem?_getD, List.getElem?_append_left h]
theorem getD_appR {α : Type} {d : α} {xs ys : List α} {i : Nat} (h : xs.length ≤ i) : (xs ++ ys).getD i d = ys.getD (i - xs.length) d := by
  simp only [List.getD_eq_getElem?_getD, List.getElem?_append_right h]
theorem getD_snoc {α : Type} {d : α} {xs : List α} {x : α} {i n : Nat} (hn : xs.length = n) (hi : i < n + 1) {Q : α → Prop} (h1 : i < n → Q (xs.getD i d)) (h2 : Q x) : Q ((xs ++ [x]).getD i d) := by
  by_cases h : i < n
  · rw [getD_appL (by omega)]
    exact h1 h
  · rw [getD_appR (by omega), show i - xs.length = 0 by omega]
    exact h2
theorem PAp.add {vc' : Value} (h : PAp w0 w g hl va al vc vs ps p l) (gr : Grew w w' vc vc') (ho : w'.ownsRow w0.heap.size 22 1 vc' (vs ++ [p]).length (vs ++ [p])) : PA w0 w' g hl va al vc' (vs ++ [p]) (ps ++ [l]) := by
  have H := h.pa
  have hlt : ∀ i, i < (ps ++ [l]).length → i < ps.length + 1 := fun i hi => by simpa using hi
  refine ⟨ext_grew H.ext gr H.cop (Nat.le_refl _), H.lo, H.hash.grew gr H.cg, own_grew H.all H.ac gr, ho, by simp [H.len], fun i hi => ?_, fun i hi => ?_, fun i hi => ?_, fun i hi => ?_, fun i hi => ?_, H.ag, apart_grew gr H.cg H.hash.lt,
    apart_new H.ac (fun k hk => (H.all.lt k hk).2) gr⟩
  · by_cases hk : i < ps.length
    · rw [getD_appL (by rw [H.len]; exact hk), getD_appL hk]
      exact rb_grew (H.els i hk) (H.ec i hk) gr
    · have hi' : i = ps.length := by have := hlt i hi; omega
      subst hi'
      rw [getD_appR (by have := H.len; omega), getD_appR (by omega), H.len, Nat.sub_self]
      exact rb_grew h.rb h.ec gr
  · exact getD_snoc (Q := fun x => x.ownBlock ≠ some g) H.len (hlt i hi) (H.eg i) h.eg
  · exact getD_snoc (Q := fun x => ∀ k, x.ownBlock = some k → va.ownBlock ≠ some k) H.len (hlt i hi) (H.ea i) h.ea
  · exact getD_snoc (Q := fun x => ∀ k, x.ownBlock = some k → vc'.ownBlock ≠ some k) H.len (hlt i hi) (fun hk => apart_new (H.ec i hk) (H.et i hk) gr) (apart_new h.ec h.et gr)
  · exact getD_snoc (Q := fun x => ∀ k, x.ownBlock = some k → k < w'.heap.size) H.len (hlt i hi) (fun hk k hb => Nat.lt_of_lt_of_le (H.et i hk k hb) gr.by_.size) (fun k hb => Nat.lt_of_lt_of_le (h.et k hb) gr.by_.size)
theorem PA.last (h : PA w0 w g hl va al vc (vs ++ [p]) (ps ++ [l])) : RB w p l ∧ p.ownBlock ≠ some g := by
  have hlen := h.len
  simp only [List.length_append, List.length_singleton, Nat.add_right_cancel_iff] at hlen
  have h1 := h.els ps.length (by simp)
  have h2 := h.eg ps.length (by simp)
  rw [getD_appR (by omega), getD_appR (by omega), hlen, Nat.sub_self] at h1
  rw [getD_appR (by omega), hlen, Nat.sub_self] at h2
  exact ⟨h1, h2⟩
theorem PA.rbs (h : PA w0 w g hl va al vc vs ps) : RBs w vc ps := by
  refine ⟨vs, h.len, ?_, h.els⟩
  rcases h.cop.2 with ⟨e1, e2⟩ | ⟨b, cap, cur, e1, hbg, hg, hnc, hcm, hcs, htake⟩
  · have : ps.length = 0 := by rw [← h.len]; exact e2
    refine ⟨by rw [h.len, Nat.mul_one], none, 0, by rw [e1, this], by omega, by simp [maxLen], fun _ => ⟨this, rfl⟩, fun a ha => by cases ha⟩
  · exact ⟨by rw [h.len, Nat.mul_one], some ⟨b, 0, none⟩, cap, by rw [e1, h.len], by rw [← h.len]; exact hnc, hcm, (fun h => by cases h), (fun a ha j u hu => by cases ha; exact h.cop.cells (by rw [e1]; rfl) j u hu)⟩
end
section
variable {P : Program} {K : Value → World → Prop} {ρ : Slots} {w : World} {d : Option Tmp} {ty : TypeId} {pos : String} {af : Array Edge} {gd : Option (Nat × Bool)}
/-- One slice as a row. -/
theorem YieldsK.row1 {t e : TypeId} (hr : ∀ (ao : Option Addr) (n c : Nat) (w : World), (Instr.buildSlice t 1 #[(0, .slice ao n c)]).run P w = .ok (.slice (some ⟨w.heap.size, 0, none⟩) 1 1) (w.alloc (.cells #[.slice ao n c] e))) {x : Operand} {p : Value} {l : List UInt8} (hx : evalR ρ x = p) (hp : RB w p l)
    (hk : ∀ b w', w'.heap[b]? = some (.cells #[p] e (0, 0)) → Ext w w' → K (.slice (some ⟨b, 0, none⟩) 1 1) w') : YieldsK P K ((execOp (evalR ρ) ⟨d, .buildSlice t 1 #[(0, x)], ty, pos, af, gd⟩).run P w) := by
  obtain ⟨ao, n, c, rfl⟩ := hp.slice
  have hr' : (execOp (evalR ρ) ⟨d, .buildSlice t 1 #[(0, x)], ty, pos, af, gd⟩).run P w = .ok (.value (.slice (some ⟨w.heap.size, 0, none⟩) 1 1)) (w.alloc (.cells #[.slice ao n c] e)) := by
    unfold execOp
    simp only [List.map_toArray, List.map_cons, List.map_nil, hx, Sem.run_bind, hr, Result.andThen_ok, Sem.run_pure]
  rw [hr']
  exact hk _ _ (heap_alloc_new w _) ((Below.refl _ _).alloc (Nat.le_refl _) _)
theorem src_row1 {tx e' e : TypeId} (hk : P.underlying tx = some (.slice e')) {b : Nat} {p : Value} {l : List UInt8} (hb : w.heap[b]? = some (.cells #[p] e (0, 0))) (hp : RB w p l) : Src P 1 tx (.slice (some ⟨b, 0, none⟩) 1 1) 1 [p] w :=
  Src.ofSlice w hk ⟨b, 0, none⟩ 1 1 [p] rfl (fun j u hu => by
    rw [Addr.add_lit, Nat.zero_add]
    exact cell_at (l := [p]) hb hu) (fun u hu => by
    rw [List.mem_singleton.1 hu]
    exact (by obtain ⟨ao, n, c, rfl⟩ := hp.slice; rfl))
end
theorem src_of {P : Program} {z n : Nat} {tx : TypeId} {x v : Value} {xs : List Value} {w : World} (e : x = v) (h : Src P z tx v n xs w) : Src P z tx x n xs w := by rw [e]; exact h
theorem take_snoc (ps : List (List UInt8)) (i : Nat) (hi : i < ps.length) : ps.take i ++ [ps.getD i []] = ps.take (i + 1) := by
  rw [List.take_succ_eq_append_getElem hi]
  simp [hi]
end Go.Proofs.YtcindgknimallaaDoor
