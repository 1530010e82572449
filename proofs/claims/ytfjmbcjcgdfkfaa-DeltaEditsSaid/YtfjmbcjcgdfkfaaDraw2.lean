/- A region that draws its order, some of whose operations (cs) turn memory of the region's own. It holds of any program. -/
import Derived.Test.YtfjmbcjcgdfkfaaDraw
import Derived.Test.YtfjmbcjcgdfkfaaParts
namespace Go.Proofs.Ytfjmbcjcgdfkfaa
open Go.RowKit
section
variable {P : Program} {n : Nat} {ρ : Slots} {w : World} {Q : PostF}
/-- Facts by number: whoever is no changer keeps each; a changer m keeps all but those of ks m. -/
theorem wpF_draw_rows {l : List Oper} (cs : List Nat) (ks : Nat → List Nat) (Φs : List Fact) {id : Nat} (hm : P.follows .mixedOrders = true) (ds : List Tmp) (hg : goodB l n = true) (hkl : killB l ks = true) (hds : slotsW l = ds)
    (hgc : ∀ m o, l[m]? = some o → o.guard.isSome = true → m ∉ cs) (hst : AllStab Ext Φs) (hsB : ∀ m i, m ∈ cs → i ∉ ks m → i ≠ m → ((masks l []).getD i 0).testBit m = false → Stab (Below w.heap.size) (facts Φs i))
    (hs : StepsF P l (fun _ => Ext w) (fun m => if m ∈ cs then Below w.heap.size else Ext) (facts Φs) ρ 0 l)
    (hQ : ∀ (ρ' : Slots) w', Ext w w' → EndF ds ρ ρ' → EndFacts l ks (facts Φs) ρ' w' ds → Q .normal ρ' w') : wpF P n (.region id l.toArray true) Q ρ w := by
  have step : ∀ m a b, Ext w a → (if m ∈ cs then Below w.heap.size else Ext) a b → Ext w b := fun m a b h k => by
    split at k
    · exact Below.trans h k
    · exact Ext.trans h k
  intro a ha
  obtain ⟨T, df⟩ := a
  have hz : T.size = n := ha.size
  subst hz
  refine wp_region_core ks (fun _ => Ext w) (fun _ w' => Ext w w') _ (facts Φs) hm T df hg hkl ds hds (fun m i _ _ _ _ w1 w' hc hr => step m _ _ hc hr) (fun m listed w1 w' _ _ _ _ hE hR => step m _ _ hE hR) (fun m i hm' hi hni hne hbit v w1 w' h hr => ?_) (fun m o w1 ho hgo => ?_) (fun _ _ => (Below.refl _ _).drew) (Below.refl _ _).drew (StepsF.ok ha.get l 0 hs) (fun u listed w' hall hE hf => ?_)
  · split at hr
    · rename_i hc
      exact hsB m i hc hni hne hbit v w1 w' h hr
    · exact hst.get Φs i v w1 w' h hr
  · rw [if_neg (hgc m o ho hgo)]
    exact Ext.refl w1
  · have hw := wrote_slots ha.get ds (good_room hg ds hds) u
    refine ⟨fun t => if t ∈ ds then u t else ρ t, ⟨by rw [wrote_size], ha.defers, hw⟩, hQ _ w' hE ⟨fun t ht => if_neg (by simpa using ht)⟩ ?_⟩
    have key : ∀ es : List Tmp, (∀ d ∈ es, d ∈ ds) → EndFacts l ks (facts Φs) u w' es → EndFacts l ks (facts Φs) (fun t => if t ∈ ds then u t else ρ t) w' es := by
      intro es
      induction es with
      | nil => exact fun _ _ => trivial
      | cons d es ih =>
        intro hm h
        refine ⟨?_, ih (fun x hx => hm x (by simp [hx])) h.2⟩
        have := h.1
        simp only [if_pos (hm d (by simp))]
        exact this
    exact key ds (fun _ h => h) hf
/-- A changer (of cs) turns no block below B; the others none that was there. -/
def rowR (B : Nat) (cs : List Nat) (m : Nat) : World → World → Prop := bif cs.contains m then Below B else Ext
def lsOk (l : List Oper) (cs : List Nat) (ks ls : Nat → List Nat) : Bool := cs.all fun m => (ls m).all fun i => (ks m).contains i || Nat.beq i m || ((masks l []).getD i 0).testBit m
/-- The facts that each changer keeps. -/
def AllCh (S : World → World → Prop) (ls : Nat → List Nat) (Φs : List Fact) : List Nat → Prop
  | [] => True
  | m :: r => AllStabX S (ls m) 0 Φs ∧ AllCh S ls Φs r
theorem AllCh.get {S : World → World → Prop} {ls : Nat → List Nat} {Φs : List Fact} : ∀ (cs : List Nat), AllCh S ls Φs cs → ∀ m, cs.contains m = true → AllStabX S (ls m) 0 Φs
  | [], _, m, h => by simp at h
  | c :: r, h, m, hm => by
    by_cases e : m = c
    · subst e; exact h.1
    · exact AllCh.get r h.2 m (by simpa [e] using hm)
/-- Rows of the call's own (all of them at or above B) are appended to, in whatever order; what lies below B stays. -/
theorem wpF_draw_rowsB {l : List Oper} (B : Nat) (hB : B ≤ w.heap.size) (cs : List Nat) (ks ls : Nat → List Nat) (Φs : List Fact) {id : Nat} (hm : P.follows .mixedOrders = true) (ds : List Tmp) (hg : goodB l n = true) (hkl : killB l ks = true) (hds : slotsW l = ds)
    (hls : lsOk l cs ks ls = true) (hgc : (cs.all fun m => ((l[m]?).bind (·.guard)).isNone) = true) (hst : AllStab Ext Φs) (hsB : AllCh (Below B) ls Φs cs)
    (hs : StepsF P l (fun _ => Below B w) (rowR B cs) (facts Φs) ρ 0 l)
    (hQ : ∀ (ρ' : Slots) w', Below B w w' → EndF ds ρ ρ' → EndFacts l ks (facts Φs) ρ' w' ds → Q .normal ρ' w') : wpF P n (.region id l.toArray true) Q ρ w := by
  have step : ∀ m a b, Below B w a → rowR B cs m a b → Below B w b := fun m a b h k => by
    unfold rowR at k
    cases hc : cs.contains m <;> rw [hc] at k
    · exact Below.trans h (Below.mono k (Nat.le_trans hB h.size))
    · exact Below.trans h k
  intro a ha
  obtain ⟨T, df⟩ := a
  have hz : T.size = n := ha.size
  subst hz
  refine wp_region_core ks (fun _ => Below B w) (fun _ w' => Below B w w') _ (facts Φs) hm T df hg hkl ds hds (fun m i _ _ _ _ w1 w' hc hr => step m _ _ hc hr) (fun m listed w1 w' _ _ _ _ hE hR => step m _ _ hE hR) (fun m i hm' hi hni hne hbit v w1 w' h hr => ?_) (fun m o w1 ho hgo => ?_) (fun _ _ => (Below.refl _ _).drew) (Below.refl _ _).drew (StepsF.ok ha.get l 0 hs) (fun u listed w' hall hE hf => ?_)
  · unfold rowR at hr
    cases hc : cs.contains m <;> rw [hc] at hr
    · exact hst.get Φs i v w1 w' h hr
    · refine (AllCh.get cs hsB m hc).get Φs 0 i ?_ v w1 w' h hr
      rw [Nat.zero_add]
      intro hmem
      unfold lsOk at hls
      have h1 := List.all_eq_true.1 (List.all_eq_true.1 hls m (by simpa using hc)) i hmem
      simp only [Bool.or_eq_true] at h1
      rcases h1 with (h1 | h1) | h1
      · exact hni (by simpa using h1)
      · exact hne (Nat.eq_of_beq_eq_true h1)
      · rw [h1] at hbit
        cases hbit
  · unfold rowR
    cases hc : cs.contains m
    · exact Ext.refl w1
    · have := List.all_eq_true.1 hgc m (by simpa using hc)
      rw [ho] at this
      simp only [Option.bind_some, Option.isNone_iff_eq_none] at this
      rw [this] at hgo
      cases hgo
  · have hw := wrote_slots ha.get ds (good_room hg ds hds) u
    refine ⟨fun t => if t ∈ ds then u t else ρ t, ⟨by rw [wrote_size], ha.defers, hw⟩, hQ _ w' hE ⟨fun t ht => if_neg (by simpa using ht)⟩ ?_⟩
    have key : ∀ es : List Tmp, (∀ d ∈ es, d ∈ ds) → EndFacts l ks (facts Φs) u w' es → EndFacts l ks (facts Φs) (fun t => if t ∈ ds then u t else ρ t) w' es := by
      intro es
      induction es with
      | nil => exact fun _ _ => trivial
      | cons d es ih =>
        intro hm h
        refine ⟨?_, ih (fun x hx => hm x (by simp [hx])) h.2⟩
        have := h.1
        simp only [if_pos (hm d (by simp))]
        exact this
    exact key ds (fun _ h => h) hf
theorem ext_below {w0 w w1 : World} {B : Nat} (h : Ext w0 w) (k : Below B w w1) (hle : w0.heap.size ≤ B) : Ext w0 w1 := Below.trans h (Below.mono k hle)
/-- What is read of a slice of what was there was there. -/
theorem RB.back {w w1 : World} {v v0 : Value} {l l0 : List UInt8} (h : RB w1 v l) (k : Ext w w1) (h0 : RB w v0 l0) (hb : v.ownBlock = v0.ownBlock) (hl : l.length ≤ l0.length) : RB w v l := by
  by_cases hz : l.length = 0
  · have : l = [] := List.eq_nil_of_length_eq_zero hz
    subst this
    exact h.nilAny
  · obtain ⟨h1, ao, cap, rfl, h2, h3, h4, h5⟩ := h
    refine ⟨h1, ao, cap, rfl, h2, h3, h4, fun a ha j u hu => ?_⟩
    have hc := h5 a ha j u hu
    subst ha
    have hlt : a.block < w.heap.size := h0.lt (by omega) (b := a.block) (by rw [← hb]; rfl)
    have hbl : (a.add j).block = a.block := by unfold Addr.add; split <;> rfl
    rw [← hc]
    exact (Below.cell k (by rw [hbl]; exact hlt)).symm
end
end Go.Proofs.Ytfjmbcjcgdfkfaa
