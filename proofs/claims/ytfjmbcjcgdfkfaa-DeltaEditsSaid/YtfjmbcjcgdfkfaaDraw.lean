/- Regions that draw their order, in which more than one operation turns memory. They hold of any program. -/
import Derived.Test.YtfjmbcjcgdfkfaaWalk
namespace Go.Proofs.Ytfjmbcjcgdfkfaa
open Go.RowKit
section
variable {P : Program} {n : Nat} {ρ : Slots} {w : World} {Q : PostF}
end
/-! ### The last operation in the frame as it then is -/
section
variable {P : Program} {l : List Oper} {kill : Nat → List Nat} {C : Nat → World → Prop} {R : Nat → World → World → Prop} {Φ : Nat → Fact} {a0 : Act}
theorem YieldsK.mono' {K K' : Value → World → Prop} {r : Result Next} (h : YieldsK P K r) (hm : ∀ v w, K v w → K' v w) : YieldsK P K' r := by
  cases r with
  | halt x w' => exact h.elim
  | ok n w' =>
    cases n <;> simp only [YieldsK] at h ⊢
    case value v => exact hm _ _ h
    case skip => exact hm _ _ h
    case enter f args => exact h.mono fun e w'' ⟨v, h1, h2⟩ => ⟨v, h1, hm _ _ h2⟩
/-- The steps of all operations but number L. -/
def StepsFL (P : Program) (l : List Oper) (L : Nat) (C : Nat → World → Prop) (R : Nat → World → World → Prop) (Φ : Nat → Fact) (ρ : Slots) : Nat → List Oper → Prop
  | _, [] => True
  | n, o :: r => (bif Nat.beq n L then True else StepF P l C R Φ ρ n o) ∧ StepsFL P l L C R Φ ρ (n + 1) r
theorem stepFL {L n : Nat} {ρ : Slots} {o : Oper} (h : StepF P l C R Φ ρ n o) : bif Nat.beq n L then True else StepF P l C R Φ ρ n o := by
  cases Nat.beq n L
  · exact h
  · trivial
theorem StepsFL.get {L : Nat} {ρ : Slots} : ∀ (r : List Oper) (n : Nat), StepsFL P l L C R Φ ρ n r → ∀ k o, r[k]? = some o → n + k ≠ L → StepF P l C R Φ ρ (n + k) o
  | [], _, _, k, o, h, _ => by simp at h
  | o' :: r, n, hs, 0, o, h, hne => by
    simp only [List.getElem?_cons_zero, Option.some.injEq] at h
    subst h
    have h1 := hs.1
    rw [show Nat.beq n L = false by rw [← Bool.not_eq_true, Nat.beq_eq]; exact hne] at h1
    exact h1
  | o' :: r, n, hs, k + 1, o, h, hne => by
    rw [List.getElem?_cons_succ] at h
    have := StepsFL.get r (n + 1) hs.2 k o h (by omega)
    rwa [show n + 1 + k = n + (k + 1) by omega] at this
theorem anyInvL (g : Good l a0.tmps.size) (hkl : killB l kill = true) {L : Nat} {oL : Oper} (hn : lastB l L = true) (hoL : l[L]? = some oL) (hgL : oL.guard = none) (hdL : oL.dst = none)
    (hC : ∀ n m, n < l.length → m < l.length → n ≠ m → ((masks l []).getD n 0).testBit m = false → ∀ w w', C m w → R n w w' → C m w') (hΦ : ∀ n i, n < l.length → i < l.length → i ∉ kill n → i ≠ n → ((masks l []).getD i 0).testBit n = false → ∀ v w w', Φ i v w → R n w w' → Φ i v w') (hRr : ∀ n o w, l[n]? = some o → o.guard.isSome = true → R n w w) (hs : ∀ i o, l[i]? = some o → i ≠ L → StepOk P l C R Φ a0.tmps i o) {Q : Exit → Act → World → Prop}
    (hQ : ∀ listed a' w', (∀ i, i < l.length → i ≠ L → On listed i) → ¬ On listed L → Inv l kill C (fun _ _ => True) Φ a0 listed a' w' → YieldsK P (fun _ w'' => Q .normal a' w'') ((execOp a'.eval oL).run P w')) :
    ∀ (fuel : Nat) (listed : Array Bool) (a : Act) (w : World), (listed.toList.filter (!·)).length = fuel → ¬ On listed L → Inv l kill C (fun _ _ => True) Φ a0 listed a w → wpAny P .any l.toArray Q fuel listed a w := by
  obtain ⟨hlen, hb⟩ := lastB_iff hn
  have rdy : ∀ (listed : Array Bool), listed.size = l.length → (∀ i, i < l.length → On listed i) → Region.ready .any l.toArray listed = [] := by
    intro listed hsz hon
    cases hr : Region.ready .any l.toArray listed with
    | nil => rfl
    | cons x xs =>
      exfalso
      have hm : x ∈ Region.ready .any l.toArray listed := by rw [hr]; simp
      obtain ⟨h1, o, ho, _⟩ := mem_ready.1 hm
      have hx : x < l.length := by simpa using (Array.getElem?_eq_some_iff.1 ho).1
      have h2 := hon x hx
      have hx' : x < listed.size := h2.lt
      unfold On at h2
      simp [hx'] at h1 h2
      rw [h1] at h2
      cases h2
  intro fuel
  induction fuel with
  | zero =>
    intro listed a w hf hoff h
    exfalso
    have := count_zero _ hf L (by rw [Array.length_toList, h.size]; omega)
    exact hoff (by unfold On; simp at this; simp [this])
  | succ fuel ih =>
    intro listed a w hf hoff h
    have hstep : ∀ i ∈ Region.ready .any l.toArray listed, ∃ o, l[i]? = some o ∧ ¬ On listed i ∧ (∀ e ∈ o.after, Region.binds .any e = true → On listed e.on) ∧ ((listed.setIfInBounds i true).toList.filter (!·)).length = fuel := by
      intro i hi
      obtain ⟨h1, o, ho, hall⟩ := mem_ready.1 hi
      have ho' : l[i]? = some o := by simpa using ho
      have hil : i < listed.size := by rw [h.size]; exact (List.getElem?_eq_some_iff.1 ho').1
      refine ⟨o, ho', ?_, fun e he hb => hall e he hb, ?_⟩
      · unfold On
        simp [hil] at h1 ⊢
        exact h1
      · rw [Array.toList_setIfInBounds]
        have := count_set listed.toList i (by
          simp [hil] at h1
          simp [hil, h1])
        omega
    refine ⟨fun hr => ?_, fun i hi => ?_⟩
    · exfalso
      have full : ∀ i, i < l.length → On listed i := by
        intro i
        induction i using Nat.strongRecOn with
        | _ i ih =>
          intro hi
          refine Classical.byContradiction fun hno => ?_
          have ho : l[i]? = some l[i] := List.getElem?_eq_getElem hi
          have : i ∈ Region.ready .any l.toArray listed := by
            refine mem_ready.2 ⟨?_, l[i], by rw [List.getElem?_toArray]; exact ho, fun e he hb => ?_⟩
            · have hi' : i < listed.size := by rw [h.size]; exact hi
              unfold On at hno
              simp [hi'] at hno ⊢
              exact hno
            · have hlt := g.back i _ ho e he hb
              exact ih e.on hlt (by omega)
          rw [hr] at this
          cases this
      exact hoff (full L (by omega))
    · obtain ⟨o, ho, hno, hall, hcnt⟩ := hstep i hi
      by_cases hiL : i = L
      · subst hiL
        obtain rfl : oL = o := by rw [hoL] at ho; exact Option.some.inj ho
        have hon : ∀ j, j < l.length → j ≠ i → On listed j := fun j hj hne => h.maskReady ho hall (hb j (by omega))
        have hst := hQ listed a w hon hno h
        have hall' : ∀ j, j < l.length → On (listed.setIfInBounds i true) j := fun j hj => by
          by_cases hji : j = i
          · exact (on_set (by rw [h.size]; omega)).2 (.inl hji)
          · exact (on_set (by rw [h.size]; omega)).2 (.inr (hon j hj hji))
        have hr := rdy (listed.setIfInBounds i true) (by simpa using h.size) hall'
        have fin : ∀ v w', Q .normal a w' → wpAny P .any l.toArray Q fuel (listed.setIfInBounds i true) (a.put oL.dst v) w' := fun v w' hq => by
          have e1 : a.put oL.dst v = a := by rw [hdL]; rfl
          rw [e1]
          cases fuel with
          | zero => exact ⟨hr, hq⟩
          | succ m => exact ⟨fun _ => hq, fun j hj => by rw [hr] at hj; cases hj⟩
        unfold wpOp
        simp only [List.getElem?_toArray, ho]
        have hw : Region.wanted oL (yielded l.toArray a.tmps) = true := by unfold Region.wanted; rw [hgL]
        rw [if_pos hw]
        refine .inl ?_
        unfold Oper.wp
        generalize (execOp a.eval oL).run P w = r at hst ⊢
        cases r with
        | halt x w' => exact hst.elim
        | ok n w' =>
          cases n <;> simp only [YieldsK] at hst <;> simp only [Oper.upon]
          case value v => exact fin _ _ hst
          case skip => exact fin _ _ hst
          case enter f args =>
            refine hst.mono fun e w'' hx => ?_
            obtain ⟨v, rfl, h1⟩ := hx
            exact fin _ _ h1
      · refine h.step g hkl hC (fun _ _ _ _ _ _ _ _ _ _ => trivial) hΦ hRr ho hno hall (hs i o ho hiL) fun a' w' h' => ih _ _ _ hcnt (fun hx => ?_) h'
        exact ((on_set (by rw [h.size]; exact (List.getElem?_eq_some_iff.1 ho).1)).1 hx).elim (fun e => hiL e.symm) hoff
end
section
variable {P : Program} {n : Nat} {ρ : Slots} {w : World} {Q : PostF}
/-- The last operation (L) is met in the frame as the others left it, and what it leaves goes on. -/
theorem wpF_draw_last {l : List Oper} (L : Nat) (oL : Oper) (ks : Nat → List Nat) (C : Nat → World → Prop) (R : Nat → World → World → Prop) (Φs : List Fact) {id : Nat} (hm : P.follows .mixedOrders = true) (ds : List Tmp) (hg : goodB l n = true) (hn : lastB l L = true) (hkl : killB l ks = true) (hds : slotsW l = ds) (hoL : l[L]? = some oL) (hgL : oL.guard = none) (hdL : oL.dst = none)
    (hC : ∀ n m, n < l.length → m < l.length → n ≠ m → ((masks l []).getD n 0).testBit m = false → ∀ w w', C m w → R n w w' → C m w')
    (hΦ : ∀ n i, n < l.length → i < l.length → i ∉ ks n → i ≠ n → ((masks l []).getD i 0).testBit n = false → ∀ v w w', facts Φs i v w → R n w w' → facts Φs i v w')
    (hRr : ∀ n o w, l[n]? = some o → o.guard.isSome = true → R n w w) (h0 : ∀ n, n < l.length → C n { w with drawn := w.drawn + 1 })
    (hs : StepsFL P l L C R (facts Φs) ρ 0 l)
    (hQ : ∀ (ρ' : Slots) w1, C L w1 → EndF ds ρ ρ' → EndFacts l ks (facts Φs) ρ' w1 ds → YieldsK P (fun _ w' => Q .normal ρ' w') ((execOp (evalR ρ') oL).run P w1)) : wpF P n (.region id l.toArray true) Q ρ w := by
  intro a ha
  obtain ⟨T, df⟩ := a
  have hz : T.size = n := ha.size
  subst hz
  obtain ⟨hl, hb⟩ := lastB_iff hn
  have g := good_of hg
  refine wp_region_any hm (anyInvL (a0 := { tmps := T, defers := df }) (C := C) (R := R) (Φ := facts Φs) g hkl hn hoL hgL hdL hC hΦ hRr (fun i o ho hi => ?_) (fun listed a' w' hon hoff h => ?_) _ _ _ _ (by simp) ?_ ?_)
  · have hst := StepsFL.get l 0 hs i o ho (by omega)
    rw [Nat.zero_add] at hst
    have h2 := StepsF.ok (P := P) (l := l) (C := C) (R := R) (Φ := facts Φs) (T := T) ha.get [o] i ⟨hst, trivial⟩
    exact h2.1
  · -- what the slots hold
    have hw : ∀ d k, writer l d l.length = some k → (List.range l.length).all (fun n => !(ks n).contains k) = true → facts Φs k (a'.tmps.getD d undef) w' := fun d k hk hall => by
      obtain ⟨h1, ⟨o, ho, hd⟩, h3⟩ := writer_some _ hk
      have hkL : k ≠ L := fun e => by subst e; rw [hoL] at ho; cases ho; rw [hdL] at hd; cases hd
      refine h.new d k o ho hd (hon k h1 hkL) (fun k' o' hkk ho' hd' _ => h3 k' o' hkk (List.getElem?_eq_some_iff.1 ho').1 ho' hd') (fun n hn hkn => ?_)
      have hnl : n < l.length := by have := hn.lt; rw [h.size] at this; exact this
      have := List.all_eq_true.1 hall n (by simpa using hnl)
      simp at this
      exact this hkn
    have hget : ∀ t, a'.tmps.getD t undef = if t ∈ ds then a'.tmps.getD t undef else ρ t := fun t => by
      by_cases hn : t ∈ ds
      · rw [if_pos hn]
      · rw [if_neg hn, ← ha.get]
        exact h.old t fun k o ho hd _ => hn (by
          rw [← hds]
          unfold slotsW
          rw [List.mem_eraseDups, List.mem_filterMap]
          exact ⟨o, List.mem_of_getElem? ho, hd⟩)
    have hcl := h.cls L (by omega) hoff
    have hend : EndF ds ρ (fun t => a'.tmps.getD t undef) := ⟨fun t ht => by rw [hget t, if_neg (by simpa using ht)]⟩
    have := hQ (fun t => a'.tmps.getD t undef) w' hcl hend (endFacts_of hw ds)
    rw [evalR_eq] at this
    refine YieldsK.mono' this fun v w'' hq => ?_
    exact ⟨_, ⟨h.tmps, h.defers.trans ha.defers, fun t => rfl⟩, hq⟩
  · intro h
    unfold On at h
    rw [Array.getD_eq_getD_getElem?, Array.getElem?_replicate] at h
    split at h <;> simp at h
  · have hno : ∀ i, ¬ On (Array.replicate l.toArray.size false) i := fun i h => by
      unfold On at h
      rw [Array.getD_eq_getD_getElem?, Array.getElem?_replicate] at h
      split at h <;> simp at h
    exact ⟨Array.size_replicate, fun i o _ h => absurd h (hno i), rfl, rfl, fun n hn _ => h0 n hn, trivial, fun t _ => rfl, fun t k o _ _ h => absurd h (hno k)⟩
/-- The last two operations (k, k + 1) turn memory behind all the others, in that order: what the first did is told by its own fact, the second is met in the frame. -/
theorem wpF_draw_seq2 {l : List Oper} (k : Nat) (oL : Oper) (ks : List Nat) (Φs : List Fact) {id : Nat} (hm : P.follows .mixedOrders = true) (ds : List Tmp) (hg : goodB l n = true) (hn : lastB l (k + 1) = true) (hk : midB l k = true) (hkl : killB l (fun m => if m = k then ks else []) = true) (hds : slotsW l = ds)
    (hoL : l[k + 1]? = some oL) (hgL : oL.guard = none) (hdL : oL.dst = none) (hgk : (l[k]?.bind (·.guard)) = none) (hst : AllStab Ext (Φs.take k)) (hsT : AllStabX (fun _ _ => True) ks 0 (Φs.take k))
    (hs : StepsFL P l (k + 1) (fun m => if m ≤ k then Ext w else fun _ => True) (fun m => if m = k then fun _ _ => True else if m = k + 1 then Eq else Ext) (facts Φs) ρ 0 l)
    (hQ : ∀ (ρ' : Slots) w1, EndF ds ρ ρ' → EndFacts l (fun m => if m = k then ks else []) (facts Φs) ρ' w1 ds → YieldsK P (fun _ w' => Q .normal ρ' w') ((execOp (evalR ρ') oL).run P w1)) : wpF P n (.region id l.toArray true) Q ρ w := by
  obtain ⟨hl, hb⟩ := lastB_iff hn
  have hm1 := midB_iff hk
  have take : ∀ i, i < k → facts Φs i = (Φs.take k).getD i (fun _ _ => True) := fun i hi => by simp [facts, List.getD_eq_getElem?_getD, hi]
  refine wpF_draw_last (k + 1) oL _ _ _ Φs hm ds hg hn hkl hds hoL hgL hdL (fun m i hm' hi hne hbit w1 w' hc hr => ?_) (fun m i hm' hi hni hne hbit v w1 w' => ?_) (fun m o w1 ho hgo => ?_) (fun m hm' => ?_) hs (fun ρ' w1 _ => hQ ρ' w1)
  · by_cases hik : i ≤ k
    · rw [if_pos hik] at hc ⊢
      by_cases h1 : m = k
      · subst h1
        rw [hm1.1 i (by omega)] at hbit
        cases hbit
      · by_cases h2 : m = k + 1
        · subst h2
          rw [hb i (by omega)] at hbit
          cases hbit
        · rw [if_neg h1, if_neg h2] at hr
          exact hc.trans hr
    · rw [if_neg hik]
      trivial
  · by_cases h2 : m = k + 1
    · rw [if_neg (by omega), if_pos h2]
      exact fun h e => e ▸ h
    · by_cases hik : i < k
      · rw [take i hik]
        by_cases h1 : m = k
        · rw [if_pos h1] at hni ⊢
          exact fun h _ => hsT.get _ 0 i (by rwa [Nat.zero_add]) v w1 w' h trivial
        · rw [if_neg h1, if_neg h2]
          exact hst.get _ i v w1 w'
      · exfalso
        by_cases hi2 : i = k
        · subst hi2
          rw [hm1.1 m (by omega)] at hbit
          cases hbit
        · have : i = k + 1 := by omega
          subst this
          rw [hb m (by omega)] at hbit
          cases hbit
  · by_cases h1 : m = k
    · subst h1; rw [ho] at hgk; simp only [Option.bind_some] at hgk; rw [hgk] at hgo; cases hgo
    · by_cases h2 : m = k + 1
      · rw [if_neg h1, if_pos h2]
      · rw [if_neg h1, if_neg h2]; exact Ext.refl w1
  · split
    · exact (Below.refl _ _).drew
    · trivial
/-- One operation (j) turns new memory of the region's own (Rj; the facts ks do not outlive it); the last one (L) is met in the frame; all the others turn none that was there. -/
theorem wpF_draw_own1 {l : List Oper} (j L : Nat) (oL : Oper) (ks : List Nat) (Rj : World → World → Prop) (Φs : List Fact) {id : Nat} (hm : P.follows .mixedOrders = true) (ds : List Tmp) (hg : goodB l n = true) (hn : lastB l L = true) (hkl : killB l (fun m => if m = j then ks else []) = true) (hds : slotsW l = ds)
    (hoL : l[L]? = some oL) (hgL : oL.guard = none) (hdL : oL.dst = none) (hjL : j < L) (hgk : (l[j]?.bind (·.guard)) = none) (hst : AllStab Ext Φs) (hsR : AllStabX Rj (j :: ks) 0 Φs) (hR : ∀ a b, Ext w a → Rj a b → Ext w b)
    (hs : StepsFL P l L (fun _ => Ext w) (fun m => if m = j then Rj else if m = L then Eq else Ext) (facts Φs) ρ 0 l)
    (hQ : ∀ (ρ' : Slots) w1, Ext w w1 → EndF ds ρ ρ' → EndFacts l (fun m => if m = j then ks else []) (facts Φs) ρ' w1 ds → YieldsK P (fun _ w' => Q .normal ρ' w') ((execOp (evalR ρ') oL).run P w1)) : wpF P n (.region id l.toArray true) Q ρ w := by
  refine wpF_draw_last L oL _ (fun _ => Ext w) _ Φs hm ds hg hn hkl hds hoL hgL hdL (fun m i hm' hi hne hbit w1 w' hc hr => ?_) (fun m i hm' hi hni hne hbit v w1 w' => ?_) (fun m o w1 ho hgo => ?_) (fun m hm' => (Below.refl _ _).drew) hs hQ
  · by_cases h1 : m = j
    · rw [if_pos h1] at hr
      exact hR _ _ hc hr
    · by_cases h2 : m = L
      · rw [if_neg h1, if_pos h2] at hr
        exact hr ▸ hc
      · rw [if_neg h1, if_neg h2] at hr
        exact hc.trans hr
  · by_cases h1 : m = j
    · rw [if_pos h1] at hni ⊢
      exact hsR.get _ 0 i (by rw [Nat.zero_add]; simp only [List.mem_cons, not_or]; exact ⟨fun e => hne (e.trans h1.symm), hni⟩) v w1 w'
    · by_cases h2 : m = L
      · rw [if_neg h1, if_pos h2]
        exact fun h e => e ▸ h
      · rw [if_neg h1, if_neg h2]
        exact hst.get _ i v w1 w'
  · by_cases h1 : m = j
    · subst h1; rw [ho] at hgk; simp only [Option.bind_some] at hgk; rw [hgk] at hgo; cases hgo
    · by_cases h2 : m = L
      · rw [if_neg h1, if_pos h2]
      · rw [if_neg h1, if_neg h2]; exact Ext.refl w1
/-- All operations but the last one (L) turn none that was there; the last one is met in the frame. -/
theorem wpF_draw_end {l : List Oper} (L : Nat) (oL : Oper) (Φs : List Fact) {id : Nat} (hm : P.follows .mixedOrders = true) (ds : List Tmp) (hg : goodB l n = true) (hn : lastB l L = true) (hds : slotsW l = ds)
    (hoL : l[L]? = some oL) (hgL : oL.guard = none) (hdL : oL.dst = none) (hst : AllStab Ext Φs)
    (hs : StepsFL P l L (fun _ => Ext w) (fun _ => Ext) (facts Φs) ρ 0 l)
    (hQ : ∀ (ρ' : Slots) w1, Ext w w1 → EndF ds ρ ρ' → EndFacts l (fun _ => []) (facts Φs) ρ' w1 ds → YieldsK P (fun _ w' => Q .normal ρ' w') ((execOp (evalR ρ') oL).run P w1)) : wpF P n (.region id l.toArray true) Q ρ w :=
  wpF_draw_last L oL (fun _ => []) (fun _ => Ext w) (fun _ => Ext) Φs hm ds hg hn (by unfold killB; simp) hds hoL hgL hdL (fun _ _ _ _ _ _ _ _ hc hr => hc.trans hr) (fun _ i _ _ _ _ _ v w1 w' => hst.get Φs i v w1 w') (fun _ _ w1 _ _ => Ext.refl w1) (fun _ _ => (Below.refl _ _).drew) hs hQ
end
end Go.Proofs.Ytfjmbcjcgdfkfaa
