/- Part 5 of what stands behind these statements: laws and walks of the functions that are reached. Conditions: those that each theorem names. -/
import Derived.Test.YtcegdjpdnlaleaaDoorSQ4
set_option linter.unusedVariables false
namespace Go.Proofs.YtcegdjpdnlaleaaDoor
open Go.RowKit
def tailB (l : List Oper) (k : Nat) : Bool := (List.range l.length).all fun i => Nat.blt i k || (List.range i).all fun m => ((masks l []).getD i 0).testBit m
theorem tailB_iff {l : List Oper} {k : Nat} (h : tailB l k = true) : ∀ i, k ≤ i → i < l.length → ∀ m, m < i → ((masks l []).getD i 0).testBit m = true := fun i hi hl m hm => by
  unfold tailB at h
  have h1 := List.all_eq_true.1 h i (by simpa using hl)
  rcases Bool.or_eq_true _ _ ▸ h1 with h2 | h2
  · have := Nat.le_of_ble_eq_true h2
    omega
  · exact List.all_eq_true.1 h2 m (by simpa using hm)
section
variable {P : Program} {l : List Oper} {kill : Nat → List Nat} {C : Nat → World → Prop} {R : Nat → World → World → Prop} {Φ : Nat → Fact} {a0 : Act}
def StepsFC (P : Program) (l : List Oper) (L : Nat) (C : Nat → World → Prop) (R : Nat → World → World → Prop) (Φ : Nat → Fact) (ρ : Slots) : Nat → List Oper → Prop
  | _, [] => True
  | n, o :: r => (bif Nat.ble L n then True else StepF P l C R Φ ρ n o) ∧ StepsFC P l L C R Φ ρ (n + 1) r
theorem stepFC {L n : Nat} {ρ : Slots} {o : Oper} (h : StepF P l C R Φ ρ n o) : bif Nat.ble L n then True else StepF P l C R Φ ρ n o := by
  cases Nat.ble L n
  · exact h
  · trivial
theorem StepsFC.get {L : Nat} {ρ : Slots} : ∀ (r : List Oper) (n : Nat), StepsFC P l L C R Φ ρ n r → ∀ k o, r[k]? = some o → n + k < L → StepF P l C R Φ ρ (n + k) o
  | [], _, _, k, o, h, _ => by simp at h
  | o' :: r, n, hs, 0, o, h, hne => by
    simp only [List.getElem?_cons_zero, Option.some.injEq] at h
    subst h
    have h1 := hs.1
    rw [show Nat.ble L n = false by rw [← Bool.not_eq_true]; exact fun x => by have := Nat.le_of_ble_eq_true x; omega] at h1
    exact h1
  | o' :: r, n, hs, k + 1, o, h, hne => by
    rw [List.getElem?_cons_succ] at h
    have := StepsFC.get r (n + 1) hs.2 k o h (by omega)
    rwa [show n + 1 + k = n + (k + 1) by omega] at this
theorem tail_any {z : Nat} (g : Good l z) {k : Nat} (ht : ∀ i, k ≤ i → i < l.length → ∀ m, m < i → ((masks l []).getD i 0).testBit m = true) {Q : Exit → Act → World → Prop} :
    ∀ (fuel m : Nat) (listed : Array Bool) (a : Act) (w : World), listed.size = l.length → (∀ i, On listed i ↔ i < m) → k ≤ m → m ≤ l.length → l.length ≤ m + fuel → wpList P l.toArray Q (l.drop m) a w → wpAny P .any l.toArray Q fuel listed a w := by
  have noReady : ∀ (m : Nat) (listed : Array Bool), listed.size = l.length → (∀ i, On listed i ↔ i < m) → l.length ≤ m → Region.ready .any l.toArray listed = [] := by
    intro m listed hsz hon hm
    cases hr : Region.ready .any l.toArray listed with
    | nil => rfl
    | cons x xs =>
      exfalso
      have hmem : x ∈ Region.ready .any l.toArray listed := by rw [hr]; simp
      obtain ⟨h1, o, ho, _⟩ := mem_ready.1 hmem
      have hx : x < l.length := by simpa using (Array.getElem?_eq_some_iff.1 ho).1
      have h2 := (hon x).2 (by omega)
      have hx' : x < listed.size := h2.lt
      unfold On at h2
      simp [hx'] at h1 h2
      rw [h1] at h2
      cases h2
  intro fuel
  induction fuel with
  | zero =>
    intro m listed a w hsz hon hk hm hf hw
    rw [List.drop_of_length_le (by omega)] at hw
    exact ⟨noReady m listed hsz hon (by omega), hw⟩
  | succ fuel ih =>
    intro m listed a w hsz hon hk hm hf hw
    by_cases hml : m = l.length
    · have hr := noReady m listed hsz hon (by omega)
      rw [List.drop_of_length_le (by omega)] at hw
      exact ⟨fun _ => hw, fun i hi => by rw [hr] at hi; cases hi⟩
    · have hlt : m < l.length := by omega
      have hoff : ¬ On listed m := fun x => by have := (hon m).1 x; omega
      have hI : Inv l (fun _ => []) (fun _ _ => True) (fun _ _ => True) (fun _ _ _ => True) a listed a w :=
        ⟨hsz, fun i o ho hi e he hb => (hon _).2 (by have := g.back i o ho e he hb; have := (hon i).1 hi; omega), rfl, rfl, fun _ _ _ => trivial, trivial, fun _ _ => rfl, fun _ _ _ _ _ _ _ _ => trivial⟩
      refine ⟨fun hr => ?_, fun i hi => ?_⟩
      · exfalso
        have ho : l[m]? = some l[m] := List.getElem?_eq_getElem hlt
        have : m ∈ Region.ready .any l.toArray listed := by
          refine mem_ready.2 ⟨?_, l[m], by rw [List.getElem?_toArray]; exact ho, fun e he hb => (hon _).2 (g.back m _ ho e he hb)⟩
          have hm' : m < listed.size := by omega
          unfold On at hoff
          simp [hm'] at hoff ⊢
          exact hoff
        rw [hr] at this
        cases this
      · obtain ⟨h1, o, ho, hall⟩ := mem_ready.1 hi
        have ho' : l[i]? = some o := by simpa using ho
        have hil : i < l.length := (List.getElem?_eq_some_iff.1 ho').1
        have hno : ¬ On listed i := fun x => by
          have hx : i < listed.size := by omega
          unfold On at x
          simp [hx] at h1 x
          rw [h1] at x
          cases x
        have him : i = m := by
          by_cases h2 : i < m
          · exact absurd ((hon i).2 h2) hno
          · by_cases h3 : i = m
            · exact h3
            · exact absurd (hI.maskReady ho' (fun e he hb => hall e he hb) (ht i (by omega) hil m (by omega))) hoff
        subst him
        rw [List.drop_eq_getElem_cons hlt] at hw
        obtain rfl : l[i] = o := by rw [List.getElem?_eq_getElem hlt] at ho'; exact Option.some.inj ho'
        have nxt : ∀ a' w', wpList P l.toArray Q (l.drop (i + 1)) a' w' → wpAny P .any l.toArray Q fuel (listed.setIfInBounds i true) a' w' := fun a' w' hw' =>
          ih (i + 1) _ a' w' (by simpa using hsz) (fun j => by rw [on_set (by omega), hon j]; omega) (by omega) (by omega) (by omega) hw'
        unfold wpOp
        simp only [List.getElem?_toArray, ho']
        unfold wpList at hw
        split at hw
        · rename_i hwt
          rw [if_pos hwt]
          exact hw.imp (fun h => Oper.wp_mono nxt h) (fun h => h)
        · rename_i hwt
          rw [if_neg hwt]
          exact nxt _ _ hw
theorem anyInvC {E : Array Bool → World → Prop} (hE : ∀ n listed w w', n < l.length → listed.size = l.length → ¬ On listed n → (∀ i k, On listed i ∨ i = n → ((masks l []).getD i 0).testBit k = true → On listed k) → E listed w → R n w w' → E (listed.setIfInBounds n true) w') (g : Good l a0.tmps.size) (hkl : killB l kill = true) {k : Nat} (ht : ∀ i, k ≤ i → i < l.length → ∀ m, m < i → ((masks l []).getD i 0).testBit m = true) (hk : k ≤ l.length)
    (hC : ∀ n m, n < l.length → m < l.length → n ≠ m → ((masks l []).getD n 0).testBit m = false → ∀ w w', C m w → R n w w' → C m w') (hΦ : ∀ n i, n < l.length → i < l.length → i ∉ kill n → i ≠ n → ((masks l []).getD i 0).testBit n = false → ∀ v w w', Φ i v w → R n w w' → Φ i v w') (hRr : ∀ n o w, l[n]? = some o → o.guard.isSome = true → R n w w) (hs : ∀ i o, l[i]? = some o → i < k → StepOk P l C R Φ a0.tmps i o) {Q : Exit → Act → World → Prop}
    (hQ : ∀ listed a' w', (∀ i, On listed i ↔ i < k) → Inv l kill C E Φ a0 listed a' w' → wpList P l.toArray Q (l.drop k) a' w') :
    ∀ (fuel : Nat) (listed : Array Bool) (a : Act) (w : World), (listed.toList.filter (!·)).length = fuel → (∀ i, On listed i → i < k) → Inv l kill C E Φ a0 listed a w → wpAny P .any l.toArray Q fuel listed a w := by
  intro fuel
  induction fuel with
  | zero =>
    intro listed a w hf hoff h
    have full : ∀ i, i < l.length → On listed i := fun i hi => by
      have := count_zero _ hf i (by rw [Array.length_toList, h.size]; omega)
      unfold On
      simp at this
      simp [this]
    have hkl' : k = l.length := by
      by_cases e : k = l.length
      · exact e
      · have := hoff k (full k (by omega)); omega
    exact tail_any g ht 0 k listed a w h.size (fun i => ⟨hoff i, fun hi => full i (by omega)⟩) (Nat.le_refl _) hk (by omega) (hQ listed a w (fun i => ⟨hoff i, fun hi => full i (by omega)⟩) h)
  | succ fuel ih =>
    intro listed a w hf hoff h
    by_cases hfull : ∀ i, i < k → On listed i
    · have hon : ∀ i, On listed i ↔ i < k := fun i => ⟨hoff i, hfull i⟩
      refine tail_any g ht (fuel + 1) k listed a w h.size hon (Nat.le_refl _) hk ?_ (hQ listed a w hon h)
      have e := List.take_append_drop k listed.toList
      rw [← e, List.filter_append, List.length_append] at hf
      have e2 : (listed.toList.drop k).filter (!·) = listed.toList.drop k := List.filter_eq_self.2 fun b hb => by
        obtain ⟨j, hj, rfl⟩ := List.getElem_of_mem hb
        rw [List.getElem_drop]
        have hno : ¬ On listed (k + j) := fun x => by have := hoff _ x; omega
        rw [List.length_drop] at hj
        have hlt : k + j < listed.size := by rw [← Array.length_toList]; omega
        unfold On at hno
        simp [hlt] at hno
        simp [hno]
      rw [e2, List.length_drop] at hf
      have hz : listed.toList.length = l.length := by rw [Array.length_toList]; exact h.size
      omega
    · have hlow : ∃ j, j < k ∧ ¬ On listed j := by
        refine Classical.byContradiction fun hn => hfull fun i hi => Classical.byContradiction fun hx => hn ⟨i, hi, hx⟩
      obtain ⟨j0, hj0, hoff0⟩ := hlow
      refine ⟨fun hr => ?_, fun i hi => ?_⟩
      · exfalso
        have full : ∀ i, i < l.length → On listed i := by
          intro i
          induction i using Nat.strongRecOn with
          | _ i ih2 =>
            intro hi
            refine Classical.byContradiction fun hno => ?_
            have ho : l[i]? = some l[i] := List.getElem?_eq_getElem hi
            have : i ∈ Region.ready .any l.toArray listed := by
              refine mem_ready.2 ⟨?_, l[i], by rw [List.getElem?_toArray]; exact ho, fun e he hb => ?_⟩
              · have hi' : i < listed.size := by rw [h.size]; exact hi
                unfold On at hno
                simp [hi'] at hno ⊢
                exact hno
              · have hlt := g.back i _ ho e he hb
                exact ih2 e.on hlt (by omega)
            rw [hr] at this
            cases this
        exact hoff0 (full j0 (by omega))
      · obtain ⟨h1, o, ho, hall0⟩ := mem_ready.1 hi
        have ho' : l[i]? = some o := by simpa using ho
        have hilt : i < l.length := (List.getElem?_eq_some_iff.1 ho').1
        have hil : i < listed.size := by rw [h.size]; exact hilt
        have hno : ¬ On listed i := by
          unfold On
          simp [hil] at h1 ⊢
          exact h1
        have hall : ∀ e ∈ o.after, Region.binds .any e = true → On listed e.on := fun e he hb => hall0 e he hb
        have hik : i < k := by
          by_cases h2 : i < k
          · exact h2
          · exact absurd (h.maskReady ho' hall (ht i (by omega) hilt j0 (by omega))) hoff0
        have hcnt : ((listed.setIfInBounds i true).toList.filter (!·)).length = fuel := by
          rw [Array.toList_setIfInBounds]
          have := count_set listed.toList i (by
            simp [hil] at h1
            simp [hil, h1])
          omega
        refine h.step g hkl hC hE hΦ hRr ho' hno hall (hs i o ho' hik) fun a' w' h' => ih _ _ _ hcnt (fun j hx => ?_) h'
        rcases (on_set hil).1 hx with rfl | h3
        · exact hik
        · exact hoff j h3
end
section
variable {P : Program} {n : Nat} {ρ : Slots} {w : World} {Q : PostF}
theorem wpF_draw_cutG {l r : List Oper} (k0 : Nat) (ks : Nat → List Nat) (C : Nat → World → Prop) (R : Nat → World → World → Prop) (E : Array Bool → World → Prop) (Φs : List Fact) {id : Nat} (hm : P.follows .mixedOrders = true) (ds : List Tmp) (hg : goodB l n = true) (hn : tailB l k0 = true) (hk0 : Nat.ble Φs.length k0 = true) (hkl : killB l ks = true) (hds : slotsW l = ds) (hr : (l.drop k0) = r)
    (hC : ∀ n m, n < l.length → m < l.length → n ≠ m → ((masks l []).getD n 0).testBit m = false → ∀ w w', C m w → R n w w' → C m w')
    (hΦ : ∀ n i, n < l.length → i < l.length → i ∉ ks n → i ≠ n → ((masks l []).getD i 0).testBit n = false → ∀ v w w', facts Φs i v w → R n w w' → facts Φs i v w')
    (hE : ∀ n listed w w', n < l.length → listed.size = l.length → ¬ On listed n → (∀ i k, On listed i ∨ i = n → ((masks l []).getD i 0).testBit k = true → On listed k) → E listed w → R n w w' → E (listed.setIfInBounds n true) w') (hE0 : E (Array.replicate l.toArray.size false) { w with drawn := w.drawn + 1 })
    (hRr : ∀ n o w, l[n]? = some o → o.guard.isSome = true → R n w w) (h0 : ∀ n, n < l.length → C n { w with drawn := w.drawn + 1 })
    (hs : StepsFC P l k0 C R (facts Φs) ρ 0 l)
    (hlt : Nat.blt k0 l.length = true) (hQ : ∀ (ρ' : Slots) w1 listed, (∀ i, On listed i ↔ i < k0) → E listed w1 → C k0 w1 → EndF ds ρ ρ' → EndFacts l ks (facts Φs) ρ' w1 ds → opsF P l.toArray n Q r ρ' w1) : wpF P n (.region id l.toArray true) Q ρ w := by
  intro a ha
  obtain ⟨T, df⟩ := a
  have hz : T.size = n := ha.size
  subst hz
  have hk1 : k0 < l.length := Nat.le_of_ble_eq_true hlt
  have g := good_of hg
  refine wp_region_any hm (anyInvC hE (a0 := { tmps := T, defers := df }) (C := C) (R := R) (Φ := facts Φs) g hkl (tailB_iff hn) (Nat.le_of_lt hk1) hC hΦ hRr (fun i o ho hi => ?_) (fun listed a' w' hon h => ?_) _ _ _ _ (by simp) ?_ ?_)
  · have hst := StepsFC.get l 0 hs i o ho (by omega)
    rw [Nat.zero_add] at hst
    have h2 := StepsF.ok (P := P) (l := l) (C := C) (R := R) (Φ := facts Φs) (T := T) ha.get [o] i ⟨hst, trivial⟩
    exact h2.1
  · -- what the slots hold
    have hw : ∀ d k, writer l d l.length = some k → (List.range l.length).all (fun n => !(ks n).contains k) = true → facts Φs k (a'.tmps.getD d undef) w' := fun d k hk hall => by
      obtain ⟨h1, ⟨o, ho, hd'⟩, h3⟩ := writer_some _ hk
      by_cases hkL : k0 ≤ k
      · have e : facts Φs k = fun _ _ => True := by
          have := Nat.le_of_ble_eq_true hk0
          unfold facts
          rw [List.getD_eq_getElem?_getD, List.getElem?_eq_none (by omega)]
          rfl
        rw [e]
        trivial
      refine h.new d k o ho hd' ((hon k).2 (by omega)) (fun k' o' hkk ho' hd'' _ => h3 k' o' hkk (List.getElem?_eq_some_iff.1 ho').1 ho' hd'') (fun n hn hkn => ?_)
      have hnl : n < l.length := by have := hn.lt; rw [h.size] at this; exact this
      have := List.all_eq_true.1 hall n (by simpa using hnl)
      simp at this
      exact this hkn
    have hget : ∀ t, a'.tmps.getD t undef = if t ∈ ds then a'.tmps.getD t undef else ρ t := fun t => by
      by_cases hn : t ∈ ds
      · rw [if_pos hn]
      · rw [if_neg hn, ← ha.get]
        exact h.old t fun k o ho hd _ => hn (by
          rw [← hds]
          unfold slotsW
          rw [List.mem_eraseDups, List.mem_filterMap]
          exact ⟨o, List.mem_of_getElem? ho, hd⟩)
    have hcl := h.cls k0 hk1 (fun x => by have := (hon k0).1 x; omega)
    have hend : EndF ds ρ (fun t => a'.tmps.getD t undef) := ⟨fun t ht => by rw [hget t, if_neg (by simpa using ht)]⟩
    have := hQ (fun t => a'.tmps.getD t undef) w' listed hon h.ecl hcl hend (endFacts_of hw ds)
    rw [hr]
    exact this a' ⟨h.tmps, h.defers.trans ha.defers, fun t => rfl⟩
  · intro i h
    unfold On at h
    rw [Array.getD_eq_getD_getElem?, Array.getElem?_replicate] at h
    split at h <;> simp at h
  · have hno : ∀ i, ¬ On (Array.replicate l.toArray.size false) i := fun i h => by
      unfold On at h
      rw [Array.getD_eq_getD_getElem?, Array.getElem?_replicate] at h
      split at h <;> simp at h
    exact ⟨Array.size_replicate, fun i o _ h => absurd h (hno i), rfl, rfl, fun n hn _ => h0 n hn, hE0, fun t _ => rfl, fun t k o _ _ h => absurd h (hno k)⟩
theorem wpF_draw_cut {l r : List Oper} (k0 : Nat) (Φs : List Fact) {id : Nat} (hm : P.follows .mixedOrders = true) (ds : List Tmp) (hg : goodB l n = true) (hn : tailB l k0 = true) (hk0 : Nat.ble Φs.length k0 = true) (hds : slotsW l = ds) (hr : (l.drop k0) = r) (hlt : Nat.blt k0 l.length = true) (hst : AllStab Ext Φs)
    (hs : StepsFC P l k0 (fun _ => Ext w) (fun _ => Ext) (facts Φs) ρ 0 l)
    (hQ : ∀ (ρ' : Slots) w1, Ext w w1 → EndF ds ρ ρ' → EndFacts l (fun _ => []) (facts Φs) ρ' w1 ds → opsF P l.toArray n Q r ρ' w1) : wpF P n (.region id l.toArray true) Q ρ w :=
  wpF_draw_cutG k0 (fun _ => []) (fun _ => Ext w) (fun _ => Ext) (fun _ _ => True) Φs hm ds hg hn hk0 (by unfold killB; simp) hds hr (fun _ _ _ _ _ _ _ _ hc hr => hc.trans hr) (fun _ i _ _ _ _ _ v w1 w' => hst.get Φs i v w1 w') (fun _ _ _ _ _ _ _ _ _ _ => trivial) trivial (fun _ _ w1 _ _ => Ext.refl w1) (fun _ _ => (Below.refl _ _).drew) hs hlt (fun ρ' w1 _ _ _ => hQ ρ' w1)
theorem wpF_draw_new {l r : List Oper} (kA kS k0 : Nat) (T : TypeId) (zc nc : Array Value) (Φs : List Fact) {id : Nat} (hm : P.follows .mixedOrders = true) (ds : List Tmp) (hg : goodB l n = true) (hn : tailB l k0 = true) (hk0 : Nat.ble Φs.length k0 = true) (hds : slotsW l = ds) (hr : (l.drop k0) = r) (hlt : Nat.blt k0 l.length = true)
    (hAS : ((masks l []).getD kS 0).testBit kA = true) (hne : Nat.beq kA kS = false) (hA0 : Nat.blt kA k0 = true) (hS0 : Nat.blt kS k0 = true) (hgA : (l[kA]?.bind (·.guard)) = none) (hgS : (l[kS]?.bind (·.guard)) = none)
    (hst : AllStab (fun a b => a = b ∨ w.heap.size < b.heap.size) Φs)
    (hs : StepsFC P l k0 (fun m w1 => bif Nat.beq m kA then w1 = w.drew else bif Nat.beq m kS then (w1 = w.drew ∨ w1 = w.drew.alloc (.cells zc T)) else Ext w w1) (fun m a b => bif Nat.beq m kA then b = w.drew.alloc (.cells zc T) else bif Nat.beq m kS then (b.heap[w.heap.size]? = some (.cells nc T (0, 0)) ∧ Ext w b ∧ b.heap.size = w.heap.size + 1) else a = b) (facts Φs) ρ 0 l)
    (hQ : ∀ (ρ' : Slots) w1, Ext w w1 → w1.heap[w.heap.size]? = some (.cells nc T (0, 0)) → w1.heap.size = w.heap.size + 1 → EndF ds ρ ρ' → EndFacts l (fun _ => []) (facts Φs) ρ' w1 ds → opsF P l.toArray n Q r ρ' w1) : wpF P n (.region id l.toArray true) Q ρ w := by
  have bt : ∀ {a b : Nat}, Nat.beq a b = true → a = b := fun h => Nat.eq_of_beq_eq_true h
  have bf : ∀ {a b : Nat}, a ≠ b → Nat.beq a b = false := fun h => by rw [← Bool.not_eq_true, Nat.beq_eq]; exact h
  have hx1 : Ext w (w.drew.alloc (.cells zc T)) := (Below.refl _ _).drew.alloc (Nat.le_refl _) _
  have hz1 : (w.drew.alloc (.cells zc T)).heap.size = w.heap.size + 1 := by simp
  have hkk : kA ≠ kS := fun e => by rw [e, Nat.beq_refl] at hne; cases hne
  refine wpF_draw_cutG k0 (fun _ => []) _ _ (fun listed w1 => On listed kS → w1.heap[w.heap.size]? = some (.cells nc T (0, 0)) ∧ Ext w w1 ∧ w1.heap.size = w.heap.size + 1) Φs hm ds hg hn hk0 (by unfold killB; simp) hds hr (fun i m _ _ hne' hbit a b hc hr => ?_) (fun i j _ _ _ _ _ v a b h hr => ?_) (fun i listed a b _ hsz hno hcl he hr => ?_) (fun h => ?_) (fun i o a ho hgo => ?_) (fun m _ => ?_) hs hlt (fun ρ' w1 listed hon he hc h2 h3 => ?_)
  · -- the contexts
    by_cases hmA : m = kA
    · subst hmA
      rw [Nat.beq_refl] at hc ⊢
      by_cases hiS : i = kS
      · subst hiS; rw [hAS] at hbit; cases hbit
      · rw [bf hne', bf hiS] at hr
        simp only [cond_true, cond_false] at hc hr ⊢
        rw [← hr]; exact hc
    · by_cases hmS : m = kS
      · subst hmS
        rw [bf hmA, Nat.beq_refl] at hc ⊢
        by_cases hiA : i = kA
        · subst hiA
          rw [Nat.beq_refl] at hr
          simp only [cond_true, cond_false] at hc hr ⊢
          exact .inr hr
        · rw [bf hiA, bf hne'] at hr
          simp only [cond_true, cond_false] at hc hr ⊢
          rw [← hr]; exact hc
      · rw [bf hmA, bf hmS] at hc ⊢
        simp only [cond_false] at hc ⊢
        by_cases hiA : i = kA
        · subst hiA
          rw [Nat.beq_refl] at hr
          simp only [cond_true] at hr
          rw [hr]; exact hx1
        · by_cases hiS : i = kS
          · subst hiS
            rw [bf hiA, Nat.beq_refl] at hr
            simp only [cond_true, cond_false] at hr
            exact hr.2.1
          · rw [bf hiA, bf hiS] at hr
            simp only [cond_false] at hr
            rw [← hr]; exact hc
  · refine hst.get Φs j v a b h ?_
    by_cases hiA : i = kA
    · subst hiA
      rw [Nat.beq_refl] at hr
      simp only [cond_true] at hr
      rw [hr, hz1]; exact .inr (by omega)
    · by_cases hiS : i = kS
      · subst hiS
        rw [bf hiA, Nat.beq_refl] at hr
        simp only [cond_true, cond_false] at hr
        exact .inr (by omega)
      · rw [bf hiA, bf hiS] at hr
        exact .inl hr
  · intro hon
    by_cases hiS : i = kS
    · subst hiS
      rw [bf (Ne.symm hkk), Nat.beq_refl] at hr
      exact hr
    · have hon' : On listed kS := by
        rcases (on_set (by omega)).1 hon with h1 | h1
        · exact absurd h1.symm hiS
        · exact h1
      have hiA : i ≠ kA := fun e => hno (by rw [e]; exact hcl kS kA (.inl hon') hAS)
      rw [bf hiA, bf hiS] at hr
      simp only [cond_false] at hr
      rw [← hr]; exact he hon'
  · exact absurd h On.not_replicate
  · have hiA : i ≠ kA := fun e => by rw [e] at ho; rw [ho] at hgA; simp only [Option.bind_some] at hgA; rw [hgA] at hgo; cases hgo
    have hiS : i ≠ kS := fun e => by rw [e] at ho; rw [ho] at hgS; simp only [Option.bind_some] at hgS; rw [hgS] at hgo; cases hgo
    rw [bf hiA, bf hiS]
    rfl
  · by_cases hmA : m = kA
    · subst hmA; rw [Nat.beq_refl]; rfl
    · by_cases hmS : m = kS
      · subst hmS; rw [bf hmA, Nat.beq_refl]; exact .inl rfl
      · rw [bf hmA, bf hmS]; exact (Below.refl _ _).drew
  · obtain ⟨e1, e2, e3⟩ := he ((hon kS).2 (Nat.le_of_ble_eq_true hS0))
    exact hQ ρ' w1 e2 e1 e3 h2 h3
theorem Yk.allocX {K : Value → World → Prop} {d : Option Tmp} {ty : TypeId} {pos : String} {af : Array Edge} {gd : Option (Nat × Bool)} {e : TypeId} {cs : Array Value} (hz : ∀ (σ : Operand → Value) (w : World), (execOp σ ⟨d, .alloc e, ty, pos, af, gd⟩).run P w = .ok (.value (.pointer (some ⟨w.heap.size, 0, none⟩))) (w.alloc (.cells cs e)))
    (hk : K (.pointer (some ⟨w.heap.size, 0, none⟩)) (w.alloc (.cells cs e))) : Yk P K ((execOp (evalR ρ) ⟨d, .alloc e, ty, pos, af, gd⟩).run P w) := by
  rw [hz]
  exact hk
end
open Go.RowKit
theorem Yk.lookD {P : Program} {K : Value → World → Prop} {ρ : Slots} {w : World} {d : Option Tmp} {ty : TypeId} {pos : String} {af : Array Edge} {gd : Option (Nat × Bool)} {α β : Type} {ek : α → Value} {ev : β → Value} {D : α → Prop} {b : Nat} {G : α → Option β} {t Kt E : TypeId} {OK : Value → Prop}
    (L : KL P Kt OK) (hD : ∀ a, D a → OK (ek a)) (hi : ∀ a c, ek a = ek c → a = c) (ht : P.underlying t = some (.map Kt E)) {df : β} (hz : ∀ u : World, (zeroValue E).run P u = .ok (ev df) u) {x y : Operand} {a : α}
    (hm : evalR ρ x = .map (some b)) (hy : evalR ρ y = ek a) (h : MapF ek ev D w b G) (ha : D a) (hk : K (ev ((G a).getD df)) w) : Yk P K ((execOp (evalR ρ) ⟨d, .lookup t x y false, ty, pos, af, gd⟩).run P w) :=
  Yk.lookM L hD hi ht hz hm hy h ha (by cases e : G a <;> rw [e] at hk <;> exact hk)
def EntOk1 (w : World) (x : EntV) : Prop := RB w x.2 x.1.bytes ∧ x.1.base.length = 32 ∧ x.1.bytes.length ≤ 1048576
def MOk (w : World) (M : Bs → Option EntV) : Prop := ∀ k c, M k = some c → EntOk1 w c
theorem MOk.keep {w w' : World} {M : Bs → Option EntV} (h : MOk w M) (k : Ext w w') : MOk w' M := fun a c hc => ⟨(h a c hc).1.keep k, (h a c hc).2⟩
theorem MOk.get {w : World} {M : Bs → Option EntV} (h : MOk w M) (k : Bs) : EntOk1 w ((M k).getD dEnt) := by
  cases e : M k with
  | none => exact ⟨RB.nil w, by simp [dEnt], by simp [dEnt]⟩
  | some c => exact h k c e
def entAt (M : Bs → Option EntV) (k : Bs) : Ent := ((M k).getD dEnt).1
section
variable (E : Bs → Ent)
def depthGo : Nat → Ent → Option Nat
  | 0, e => if e.based then none else some 0
  | n + 1, e => if e.based then (depthGo n (E e.base)).map (· + 1) else some 0
def chainGo : Nat → Bs → Option (Bs × Nat)
  | 0, _ => none
  | n + 1, id =>
    if (E id).based then (chainGo n (E id).base).bind fun x => if (applyP x.1 (E id).bytes).2 = 0 then (if (applyP x.1 (E id).bytes).1.length ≤ 262144 then some ((applyP x.1 (E id).bytes).1, x.2 + 1) else none) else none
    else if (E id).bytes.length ≤ 262144 then some ((E id).bytes, 0) else none
variable {E}
theorem depthGo_flat {n : Nat} {e : Ent} (h : e.based = false) : depthGo E n e = some 0 := by
  cases n <;> (unfold depthGo; rw [h]; rfl)
theorem depthGo_zero {e : Ent} (h : e.based = true) : depthGo E 0 e = none := by unfold depthGo; rw [h]; rfl
theorem depthGo_step {n : Nat} {e : Ent} (h : e.based = true) : depthGo E (n + 1) e = (depthGo E n (E e.base)).map (· + 1) := by
  show (if e.based = true then _ else _) = _
  rw [if_pos h]
theorem depth_next {n c : Nat} {e : Ent} (h : e.based = true) : (depthGo E (n + 1) e).map (· + c) = (depthGo E n (E e.base)).map (· + (c + 1)) := by
  rw [depthGo_step h]
  cases depthGo E n (E e.base) with
  | none => rfl
  | some d => show some (d + 1 + c) = some (d + (c + 1)); rw [Nat.add_assoc, Nat.add_comm 1 c]
theorem depthGo_same : ∀ (n m : Nat) (e : Ent) (d : Nat), depthGo E n e = some d → d ≤ m → depthGo E m e = some d
  | n, m, e, d, h, hm => by
    cases hb : e.based with
    | false => rw [depthGo_flat hb] at h ⊢; exact h
    | true =>
      cases n with
      | zero => rw [depthGo_zero hb] at h; cases h
      | succ n =>
        rw [depthGo_step hb] at h
        cases h1 : depthGo E n (E e.base) with
        | none => rw [h1] at h; cases h
        | some d1 =>
          rw [h1] at h
          cases h
          cases m with
          | zero => simp at hm
          | succ m => rw [depthGo_step hb, depthGo_same n m _ d1 h1 (by simpa using hm)]; rfl
end
open Go.RowKit
set_option maxRecDepth 100000
theorem pk16_fo120_0 : FieldOff Tryd.prog 120 0 0 := fun b o w => by simp [go_sem]
theorem pk16_ty112 : Tryd.prog.underlying 112 = some (.map 38 116) := by kernel_rfl
theorem pk16_ty38 : Tryd.prog.underlying 38 = some (.array 32 5) := by kernel_rfl
theorem pk16_al116 {d : Option Tmp} {ty : TypeId} {pos : String} {af : Array Edge} {gd : Option (Nat × Bool)} (σ : Operand → Value) (w : World) : (execOp σ ⟨d, .alloc 116, ty, pos, af, gd⟩).run Tryd.prog w = .ok (.value (PQ w.heap.size 0)) (w.alloc (.cells (entC dEnt).toArray 116)) := by kernel_rfl
theorem pk16_isz116 : (Tryd.prog.info? 116).map (·.size) = some 35 := by kernel_rfl
theorem pk16_fo116_1 : FieldOff Tryd.prog 116 1 1 := fun b o w => by simp [go_sem]
theorem pk16_ty4 : Tryd.prog.underlying 4 = some (.bool) := by kernel_rfl
theorem pk16_pl64 : Plain Tryd.prog 64 := fun _ _ => by kernel_rfl
theorem pk16_ty116 : ∃ fs, Tryd.prog.underlying 116 = some (.struct fs) := struct_of (by kernel_rfl)
theorem pk16_fo116_2 : FieldOff Tryd.prog 116 2 2 := fun b o w => by simp [go_sem]
theorem pk16_isz38 : (Tryd.prog.info? 38).map (·.size) = some 32 := by kernel_rfl
theorem pdepth_any (w : World) (gm be bm : Nat) (M : Bs → Option EntV) (hmk : w.heap[gm]? = some (.cells ([.map (some be), .map (some bm)]).toArray 120 (0, 0))) (hme : MapF rk entV (fun id : List UInt8 => id.length = 32) w be M) (hMO : MOk w M) (id : Bs) (hid : id.length = 32) :
  Calls Tryd.prog 67 #[PQ gm 0, AB id] w fun r w' => (∃ x, r = .returned x ∧ ∃ d, depthGo (entAt M) 50 (entAt M id) = some d ∧ x = NI d ∧ Ext w w') ∨ ∃ ch, r = .panicked ch ∧ depthGo (entAt M) 50 (entAt M id) = none ∧ ch = [stopE 17] ∧ Ext w w' := by
 refine calls_of_wpP (args := [PQ gm 0, AB id]) Tryd.func67 rfl 29 rfl (Nat.le_of_ble_eq_true rfl) ?_
 intro ρ0 hb
 have T0 : ρ0 0 = (PQ gm 0 : Value) := hb.get 0
 have T1 : ρ0 1 = (AB id : Value) := hb.get 1
 clear hb
 have hE := Ext.refl w
 refine sk fun K1 hK1 => (wt (oS rfl (Yk.box (cs := (Lib.byteCells id : List Value).toArray) T1 fun n2 w3 hn4 hb5 hx6 hs7 => ?_)))
 have hlt8 := lte (bl hmk) hn4
 have hlt9 := lte hme.lt hn4
 have hmk := eb hx6 hmk
 have hme := hme.keep hx6
 have hE := hE.trans hx6
 have hb10 := hb5; clear hb5
 have hl11 : n2 < w3.heap.size := by omega
 refine oA rfl (oZ (tN (hK1 _ _ (sk fun K12 hK12 => (wt (oA rfl (oZ (tN (hK12 _ _ (sk fun K13 hK13 => (sk fun K14 hK14 => ?_)))))))))))
 have hA15 := Ext.refl w3
 have hea16 := hE
 have hz17 := hE.size
 have hlt18 : gm < w3.heap.size := (bl hmk)
 have hlt19 : be < w3.heap.size := hme.lt
 have hlt20 : n2 < w3.heap.size := (bl hb10)
 refine wpF_draw_cut 7 [Is (PQ gm 0), Is (PQ gm 0), Is (PQ gm 0), Is (.map (some be)), Is (AB id), Is (.agg (entC ((M (id)).getD dEnt)).toArray), fun x w' => ∃ g, x = PQ g 0 ∧ w'.heap[g]? = some (.cells (entC dEnt).toArray 116 (0, 0)) ∧ w3.heap.size ≤ g] (by kernel_rfl) [7, 8, 9, 10, 11, 12, 6] (by kernel_rfl) (by kernel_rfl) (by kernel_rfl) (by kernel_rfl) rfl rfl (si6 ⟨(fun _ _ _ ⟨g, h1, h2, h3⟩ k => ⟨g, h1, eb k h2, h3⟩), trivial⟩) ?hs3002 ?hQ3002
 case hs3002 =>
  refine ⟨?_, ?_, ?_, ?_, ?_, ?_, ?_, ?_, trivial⟩
  ·refine stepFC (stepN rfl fun σ w1 hC h => ?_)
   have e0 := (eqo (h 0 (by decide))).trans T0
   exact Yk.move e0 ⟨Ext.refl _, rfl⟩
  ·refine stepFC (stepN rfl fun σ w1 hC h => ?_)
   have e7 := eqo (h 7 (by decide))
   exact Yk.nilCheck e7 ⟨Ext.refl _, rfl⟩
  ·refine stepFC (stepN rfl fun σ w1 hC h => ?_)
   have e8 := eqo (h 8 (by decide))
   exact Yk.fieldAt pk16_fo120_0 e8 ⟨Ext.refl _, rfl⟩
  ·refine stepFC (stepN rfl fun σ w1 hC h => ?_)
   have e9 := eqo (h 9 (by decide))
   exact Yk.cell1 pk16_ty112 rfl e9 (cellAt (eb hC hmk) (show _ = some (.map (some be) : Value) from rfl)) ⟨Ext.refl _, rfl⟩
  ·refine stepFC (stepN rfl fun σ w1 hC h => ?_)
   have e3 : σ 3 = PQ n2 0 := (eqo (h 3 (by decide))).trans rfl
   exact Yk.loadAll e3 (eb hC hb10) pk16_ty38 rfl (by exact sizeId_of hid) ⟨Ext.refl _, rfl⟩
  ·refine stepFC (stepN rfl fun σ w1 hC h => ?_)
   have e10 := eqo (h 10 (by decide))
   have e11 := eqo (h 11 (by decide))
   exact Yk.lookD (ek := rk) (ev := entV) (D := (fun id : List UInt8 => id.length = 32)) (df := dEnt) idLaw id_ok (fun _ _ => rk_inj) pk16_ty112 zeroEnt e10 e11 (hme.keep hC) hid ⟨Ext.refl _, rfl⟩
  ·refine stepFC (stepN rfl fun σ w1 hC h => ?_)
   exact Yk.alloc (cs := (entC dEnt).toArray) pk16_al116 fun g w2 hn hb hx hs => ⟨hx, g, rfl, hb, Nat.le_trans (show Ext w3 w1 from hC).size (Nat.le_of_eq hn)⟩
  ·exact trivial
 intro ρ21 w22 hx23 he hf
 obtain ⟨-, -, -, -, -, k12, k6, -⟩ := hf
 obtain ⟨T0, T1, T3, T4, T5, -⟩ := he.hold [(0, _), (1, _), (3, PQ n2 0), (4, NI 0), (5, NI 0)] ⟨T0, T1, rfl, rfl, rfl, trivial⟩ rfl
 clear he
 have hmk := eb hx23 hmk
 have hme := hme.keep hx23
 have hE := hE.trans hx23
 have hb10 := eb hx23 hb10
 have hA15 := hA15.trans hx23
 have T12 : ρ21 12 = .agg (entC ((M (id)).getD dEnt)).toArray := k12
 have k6 : (fun x w' => ∃ g, x = PQ g 0 ∧ w'.heap[g]? = some (.cells (entC dEnt).toArray 116 (0, 0)) ∧ w3.heap.size ≤ g) (ρ21 6) w22 := k6
 obtain ⟨v24, T6⟩ : ∃ v, ρ21 6 = v := ⟨_, rfl⟩
 rw [T6] at k6
 have hk25 := k6; clear k6
 obtain ⟨n26, rfl, hb27, hn28⟩ := hk25
 have hl29 := bl hb27
 clear k12
 refine oS rfl (Yk.storeAll T6 T12 hb27 (entC_size (x := (((M (id)).getD dEnt) : EntV)) (y := (dEnt : EntV)) (hMO.get (id)).2.1 (by simp [dEnt])) (entC_isz (x := (((M (id)).getD dEnt) : EntV)) pk16_isz116 (hMO.get (id)).2.1) (entC_one (x := (((M (id)).getD dEnt) : EntV)) (RB.one (hMO.get (id)).1).2) fun w30 hb31 hg32 hs33 => ?_)
 have hmk := kb hg32 hmk (by omega)
 have hme := MapF.other hme hg32 (some_ne (by omega))
 have hE := row_fresh hE hg32 (Nat.le_trans hz17 (by omega))
 have hb10 := kb hg32 hb10 (by omega)
 have hA15 := row_fresh hA15 hg32 (Nat.le_trans (Nat.le_refl _) (by omega))
 clear hb27
 have hb27 := hb31; clear hb31
 have hl34 := bl hb27
 refine oL_ [(0, PQ gm 0), (1, AB id), (3, PQ n2 0), (4, NI 0), (5, NI 0), (6, PQ n26 0)] ⟨T0, T1, T3, T4, T5, T6, trivial⟩ fun ρ35 ⟨T0, T1, T3, T4, T5, T6, _⟩ => (tN (hK14 _ _ (wpF_block (wpF_loop (fun (ρ : Slots) (wz : World) => ∃ c : Nat, ∃ x : EntV, ∃ q : Nat, ρ 0 = (PQ gm 0 : Value) ∧ ρ 1 = (AB id : Value) ∧ ρ 3 = (PQ n2 0 : Value) ∧ ρ 4 = (NI 0 : Value) ∧ ρ 5 = (NI c : Value) ∧ ρ 6 = (PQ q 0 : Value) ∧ wz.heap[gm]? = some (.cells ([.map (some be), .map (some bm)]).toArray 120 (0, 0)) ∧ MapF rk entV (fun id : List UInt8 => id.length = 32) wz be M ∧ Ext w wz ∧ wz.heap[n2]? = some (.cells (Lib.byteCells id).toArray 38 (0, 0)) ∧ wz.heap[q]? = some (.cells (entC (x)).toArray 116 (0, 0)) ∧ (c ≤ 50) ∧ (depthGo (entAt M) 50 (entAt M id) = (depthGo (entAt M) (50 - c) x.1).map (· + c)) ∧ (EntOk1 w x) ∧ (w.heap.size ≤ q) ∧ True) (fun ρ _ => 51 - (intOf (ρ 5)).toNat) ⟨0, (M id).getD dEnt, n26, T0, T1, T3, T4, T5, T6, hmk, hme, hE, hb10, hb27, Nat.zero_le _, by simp [entAt], hMO.get id, by omega, trivial⟩ ?_))))
 clear hA15
 clear hb27
 clear hmk hme hE hb10
 rintro ρ36 w37 ⟨c, x, q, T0, T1, T3, T4, T5, T6, hmk, hme, hE, hb10, hbq, hc, hd, hxo, hqw, -⟩
 have q5 := T5
 refine sk fun K38 hK38 => (sk fun K39 hK39 => (wt (oS rfl (Yk.fieldAt pk16_fo116_1 T6 (oS rfl (Yk.cell1 pk16_ty4 rfl (vr (PQ q 1) rfl) (cellAt hbq ((show (entC (x))[1]? = some (.bool ((x).1.based) : Value) from rfl))) (oZ (tN (hK39 _ _ ?_)))))))))
 refine wpF_condB ((x).1.based) (vr (.bool ((x).1.based)) rfl) (fun hc0 => ?_) (fun hc0 => ?_)
 ·have hb1 : x.1.based = true := hc0
  refine wpF_skip (tN (hK38 _ _ (sk fun K40 hK40 => (wpF_block (sk fun K41 hK41 => (wt (oM rfl (oS rfl (Yk.bin (xv := NI c) (yv := NI 1) T5 rfl rfl (i64_add _ _ _ (by omega)) (oA rfl (oZ (tN (hK41 _ _ (wt (oM rfl (oS rfl (Yk.eqI (a := ((c) + (1) : Nat)) (b := (50 : Nat)) rfl rfl (k_leq _ _ _ _) (oP rfl (Yp.callA2 pk16_pl64 (vr (.bool (decide (((c) + (1)) ≤ (50)))) rfl) (vr (NI 17) rfl) ?_)))))))))))))))))))
  refine calls_either (need_any _ (decide (((c) + (1)) ≤ (50))) 17) ?_ ?_
  rotate_left
  ·
   rintro ch w44 ⟨rfl, hb, hx⟩
   refine inBlockF_panic (thenF_panic (thenF_panic (inBlockF_panic (thenF_panic (postP_panic ?_)))))
   have hno := of_decide_eq_false hb
   refine .inr ⟨_, rfl, ?_, rfl, hE.trans hx⟩
   rw [hd, show 50 - c = 0 by omega, depthGo_zero hc0]; rfl
  rintro v_ w46 ⟨rfl, hb42, hx43⟩
  have hmk := eb hx43 hmk
  have hme := hme.keep hx43
  have hE := hE.trans hx43
  have hb10 := eb hx43 hb10
  have hbq := eb hx43 hbq
  have hn47 := of_decide_eq_true hb42
  refine oZ (bN (tN (hK40 _ _ (sk fun K48 hK48 => (sk fun K49 hK49 => (wt (oS rfl (Yk.loadAll T6 hbq (pk16_ty116).choose_spec rfl (entC_isz (x := (x : EntV)) pk16_isz116 hxo.2.1) (oZ (tN (hK49 _ _ (wt (oS rfl (Yk.alloc (cs := (entC dEnt).toArray) pk16_al116 fun n50 w51 hn52 hb53 hx54 hs55 => ?_))))))))))))))
  have hA56 := Ext.refl w46
  have hea57 := hE
  have hz58 := hE.size
  have hlt59 := lte (bl hmk) hn52
  have hlt60 := lte hme.lt hn52
  have hlt61 := lte (bl hb10) hn52
  have hlt62 := lte (bl hbq) hn52
  have hmk := eb hx54 hmk
  have hme := hme.keep hx54
  have hE := hE.trans hx54
  have hb10 := eb hx54 hb10
  have hbq := eb hx54 hbq
  have hA56 := hA56.trans hx54
  have hb63 := hb53; clear hb53
  have hl64 : n50 < w51.heap.size := by omega
  refine oS rfl (Yk.storeAll (vr (PQ n50 0) rfl) (vr (.agg (entC (x)).toArray) rfl) hb63 (entC_size (x := ((x) : EntV)) (y := (dEnt : EntV)) hxo.2.1 (by simp [dEnt])) (entC_isz (x := ((x) : EntV)) pk16_isz116 hxo.2.1) (entC_one (x := ((x) : EntV)) (RB.one hxo.1).2) fun w65 hb66 hg67 hs68 => ?_)
  have hmk := kb hg67 hmk (by omega)
  have hme := MapF.other hme hg67 (some_ne (by omega))
  have hE := row_fresh hE hg67 (Nat.le_trans hz58 (by omega))
  have hb10 := kb hg67 hb10 (by omega)
  have hbq := kb hg67 hbq (by omega)
  have hA56 := row_fresh hA56 hg67 (Nat.le_trans (Nat.le_refl _) (by omega))
  clear hb63
  have hb63 := hb66; clear hb66
  have hl69 := bl hb63
  refine oZ (tN (hK48 _ _ ?_))
  refine wpF_draw_cut 7 [Is (PQ gm 0), Is (PQ gm 0), Is (PQ gm 0), Is (.map (some be)), Is (PQ n50 2), Is (AB (((x)).1.base)), Is (.agg (entC ((M (((x)).1.base)).getD dEnt)).toArray)] (by kernel_rfl) [15, 16, 17, 18, 19, 20, 21] (by kernel_rfl) (by kernel_rfl) (by kernel_rfl) (by kernel_rfl) rfl rfl (si7 trivial) ?hs4004 ?hQ4004
  case hs4004 =>
   refine ⟨?_, ?_, ?_, ?_, ?_, ?_, ?_, ?_, trivial⟩
   ·refine stepFC (stepN rfl fun σ w1 hC h => ?_)
    have e0 := (eqo (h 0 (by decide))).trans T0
    exact Yk.move e0 ⟨Ext.refl _, rfl⟩
   ·refine stepFC (stepN rfl fun σ w1 hC h => ?_)
    have e15 := eqo (h 15 (by decide))
    exact Yk.nilCheck e15 ⟨Ext.refl _, rfl⟩
   ·refine stepFC (stepN rfl fun σ w1 hC h => ?_)
    have e16 := eqo (h 16 (by decide))
    exact Yk.fieldAt pk16_fo120_0 e16 ⟨Ext.refl _, rfl⟩
   ·refine stepFC (stepN rfl fun σ w1 hC h => ?_)
    have e17 := eqo (h 17 (by decide))
    exact Yk.cell1 pk16_ty112 rfl e17 (cellAt (eb hC hmk) (show _ = some (.map (some be) : Value) from rfl)) ⟨Ext.refl _, rfl⟩
   ·refine stepFC (stepN rfl fun σ w1 hC h => ?_)
    have e6 : σ 6 = PQ n50 0 := (eqo (h 6 (by decide))).trans rfl
    exact Yk.fieldAt pk16_fo116_2 e6 ⟨Ext.refl _, rfl⟩
   ·refine stepFC (stepN rfl fun σ w1 hC h => ?_)
    have e19 := eqo (h 19 (by decide))
    exact Yk.loadPart e19 (entC_range (x := ((x) : EntV)) (eb hC hb63)) pk16_ty38 rfl (by rw [Lib.byteCells_length, hxo.2.1]; exact pk16_isz38) ⟨Ext.refl _, rfl⟩
   ·refine stepFC (stepN rfl fun σ w1 hC h => ?_)
    have e18 := eqo (h 18 (by decide))
    have e20 := eqo (h 20 (by decide))
    exact Yk.lookD (ek := rk) (ev := entV) (D := (fun id : List UInt8 => id.length = 32)) (df := dEnt) idLaw id_ok (fun _ _ => rk_inj) pk16_ty112 zeroEnt e18 e20 (hme.keep hC) hxo.2.1 ⟨Ext.refl _, rfl⟩
   ·exact trivial
  intro ρ70 w71 hx72 he hf
  obtain ⟨-, -, -, -, -, -, k21, -⟩ := hf
  obtain ⟨T0, T1, T3, T4, T5, T6, T27, -⟩ := he.hold [(0, _), (1, _), (3, _), (4, _), (5, NI ((c) + (1))), (6, PQ n50 0), (27, .agg (entC (x)).toArray)] ⟨T0, T1, T3, T4, rfl, rfl, rfl, trivial⟩ rfl
  clear he
  have hmk := eb hx72 hmk
  have hme := hme.keep hx72
  have hE := hE.trans hx72
  have hb10 := eb hx72 hb10
  have hbq := eb hx72 hbq
  have hA56 := hA56.trans hx72
  have hb63 := eb hx72 hb63
  have T21 : ρ70 21 = .agg (entC ((M (((x)).1.base)).getD dEnt)).toArray := k21
  clear k21
  refine oS rfl (Yk.storeAll T6 T21 hb63 (entC_size (x := (((M (((x)).1.base)).getD dEnt) : EntV)) (y := ((x) : EntV)) (hMO.get (((x)).1.base)).2.1 hxo.2.1) (entC_isz (x := (((M (((x)).1.base)).getD dEnt) : EntV)) pk16_isz116 (hMO.get (((x)).1.base)).2.1) (entC_one (x := (((M (((x)).1.base)).getD dEnt) : EntV)) (RB.one (hMO.get (((x)).1.base)).1).2) fun w73 hb74 hg75 hs76 => ?_)
  have hmk := kb hg75 hmk (by omega)
  have hme := MapF.other hme hg75 (some_ne (by omega))
  have hE := row_fresh hE hg75 (Nat.le_trans hz58 (by omega))
  have hb10 := kb hg75 hb10 (by omega)
  have hbq := kb hg75 hbq (by omega)
  have hA56 := row_fresh hA56 hg75 (Nat.le_trans (Nat.le_refl _) (by omega))
  clear hb63
  have hb63 := hb74; clear hb74
  have hl77 := bl hb63
  refine oL_ [(0, PQ gm 0), (1, AB id), (3, PQ n2 0), (4, NI 0), (5, NI ((c) + (1))), (6, PQ n50 0), (27, .agg (entC (x)).toArray)] ⟨T0, T1, T3, T4, T5, T6, T27, trivial⟩ fun ρ78 ⟨T0, T1, T3, T4, T5, T6, T27, _⟩ => (tN (And.intro ⟨c + 1, (M x.1.base).getD dEnt, n50, T0, T1, T3, T4, T5, T6, hmk, hme, hE, hb10, hb63, by omega, hd.trans (by rw [show 50 - c = (50 - (c + 1)) + 1 by omega]; exact depth_next hb1), hMO.get _, by omega, trivial⟩ ?_))
  show 51 - (intOf (ρ78 5)).toNat < 51 - (intOf (ρ36 5)).toNat
  rw [T5, q5]
  simp only [intOf, Int.toNat_natCast]; omega
 have hb0 : x.1.based = false := by simpa using hc0
 refine wpF_exit (thenF_exit (thenF_exit (inBlockF_hit (tN (hK13 _ _ (sk fun K79 hK79 => (wt (oM rfl (oA rfl (oZ (tN (hK79 _ _ (wpF_ret (postP_ret (fn := Tryd.f67) _ rfl [NI c] (NI c) rfl ⟨T5, trivial⟩ ?_))))))))))))))
 exact .inl ⟨_, rfl, c, by rw [hd, depthGo_flat hb0]; exact congrArg some (Nat.zero_add c), rfl, hE⟩
open Go.RowKit
abbrev ObjV := (Bs × Nat) × Value
abbrev objV (x : ObjV) : Value := .agg ([x.2, NI x.1.2]).toArray
def dObj : ObjV := (([], 0), .slice none 0 0)
theorem zeroObj : ∀ u : World, (zeroValue 81).run Tryd.prog u = .ok (objV dObj) u := fun _ => by kernel_rfl
theorem obj_one {v : Value} {n : Nat} (h : v.oneCell' = true) : ∀ u ∈ ([v, NI n]).toArray.toList, u.oneCell' = true := by
  intro u hu
  simp only [List.mem_cons, List.not_mem_nil, or_false] at hu
  rcases hu with rfl | rfl
  · exact h
  · rfl
def IsMapB (w : World) (b : Nat) : Prop := ∃ es c, w.heap[b]? = some (.map es c)
theorem MapF.isMap {α β : Type} {ek : α → Value} {ev : β → Value} {D : α → Prop} {w : World} {b : Nat} {G : α → Option β} (h : MapF ek ev D w b G) : IsMapB w b := by
  obtain ⟨es, c, h, -⟩ := h
  exact ⟨_, c, h⟩
def NoB8 (w : World) (b : Nat) : Prop := ∀ j x, w.cell? ⟨b, j, none⟩ ≠ some (B8 x)
theorem IsMapB.noB8 {w : World} {b : Nat} (h : IsMapB w b) : NoB8 w b := fun j x hc => by
  obtain ⟨es, c, hm⟩ := h
  unfold World.cell? at hc
  rw [hm] at hc
  simp at hc
theorem obj_noB8 {w : World} {g k : Nat} {v : Value} {T : TypeId} {fr : Nat × Nat} (hb : w.heap[g]? = some (.cells ([v, NI k]).toArray T fr)) (hv : ∃ ao n c, v = .slice ao n c) : NoB8 w g := fun j x hc => by
  obtain ⟨ao, n, c, rfl⟩ := hv
  unfold World.cell? at hc
  rw [hb] at hc
  match j, hc with
  | 0, hc => simp at hc
  | 1, hc => simp at hc
  | j + 2, hc => simp at hc
theorem RB.keepN {w w' : World} {b : Nat} {v : Value} {l : List UInt8} (h : RB w v l) (hm : NoB8 w b) (hg : w.grownBy w' (some b)) : RB w' v l := by
  by_cases hv : v.ownBlock = some b
  · obtain ⟨h1, ao, cap, rfl, h2, h3, h4, h5⟩ := h
    refine ⟨h1, ao, cap, rfl, h2, h3, h4, fun a ha j u hu => ?_⟩
    subst ha
    exfalso
    have hb : a.block = b := by injection hv
    have hc := h5 a rfl j u hu
    have hj : j < l.length := by have := (List.getElem?_eq_some_iff.1 hu).1; rwa [Lib.byteCells_length] at this
    rw [byte_at hj] at hu
    cases hu
    have hsp := World.cell?_spot hc
    obtain ⟨ab, ao, asp⟩ := a
    have e : ({ block := ab, off := ao, spot := asp } : Addr).add j = ⟨b, (({ block := ab, off := ao, spot := asp } : Addr).add j).off, none⟩ := by
      have h1 : (({ block := ab, off := ao, spot := asp } : Addr).add j).block = b := by rw [← hb]; unfold Addr.add; split <;> rfl
      generalize ({ block := ab, off := ao, spot := asp } : Addr).add j = q at h1 hsp ⊢
      obtain ⟨q1, q2, q3⟩ := q
      simp only at h1 hsp
      rw [h1, hsp]
    rw [e] at hc
    exact hm _ _ hc
  · exact h.kept hg (.inr hv)
theorem MOk.keepN {w w' : World} {b : Nat} {M : Bs → Option EntV} (h : MOk w M) (hm : NoB8 w b) (hg : w.grownBy w' (some b)) : MOk w' M := fun a c hc => ⟨(h a c hc).1.keepN hm hg, (h a c hc).2⟩
theorem BX.keep {w0 w w' : World} {r : Option Nat} (h : BX w0.heap.size r w0 w) (k : Ext w w') : BX w0.heap.size r w0 w' := h.trans (BX.ofExt k h.size)
theorem BX.set {w0 w w' : World} {r : Option Nat} {g : Nat} (h : BX w0.heap.size r w0 w) (hg : w.grownBy w' (some g)) (hn : w0.heap.size ≤ g) : BX w0.heap.size r w0 w' := h.trans (BX.ofGrown hg h.size (fun k hk => by cases hk; exact .inr hn))
theorem BX.put {w0 w w' : World} {b : Nat} (h : BX w0.heap.size (some b) w0 w) (hg : w.grownBy w' (some b)) : BX w0.heap.size (some b) w0 w' := h.trans (BX.ofGrown hg h.size (fun k hk => .inl hk))
def HOk (w : World) (M : Bs → Option EntV) (H : Bs → Option ObjV) : Prop := ∀ id x, H id = some x → RB w x.2 x.1.1 ∧ ∃ n d, depthGo (entAt M) n (entAt M id) = some d ∧ chainGo (entAt M) (d + 1) id = some x.1
theorem HOk.keep {w w' : World} {M : Bs → Option EntV} {H : Bs → Option ObjV} (h : HOk w M H) (k : Ext w w') : HOk w' M H := fun a c hc => ⟨(h a c hc).1.keep k, (h a c hc).2⟩
theorem HOk.keepN {w w' : World} {b : Nat} {M : Bs → Option EntV} {H : Bs → Option ObjV} (h : HOk w M H) (hm : NoB8 w b) (hg : w.grownBy w' (some b)) : HOk w' M H := fun a c hc => ⟨(h a c hc).1.keepN hm hg, (h a c hc).2⟩
theorem HOk.nil {w : World} {M : Bs → Option EntV} : HOk w M (fun _ => none) := fun _ _ h => by cases h
theorem HOk.put {w : World} {M : Bs → Option EntV} {H : Bs → Option ObjV} (h : HOk w M H) {id : Bs} {x : ObjV} (h1 : RB w x.2 x.1.1) {n d : Nat} (h2 : depthGo (entAt M) n (entAt M id) = some d) (h3 : chainGo (entAt M) (d + 1) id = some x.1) : HOk w M (updM H id (some x)) := fun a c hc => by
  unfold updM at hc
  split at hc
  · rename_i e
    cases hc
    subst e
    exact ⟨h1, n, d, h2, h3⟩
  · exact h a c hc
section
variable {E : Bs → Ent}
theorem depthGo_uniq {n m : Nat} {e : Ent} {d d' : Nat} (h : depthGo E n e = some d) (h' : depthGo E m e = some d') : d = d' := by
  have h1 := depthGo_same n (max d d') e d h (Nat.le_max_left _ _)
  have h2 := depthGo_same m (max d d') e d' h' (Nat.le_max_right _ _)
  rw [h1] at h2
  cases h2
  rfl
theorem depthGo_base {n : Nat} {e : Ent} {d : Nat} (hb : e.based = true) (h : depthGo E n e = some d) : ∃ n' d', d = d' + 1 ∧ depthGo E n' (E e.base) = some d' := by
  cases n with
  | zero => rw [depthGo_zero hb] at h; cases h
  | succ n =>
    rw [depthGo_step hb] at h
    cases h1 : depthGo E n (E e.base) with
    | none => rw [h1] at h; cases h
    | some d1 => rw [h1] at h; cases h; exact ⟨n, d1, rfl, h1⟩
theorem chainGo_based {n : Nat} {id : Bs} (hb : (E id).based = true) : chainGo E (n + 1) id = (chainGo E n (E id).base).bind fun x => if (applyP x.1 (E id).bytes).2 = 0 then (if (applyP x.1 (E id).bytes).1.length ≤ 262144 then some ((applyP x.1 (E id).bytes).1, x.2 + 1) else none) else none := by
  show (if _ = true then _ else _) = _
  rw [if_pos hb]
theorem chainGo_flat {n : Nat} {id : Bs} (hb : (E id).based = false) : chainGo E (n + 1) id = if (E id).bytes.length ≤ 262144 then some ((E id).bytes, 0) else none := by
  show (if _ = true then _ else _) = _
  rw [if_neg (by rw [hb]; decide)]
theorem chainGo_le : ∀ {n : Nat} {id : Bs} {b : Bs} {k : Nat}, chainGo E n id = some (b, k) → b.length ≤ 262144 ∧ k < n
  | 0, _, _, _, h => by cases h
  | n + 1, id, b, k, h => by
    cases hb : (E id).based with
    | false =>
      rw [chainGo_flat hb] at h
      split at h
      · cases h; exact ⟨‹_›, Nat.succ_pos _⟩
      · cases h
    | true =>
      rw [chainGo_based hb] at h
      cases h1 : chainGo E n (E id).base with
      | none => rw [h1] at h; cases h
      | some x =>
        rw [h1] at h
        have h2 : (if (applyP x.1 (E id).bytes).2 = 0 then (if (applyP x.1 (E id).bytes).1.length ≤ 262144 then some ((applyP x.1 (E id).bytes).1, x.2 + 1) else none) else none) = some (b, k) := h
        split at h2
        · split at h2
          · cases h2
            have := chainGo_le (b := x.1) (k := x.2) h1
            exact ⟨‹_›, by omega⟩
          · cases h2
        · cases h2
end
open Go.RowKit
set_option maxRecDepth 100000
theorem pk18_isz81 : (Tryd.prog.info? 81).map (·.size) = some 2 := by kernel_rfl
theorem pk18_al81 {d : Option Tmp} {ty : TypeId} {pos : String} {af : Array Edge} {gd : Option (Nat × Bool)} (σ : Operand → Value) (w : World) : (execOp σ ⟨d, .alloc 81, ty, pos, af, gd⟩).run Tryd.prog w = .ok (.value (PQ w.heap.size 0)) (w.alloc (.cells ([(Value.slice none 0 0), NI 0]).toArray 81)) := by kernel_rfl
theorem pk18_fo120_1 : FieldOff Tryd.prog 120 1 1 := fun b o w => by simp [go_sem]
theorem pk18_ty72 : Tryd.prog.underlying 72 = some (.map 38 81) := by kernel_rfl
theorem pk18_ty38 : Tryd.prog.underlying 38 = some (.array 32 5) := by kernel_rfl
theorem pk18_fo120_0 : FieldOff Tryd.prog 120 0 0 := fun b o w => by simp [go_sem]
theorem pk18_ty112 : Tryd.prog.underlying 112 = some (.map 38 116) := by kernel_rfl
theorem pk18_al116 {d : Option Tmp} {ty : TypeId} {pos : String} {af : Array Edge} {gd : Option (Nat × Bool)} (σ : Operand → Value) (w : World) : (execOp σ ⟨d, .alloc 116, ty, pos, af, gd⟩).run Tryd.prog w = .ok (.value (PQ w.heap.size 0)) (w.alloc (.cells (entC dEnt).toArray 116)) := by kernel_rfl
theorem pk18_isz116 : (Tryd.prog.info? 116).map (·.size) = some 35 := by kernel_rfl
theorem pk18_fo116_3 : FieldOff Tryd.prog 116 3 34 := fun b o w => by simp [go_sem]
theorem pk18_ty24 : Tryd.prog.underlying 24 = some (.slice 5) := by kernel_rfl
theorem pk18_bd81s_0 {z0 : Value} (h0 : ∃ ao n c, z0 = .slice ao n c) (w : World) : (Instr.build 81 #[(0, z0)]).run Tryd.prog w = .ok (.agg ([z0, NI 0] : List Value).toArray) w := by obtain ⟨_, _, _, rfl⟩ := h0; kernel_rfl
theorem pk18_fo116_1 : FieldOff Tryd.prog 116 1 1 := fun b o w => by simp [go_sem]
theorem pk18_ty4 : Tryd.prog.underlying 4 = some (.bool) := by kernel_rfl
theorem pk18_fo81_0 : FieldOff Tryd.prog 81 0 0 := fun b o w => by simp [go_sem]
theorem pk18_pl64 : Plain Tryd.prog 64 := fun _ _ => by kernel_rfl
theorem pk18_ty81 : ∃ fs, Tryd.prog.underlying 81 = some (.struct fs) := struct_of (by kernel_rfl)
theorem pk18_fo116_2 : FieldOff Tryd.prog 116 2 2 := fun b o w => by simp [go_sem]
theorem pk18_isz38 : (Tryd.prog.info? 38).map (·.size) = some 32 := by kernel_rfl
theorem pk18_pl68 : Plain Tryd.prog 68 := fun _ _ => by kernel_rfl
theorem pk18_pl77 : Plain Tryd.prog 77 := fun _ _ => by kernel_rfl
theorem pk18_fo81_1 : FieldOff Tryd.prog 81 1 1 := fun b o w => by simp [go_sem]
theorem pk18_ty3 : Tryd.prog.underlying 3 = some (.int .i64) := by kernel_rfl
theorem pk18_bd81si_01 {z0 : Value} (h0 : ∃ ao n c, z0 = .slice ao n c) (z1 : Int) (w : World) : (Instr.build 81 #[(0, z0), (1, .int .i64 z1)]).run Tryd.prog w = .ok (.agg ([z0, .int .i64 z1] : List Value).toArray) w := by obtain ⟨_, _, _, rfl⟩ := h0; kernel_rfl
set_option maxHeartbeats 1600000
theorem pmake_step (gm be bm : Nat) (M : Bs → Option EntV) (d : Nat) (ih : ∀ d1, d1 < d → ∀ (w : World) (H : Bs → Option ObjV) (id : Bs) (hmk : w.heap[gm]? = some (.cells ([.map (some be), .map (some bm)]).toArray 120 (0, 0))) (hme : MapF rk entV (fun id : List UInt8 => id.length = 32) w be M) (hmm : MapF rk objV (fun id : List UInt8 => id.length = 32) w bm H) (hMO : MOk w M) (hHO : HOk w M H) (hne : be ≠ bm) (hid : id.length = 32) (hd50 : d1 ≤ 50) (n0 : Nat) (hdp : depthGo (entAt M) n0 (entAt M id) = some d1), Calls Tryd.prog 68 #[PQ gm 0, AB id] w fun r w' => (∃ x, r = .returned x ∧ ∃ v b k H', x = .agg ([v, NI k]).toArray ∧ chainGo (entAt M) (d1 + 1) id = some (b, k) ∧ RB w' v b ∧ MapF rk objV (fun id : List UInt8 => id.length = 32) w' bm H' ∧ HOk w' M H' ∧ BX w.heap.size (some bm) w w') ∨ ∃ ch, r = .panicked ch ∧ chainGo (entAt M) (d1 + 1) id = none ∧ ch = [stopE 6] ∧ BX w.heap.size (some bm) w w') (w : World) (H : Bs → Option ObjV) (id : Bs) (hmk : w.heap[gm]? = some (.cells ([.map (some be), .map (some bm)]).toArray 120 (0, 0))) (hme : MapF rk entV (fun id : List UInt8 => id.length = 32) w be M) (hmm : MapF rk objV (fun id : List UInt8 => id.length = 32) w bm H) (hMO : MOk w M) (hHO : HOk w M H) (hne : be ≠ bm) (hid : id.length = 32) (hd50 : d ≤ 50) (n0 : Nat) (hdp : depthGo (entAt M) n0 (entAt M id) = some d) :
  Calls Tryd.prog 68 #[PQ gm 0, AB id] w fun r w' => (∃ x, r = .returned x ∧ ∃ v b k H', x = .agg ([v, NI k]).toArray ∧ chainGo (entAt M) (d + 1) id = some (b, k) ∧ RB w' v b ∧ MapF rk objV (fun id : List UInt8 => id.length = 32) w' bm H' ∧ HOk w' M H' ∧ BX w.heap.size (some bm) w w') ∨ ∃ ch, r = .panicked ch ∧ chainGo (entAt M) (d + 1) id = none ∧ ch = [stopE 6] ∧ BX w.heap.size (some bm) w w' := by
 have hX := BX.refl w.heap.size (some bm) w
 have hgb : gm ≠ bm := fun e => by obtain ⟨es_, c_, h_⟩ := MapF.isMap hmm; rw [← e, hmk] at h_; cases h_
 have hbl := hmm.lt
 have hgl := (bl hmk)
 have hel := hme.lt
 refine calls_of_wpP (args := [PQ gm 0, AB id]) Tryd.func68 rfl 66 rfl (Nat.le_of_ble_eq_true rfl) ?_
 intro ρ0 hb
 have T0 : ρ0 0 = (PQ gm 0 : Value) := hb.get 0
 have T1 : ρ0 1 = (AB id : Value) := hb.get 1
 clear hb
 have hE := Ext.refl w
 refine sk fun K1 hK1 => (wt (oS rfl (Yk.box (cs := (Lib.byteCells id : List Value).toArray) T1 fun n2 w3 hn4 hb5 hx6 hs7 => ?_)))
 have hlt8 := lte (bl hmk) hn4
 have hlt9 := lte hme.lt hn4
 have hlt10 := lte hmm.lt hn4
 have hmk := eb hx6 hmk
 have hme := hme.keep hx6
 have hmm := hmm.keep hx6
 have hE := hE.trans hx6
 have hb11 := hb5; clear hb5
 have hl12 : n2 < w3.heap.size := by omega
 refine oS rfl (Yk.alloc (cs := ([(Value.slice none 0 0), NI 0]).toArray) pk18_al81 fun n13 w14 hn15 hb16 hx17 hs18 => ?_)
 have hA19 := Ext.refl w3
 have hea20 := hE
 have hz21 := hE.size
 have hlt22 := lte (bl hmk) hn15
 have hlt23 := lte hme.lt hn15
 have hlt24 := lte hmm.lt hn15
 have hlt25 := lte (bl hb11) hn15
 have hmk := eb hx17 hmk
 have hme := hme.keep hx17
 have hmm := hmm.keep hx17
 have hE := hE.trans hx17
 have hb11 := eb hx17 hb11
 have hA19 := hA19.trans hx17
 have hb26 := hb16; clear hb16
 have hl27 : n13 < w14.heap.size := by omega
 refine oZ ?_
 rcases hH : H id with _ | x
 ·rcases hb : (entAt M id).based with _ | _
  ·have hcg := chainGo_flat (n := d) (E := entAt M) hb
   have hbx : ((M (id)).getD dEnt).1.based = false := hb
   refine tN (hK1 _ _ (sk fun K28 hK28 => (sk fun K29 hK29 => ?_)))
   have hA30 := Ext.refl w14
   have hea31 := hE
   have hea32 := hA19
   have hz33 := hE.size
   have hz34 := hA19.size
   have hlt35 : gm < w14.heap.size := (bl hmk)
   have hlt36 : be < w14.heap.size := hme.lt
   have hlt37 : bm < w14.heap.size := hmm.lt
   have hlt38 : n2 < w14.heap.size := (bl hb11)
   have hlt39 : n13 < w14.heap.size := (bl hb26)
   refine wpF_draw_new 9 10 11 81 ([(Value.slice none 0 0), NI 0]).toArray ([(Value.slice none 0 0), NI 0]).toArray [Is (PQ gm 0), Is (PQ gm 0), Is (PQ gm 1), Is (.map (some bm)), Is (AB id), Is (.tuple #[.agg ([(Value.slice none 0 0), NI 0]).toArray, .bool (false)]), Is (.tuple #[.agg ([(Value.slice none 0 0), NI 0]).toArray, .bool (false)]), Is (.agg ([(Value.slice none 0 0), NI 0]).toArray), Is (.bool (false)), fun x w' => x = PQ w14.heap.size 0 ∧ w14.heap.size < w'.heap.size, (fun _ _ => True)] (by kernel_rfl) [13, 14, 15, 16, 17, 18, 12, 19, 20, 5, 6] (by kernel_rfl) (by kernel_rfl) (by kernel_rfl) (by kernel_rfl) rfl rfl (by kernel_rfl) rfl rfl rfl rfl rfl (si9 ⟨(fun _ _ _ h k => k.elim (fun e => e ▸ h) (fun e => ⟨h.1, e⟩)), Stab.any, trivial⟩) ?hs1001 ?hQ1001
   case hs1001 =>
    refine ⟨?_, ?_, ?_, ?_, ?_, ?_, ?_, ?_, ?_, ?_, ?_, ?_, trivial⟩
    ·refine stepFC (stepN rfl fun σ w1 hC h => ?_)
     have hC : Ext w14 w1 := hC
     have e0 := (eqo (h 0 (by decide))).trans T0
     exact Yk.move e0 ⟨rfl, rfl⟩
    ·refine stepFC (stepN rfl fun σ w1 hC h => ?_)
     have hC : Ext w14 w1 := hC
     have e13 := eqo (h 13 (by decide))
     exact Yk.nilCheck e13 ⟨rfl, rfl⟩
    ·refine stepFC (stepN rfl fun σ w1 hC h => ?_)
     have hC : Ext w14 w1 := hC
     have e14 := eqo (h 14 (by decide))
     exact Yk.fieldAt pk18_fo120_1 e14 ⟨rfl, rfl⟩
    ·refine stepFC (stepN rfl fun σ w1 hC h => ?_)
     have hC : Ext w14 w1 := hC
     have e15 := eqo (h 15 (by decide))
     exact Yk.cell1 pk18_ty72 rfl e15 (cellAt (eb hC hmk) (show _ = some (.map (some bm) : Value) from rfl)) ⟨rfl, rfl⟩
    ·refine stepFC (stepN rfl fun σ w1 hC h => ?_)
     have hC : Ext w14 w1 := hC
     have e3 : σ 3 = PQ n2 0 := (eqo (h 3 (by decide))).trans rfl
     exact Yk.loadAll e3 (eb hC hb11) pk18_ty38 rfl (by exact sizeId_of hid) ⟨rfl, rfl⟩
    ·refine stepFC (stepN rfl fun σ w1 hC h => ?_)
     have hC : Ext w14 w1 := hC
     have e16 := eqo (h 16 (by decide))
     have e17 := eqo (h 17 (by decide))
     exact Yk.lookOkN (ek := rk) (ev := objV) (D := (fun id : List UInt8 => id.length = 32)) idLaw id_ok (fun _ _ => rk_inj) pk18_ty72 (z := objV dObj) zeroObj e16 e17 (hmm.keep hC) hid hH ⟨rfl, rfl⟩
    ·refine stepFC (stepN rfl fun σ w1 hC h => ?_)
     have hC : Ext w14 w1 := hC
     have e18 := eqo (h 18 (by decide))
     exact Yk.move e18 ⟨rfl, rfl⟩
    ·refine stepFC (stepN rfl fun σ w1 hC h => ?_)
     have hC : Ext w14 w1 := hC
     have e12 := eqo (h 12 (by decide))
     exact Yk.extract (vs := [.agg ([(Value.slice none 0 0), NI 0]).toArray, .bool (false)]) e12 (show _ = some (.agg ([(Value.slice none 0 0), NI 0]).toArray : Value) from rfl) ⟨rfl, rfl⟩
    ·refine stepFC (stepN rfl fun σ w1 hC h => ?_)
     have hC : Ext w14 w1 := hC
     have e12 := eqo (h 12 (by decide))
     exact Yk.extract (vs := [.agg ([(Value.slice none 0 0), NI 0]).toArray, .bool (false)]) e12 (show _ = some (.bool (false) : Value) from rfl) ⟨rfl, rfl⟩
    ·refine stepFC (stepN rfl fun σ w1 hC h => ?_)
     have hC : w1 = World.drew w14 := hC
     subst hC
     exact Yk.allocX pk18_al81 ⟨rfl, rfl, by simp⟩
    ·refine stepFC (stepN rfl fun σ w1 hC h => ?_)
     have e5 : (fun x w' => x = PQ w14.heap.size 0 ∧ w14.heap.size < w'.heap.size) (σ 5) w1 := h 5 (by decide)
     have e19 := eqo (h 19 (by decide))
     rcases (show w1 = World.drew w14 ∨ w1 = (World.drew w14).alloc (.cells ([(Value.slice none 0 0), NI 0]).toArray 81) from hC) with hC | hC
     ·subst hC; exact absurd e5.2 (Nat.lt_irrefl _)
     ·subst hC
      exact Yk.storeAll e5.1 e19 (heap_alloc_new _ _) rfl (show (Tryd.prog.info? 81).map (·.size) = some 2 from pk18_isz81) (obj_one rfl) fun w2 h1 h2 h3 => ⟨⟨h1, row_fresh ((Below.refl _ _).drew.alloc (Nat.le_refl _) _) h2 (Nat.le_refl _), by rw [h3]; simp⟩, trivial⟩
    ·exact trivial
   intro ρ40 w41 hx42 hb43 hs44 he hf
   obtain ⟨-, -, -, -, -, -, -, -, k20, k5, -⟩ := hf
   obtain ⟨T0, T1, T3, T4, -⟩ := he.hold [(0, _), (1, _), (3, PQ n2 0), (4, PQ n13 0)] ⟨T0, T1, rfl, rfl, trivial⟩ rfl
   clear he
   have hmk := eb hx42 hmk
   have hme := hme.keep hx42
   have hmm := hmm.keep hx42
   have hE := hE.trans hx42
   have hb11 := eb hx42 hb11
   have hA19 := hA19.trans hx42
   have hb26 := eb hx42 hb26
   have hA30 := hA30.trans hx42
   obtain ⟨n45, hn46⟩ : ∃ g, w14.heap.size = g := ⟨_, rfl⟩
   have T5 : ρ40 5 = _ := (show (fun x w' => x = PQ w14.heap.size 0 ∧ w14.heap.size < w'.heap.size) (ρ40 5) w41 from k5).1
   rw [hn46] at T5 hb43 hs44; clear k5
   have hl47 : n45 < w41.heap.size := by omega
   have T20 : ρ40 20 = .bool (false) := k20
   clear k20
   refine oA rfl (oZ (tN (hK29 _ _ (sk fun K48 hK48 => (wt (oM rfl (oZ (tN (hK48 _ _ (wpF_false T20 (wpF_skip (tN (hK28 _ _ (sk fun K49 hK49 => ?_))))))))))))))
   have hA50 := Ext.refl w41
   have hea51 := hE
   have hea52 := hA19
   have hea53 := hA30
   have hz54 := hE.size
   have hz55 := hA19.size
   have hz56 := hA30.size
   have hlt57 : gm < w41.heap.size := (bl hmk)
   have hlt58 : be < w41.heap.size := hme.lt
   have hlt59 : bm < w41.heap.size := hmm.lt
   have hlt60 : n2 < w41.heap.size := (bl hb11)
   have hlt61 : n13 < w41.heap.size := (bl hb26)
   have hlt62 : n45 < w41.heap.size := (bl hb43)
   refine wpF_draw_cut 7 [Is (PQ gm 0), Is (PQ gm 0), Is (PQ gm 0), Is (.map (some be)), Is (AB id), Is (.agg (entC ((M (id)).getD dEnt)).toArray), fun x w' => ∃ g, x = PQ g 0 ∧ w'.heap[g]? = some (.cells (entC dEnt).toArray 116 (0, 0)) ∧ w41.heap.size ≤ g] (by kernel_rfl) [23, 24, 25, 26, 27, 28, 7] (by kernel_rfl) (by kernel_rfl) (by kernel_rfl) (by kernel_rfl) rfl rfl (si6 ⟨(fun _ _ _ ⟨g, h1, h2, h3⟩ k => ⟨g, h1, eb k h2, h3⟩), trivial⟩) ?hs2004 ?hQ2004
   case hs2004 =>
    refine ⟨?_, ?_, ?_, ?_, ?_, ?_, ?_, ?_, trivial⟩
    ·refine stepFC (stepN rfl fun σ w1 hC h => ?_)
     have e0 := (eqo (h 0 (by decide))).trans T0
     exact Yk.move e0 ⟨Ext.refl _, rfl⟩
    ·refine stepFC (stepN rfl fun σ w1 hC h => ?_)
     have e23 := eqo (h 23 (by decide))
     exact Yk.nilCheck e23 ⟨Ext.refl _, rfl⟩
    ·refine stepFC (stepN rfl fun σ w1 hC h => ?_)
     have e24 := eqo (h 24 (by decide))
     exact Yk.fieldAt pk18_fo120_0 e24 ⟨Ext.refl _, rfl⟩
    ·refine stepFC (stepN rfl fun σ w1 hC h => ?_)
     have e25 := eqo (h 25 (by decide))
     exact Yk.cell1 pk18_ty112 rfl e25 (cellAt (eb hC hmk) (show _ = some (.map (some be) : Value) from rfl)) ⟨Ext.refl _, rfl⟩
    ·refine stepFC (stepN rfl fun σ w1 hC h => ?_)
     have e3 := (eqo (h 3 (by decide))).trans T3
     exact Yk.loadAll e3 (eb hC hb11) pk18_ty38 rfl (by exact sizeId_of hid) ⟨Ext.refl _, rfl⟩
    ·refine stepFC (stepN rfl fun σ w1 hC h => ?_)
     have e26 := eqo (h 26 (by decide))
     have e27 := eqo (h 27 (by decide))
     exact Yk.lookD (ek := rk) (ev := entV) (D := (fun id : List UInt8 => id.length = 32)) (df := dEnt) idLaw id_ok (fun _ _ => rk_inj) pk18_ty112 zeroEnt e26 e27 (hme.keep hC) hid ⟨Ext.refl _, rfl⟩
    ·refine stepFC (stepN rfl fun σ w1 hC h => ?_)
     exact Yk.alloc (cs := (entC dEnt).toArray) pk18_al116 fun g w2 hn hb hx hs => ⟨hx, g, rfl, hb, Nat.le_trans (show Ext w41 w1 from hC).size (Nat.le_of_eq hn)⟩
    ·exact trivial
   intro ρ64 w65 hx66 he hf
   obtain ⟨-, -, -, -, -, k28, k7, -⟩ := hf
   obtain ⟨T0, T1, T3, T4, T5, T6, T21, -⟩ := he.hold [(0, _), (1, _), (3, _), (4, _), (5, _), (6, _), (21, _)] ⟨T0, T1, T3, T4, T5, T20, T20, trivial⟩ rfl
   clear he
   have hmk := eb hx66 hmk
   have hme := hme.keep hx66
   have hmm := hmm.keep hx66
   have hE := hE.trans hx66
   have hb11 := eb hx66 hb11
   have hA19 := hA19.trans hx66
   have hb26 := eb hx66 hb26
   have hA30 := hA30.trans hx66
   have hb43 := eb hx66 hb43
   have hA50 := hA50.trans hx66
   have T28 : ρ64 28 = .agg (entC ((M (id)).getD dEnt)).toArray := k28
   have k7 : (fun x w' => ∃ g, x = PQ g 0 ∧ w'.heap[g]? = some (.cells (entC dEnt).toArray 116 (0, 0)) ∧ w41.heap.size ≤ g) (ρ64 7) w65 := k7
   obtain ⟨v67, T7⟩ : ∃ v, ρ64 7 = v := ⟨_, rfl⟩
   rw [T7] at k7
   have hk68 := k7; clear k7
   obtain ⟨n69, rfl, hb70, hn71⟩ := hk68
   have hl72 := bl hb70
   clear k28
   refine oS rfl (Yk.storeAll T7 T28 hb70 (entC_size (x := (((M (id)).getD dEnt) : EntV)) (y := (dEnt : EntV)) (hMO.get (id)).2.1 (by simp [dEnt])) (entC_isz (x := (((M (id)).getD dEnt) : EntV)) pk18_isz116 (hMO.get (id)).2.1) (entC_one (x := (((M (id)).getD dEnt) : EntV)) (RB.one (hMO.get (id)).1).2) fun w73 hb74 hg75 hs76 => ?_)
   have hmk := kb hg75 hmk (by omega)
   have hme := MapF.other hme hg75 (some_ne (by omega))
   have hmm := MapF.other hmm hg75 (some_ne (by omega))
   have hE := row_fresh hE hg75 (Nat.le_trans hz54 (by omega))
   have hb11 := kb hg75 hb11 (by omega)
   have hA19 := row_fresh hA19 hg75 (Nat.le_trans hz55 (by omega))
   have hb26 := kb hg75 hb26 (by omega)
   have hA30 := row_fresh hA30 hg75 (Nat.le_trans hz56 (by omega))
   have hb43 := kb hg75 hb43 (by omega)
   have hA50 := row_fresh hA50 hg75 (Nat.le_trans (Nat.le_refl _) (by omega))
   clear hb70
   have hb70 := hb74; clear hb74
   have hl77 := bl hb70
   refine oZ (tN (hK49 _ _ (sk fun K78 hK78 => (wt (oS rfl (Yk.fieldAt pk18_fo116_3 T7 ?_))))))
   have hre79 : RB w73 (((M (id)).getD dEnt)).2 (entAt M id).bytes := (MOk.get (hMO.keep hE) id).1
   refine oS rfl (Yk.cell1 pk18_ty24 rfl (vr (PQ n69 34) rfl) (cellAt hb70 (entC_v (x := (((M (id)).getD dEnt) : EntV)) (hMO.get (id)).2.1)) (oS rfl (Yk.build1 (vr ((((M (id)).getD dEnt)).2) rfl) (fun w => pk18_bd81s_0 (RB.slice hre79) w) (oS rfl (Yk.alloc (cs := ([(Value.slice none 0 0), NI 0]).toArray) pk18_al81 fun n80 w81 hn82 hb83 hx84 hs85 => ?_)))))
   have hA86 := Ext.refl w73
   have hea87 := hE
   have hea88 := hA19
   have hea89 := hA30
   have hea90 := hA50
   have hz91 := hE.size
   have hz92 := hA19.size
   have hz93 := hA30.size
   have hz94 := hA50.size
   have hlt95 := lte (bl hmk) hn82
   have hlt96 := lte hme.lt hn82
   have hlt97 := lte hmm.lt hn82
   have hlt98 := lte (bl hb11) hn82
   have hlt99 := lte (bl hb26) hn82
   have hlt100 := lte (bl hb43) hn82
   have hlt101 := lte (bl hb70) hn82
   have hmk := eb hx84 hmk
   have hme := hme.keep hx84
   have hmm := hmm.keep hx84
   have hE := hE.trans hx84
   have hb11 := eb hx84 hb11
   have hA19 := hA19.trans hx84
   have hb26 := eb hx84 hb26
   have hA30 := hA30.trans hx84
   have hb43 := eb hx84 hb43
   have hA50 := hA50.trans hx84
   have hb70 := eb hx84 hb70
   have hA86 := hA86.trans hx84
   have hb102 := hb83; clear hb83
   have hl103 : n80 < w81.heap.size := by omega
   refine oS rfl (Yk.storeAll (vr (PQ n80 0) rfl) (vr (.agg ([(((M (id)).getD dEnt)).2, NI 0]).toArray) rfl) hb102 rfl (show (Tryd.prog.info? 81).map (·.size) = some 2 from pk18_isz81) (obj_one (RB.one (hre79.keep hA86)).2) fun w104 hb105 hg106 hs107 => ?_)
   have hmk := kb hg106 hmk (by omega)
   have hme := MapF.other hme hg106 (some_ne (by omega))
   have hmm := MapF.other hmm hg106 (some_ne (by omega))
   have hE := row_fresh hE hg106 (Nat.le_trans hz91 (by omega))
   have hb11 := kb hg106 hb11 (by omega)
   have hA19 := row_fresh hA19 hg106 (Nat.le_trans hz92 (by omega))
   have hb26 := kb hg106 hb26 (by omega)
   have hA30 := row_fresh hA30 hg106 (Nat.le_trans hz93 (by omega))
   have hb43 := kb hg106 hb43 (by omega)
   have hA50 := row_fresh hA50 hg106 (Nat.le_trans hz94 (by omega))
   have hb70 := kb hg106 hb70 (by omega)
   have hA86 := row_fresh hA86 hg106 (Nat.le_trans (Nat.le_refl _) (by omega))
   clear hb102
   have hb102 := hb105; clear hb105
   have hl108 := bl hb102
   refine oZ (tN (hK78 _ _ (sk fun K109 hK109 => (sk fun K110 hK110 => (wt (oS rfl (Yk.fieldAt pk18_fo116_1 T7 (oS rfl (Yk.cell1 pk18_ty4 rfl (vr (PQ n69 1) rfl) (cellAt hb70 ((show (entC (((M (id)).getD dEnt)))[1]? = some (.bool false : Value) from congrArg (fun b => some (Value.bool b)) hbx))) (oZ (tN (hK110 _ _ (wpF_false (vr (.bool (false)) rfl) (wpF_skip (tN (hK109 _ _ (sk fun K111 hK111 => (wt (oS rfl (Yk.fieldAt pk18_fo81_0 (vr (PQ n80 0) rfl) (oS rfl (Yk.cell1 pk18_ty24 rfl (vr (PQ n80 0) rfl) (cellAt hb102 (show _ = some ((((M (id)).getD dEnt)).2 : Value) from rfl)) ?_))))))))))))))))))))))
   refine oS rfl (Yk.lenRB pk18_ty24 (RB.of (hre79.keep hA86) (vr ((((M (id)).getD dEnt)).2) rfl)) (oS rfl (Yk.eqI (a := (((entAt M id).bytes : List UInt8).length : Nat)) (b := (262144 : Nat)) rfl rfl (k_leq _ _ _ _) (oP rfl (Yp.callA2 pk18_pl64 (vr (.bool (decide ((((entAt M id).bytes : List UInt8).length) ≤ (262144)))) rfl) (vr (NI 6) rfl) ?_)))))
   refine calls_either (need_any _ (decide ((((entAt M id).bytes : List UInt8).length) ≤ (262144))) 6) ?_ ?_
   rotate_left
   ·
    rintro ch w114 ⟨rfl, hb, hx⟩
    refine thenF_panic (postP_panic ?_)
    have hno := of_decide_eq_false hb
    refine .inr ⟨_, rfl, ?_, rfl, (BX.keep (hX.keep hE) hx)⟩
    rw [hcg]
    exact if_neg hno
   rintro v_ w116 ⟨rfl, hb112, hx113⟩
   have hmk := eb hx113 hmk
   have hme := hme.keep hx113
   have hmm := hmm.keep hx113
   have hE := hE.trans hx113
   have hb11 := eb hx113 hb11
   have hA19 := hA19.trans hx113
   have hb26 := eb hx113 hb26
   have hA30 := hA30.trans hx113
   have hb43 := eb hx113 hb43
   have hA50 := hA50.trans hx113
   have hb70 := eb hx113 hb70
   have hA86 := hA86.trans hx113
   have hb102 := eb hx113 hb102
   have hn117 := of_decide_eq_true hb112
   refine oZ ?_
   have hcf : chainGo (entAt M) (d + 1) id = some ((entAt M id).bytes, 0) := hcg.trans (if_pos hn117)
   refine tN (hK111 _ _ (sk fun K118 hK118 => ?_))
   refine wpF_draw_cut 6 [Is (PQ gm 0), Is (PQ gm 0), Is (PQ gm 1), Is (.map (some bm)), Is (AB id), Is (.agg ([(((M (id)).getD dEnt)).2, NI 0]).toArray)] (by kernel_rfl) [59, 60, 61, 62, 63, 64] (by kernel_rfl) (by kernel_rfl) (by kernel_rfl) (by kernel_rfl) rfl rfl (si6 trivial) ?hs3012 ?hQ3012
   case hs3012 =>
    refine ⟨?_, ?_, ?_, ?_, ?_, ?_, ?_, trivial⟩
    ·refine stepFC (stepN rfl fun σ w1 hC h => ?_)
     have e0 := (eqo (h 0 (by decide))).trans T0
     exact Yk.move e0 ⟨Ext.refl _, rfl⟩
    ·refine stepFC (stepN rfl fun σ w1 hC h => ?_)
     have e59 := eqo (h 59 (by decide))
     exact Yk.nilCheck e59 ⟨Ext.refl _, rfl⟩
    ·refine stepFC (stepN rfl fun σ w1 hC h => ?_)
     have e60 := eqo (h 60 (by decide))
     exact Yk.fieldAt pk18_fo120_1 e60 ⟨Ext.refl _, rfl⟩
    ·refine stepFC (stepN rfl fun σ w1 hC h => ?_)
     have e61 := eqo (h 61 (by decide))
     exact Yk.cell1 pk18_ty72 rfl e61 (cellAt (eb hC hmk) (show _ = some (.map (some bm) : Value) from rfl)) ⟨Ext.refl _, rfl⟩
    ·refine stepFC (stepN rfl fun σ w1 hC h => ?_)
     have e3 := (eqo (h 3 (by decide))).trans T3
     exact Yk.loadAll e3 (eb hC hb11) pk18_ty38 rfl (by exact sizeId_of hid) ⟨Ext.refl _, rfl⟩
    ·refine stepFC (stepN rfl fun σ w1 hC h => ?_)
     have e8 : σ 8 = PQ n80 0 := (eqo (h 8 (by decide))).trans rfl
     exact Yk.loadAll e8 (eb hC hb102) (pk18_ty81).choose_spec rfl (show (Tryd.prog.info? 81).map (·.size) = some 2 from pk18_isz81) ⟨Ext.refl _, rfl⟩
    ·exact trivial
   intro ρ119 w120 hx121 he hf
   obtain ⟨-, -, -, k62, k63, k64, -⟩ := hf
   obtain ⟨T0, T1, T3, T4, T5, T6, T7, T8, T21, T33, -⟩ := he.hold [(0, _), (1, _), (3, _), (4, _), (5, _), (6, _), (7, _), (8, PQ n80 0), (21, _), (33, .bool (false))] ⟨T0, T1, T3, T4, T5, T6, T7, rfl, T21, rfl, trivial⟩ rfl
   clear he
   have hmk := eb hx121 hmk
   have hme := hme.keep hx121
   have hmm := hmm.keep hx121
   have hE := hE.trans hx121
   have hb11 := eb hx121 hb11
   have hA19 := hA19.trans hx121
   have hb26 := eb hx121 hb26
   have hA30 := hA30.trans hx121
   have hb43 := eb hx121 hb43
   have hA50 := hA50.trans hx121
   have hb70 := eb hx121 hb70
   have hA86 := hA86.trans hx121
   have hb102 := eb hx121 hb102
   have T62 : ρ119 62 = .map (some bm) := k62
   have T63 : ρ119 63 = AB id := k63
   have T64 : ρ119 64 = .agg ([(((M (id)).getD dEnt)).2, NI 0]).toArray := k64
   clear k62 k63 k64
   refine oS rfl (Yk.putM (ek := rk) (ev := objV) (D := (fun id : List UInt8 => id.length = 32)) (c := ((((entAt M id).bytes, 0), (((M (id)).getD dEnt)).2) : ObjV)) idLaw id_ok pk18_ty72 T62 T63 T64 hmm hid fun w122 hb123 hg124 hs125 => ?_)
   have hP := HOk.put (hHO.keep hE) (id := id) (x := ((((entAt M id).bytes, 0), (((M (id)).getD dEnt)).2) : ObjV)) (hre79.keep hA86) hdp hcf
   have hm126 : NoB8 w120 bm := (MapF.isMap hmm).noB8
   have hX : BX w.heap.size (some bm) w w122 := BX.put (hX.keep hE) hg124
   have hmk : w122.heap[gm]? = some (.cells ([.map (some be), .map (some bm)]).toArray 120 (0, 0)) := kb hg124 hmk (by omega)
   have hme : MapF rk entV (fun id : List UInt8 => id.length = 32) w122 be M := MapF.other hme hg124 (some_ne (by omega))
   clear hmm
   have hMO : MOk w122 M := (hMO.keep hE).keepN hm126 hg124
   have hb11 : w122.heap[n2]? = some (.cells (Lib.byteCells id).toArray 38 (0, 0)) := kb hg124 hb11 (by omega)
   have hb26 : w122.heap[n13]? = some (.cells ([(Value.slice none 0 0), NI 0]).toArray 81 (0, 0)) := kb hg124 hb26 (by omega)
   have hb43 : w122.heap[n45]? = some (.cells ([(Value.slice none 0 0), NI 0]).toArray 81 (0, 0)) := kb hg124 hb43 (by omega)
   have hb70 : w122.heap[n69]? = some (.cells (entC (((M (id)).getD dEnt))).toArray 116 (0, 0)) := kb hg124 hb70 (by omega)
   have hre79 : RB w122 (((M (id)).getD dEnt)).2 (entAt M id).bytes := (hre79.keep hA86).keepN hm126 hg124
   have hb102 : w122.heap[n80]? = some (.cells ([(((M (id)).getD dEnt)).2, NI 0]).toArray 81 (0, 0)) := kb hg124 hb102 (by omega)
   have hP : HOk w122 M (updM H (id) (some (((((entAt M id).bytes, 0), (((M (id)).getD dEnt)).2) : ObjV)))) := hP.keepN hm126 hg124
   have hE127 := Ext.refl w122
   have hz128 := hX.size
   refine oZ (tN (hK118 _ _ (sk fun K129 hK129 => (wt (oS rfl (Yk.loadAll T8 hb102 (pk18_ty81).choose_spec rfl (show (Tryd.prog.info? 81).map (·.size) = some 2 from pk18_isz81) (oS rfl (Yk.storeAll T4 (vr (.agg ([(((M (id)).getD dEnt)).2, NI 0]).toArray) rfl) hb26 rfl (show (Tryd.prog.info? 81).map (·.size) = some 2 from pk18_isz81) (obj_one (RB.one hre79).2) fun w130 hb131 hg132 hs133 => ?_))))))))
   have hnb_ : NoB8 w122 n13 := obj_noB8 hb26 ⟨_, _, _, rfl⟩
   have hX : BX w.heap.size (some bm) w w130 := BX.set hX hg132 (by omega)
   have hmk := kb hg132 hmk (by omega)
   have hme := MapF.other hme hg132 (some_ne (by omega))
   have hMO : MOk w130 M := hMO.keepN hnb_ hg132
   have hb11 := kb hg132 hb11 (by omega)
   clear hb26
   have hb43 := kb hg132 hb43 (by omega)
   have hb70 := kb hg132 hb70 (by omega)
   have hre79 : RB w130 (((M (id)).getD dEnt)).2 (entAt M id).bytes := hre79.keepN hnb_ hg132
   have hb102 := kb hg132 hb102 (by omega)
   have hP : HOk w130 M (updM H (id) (some (((((entAt M id).bytes, 0), (((M (id)).getD dEnt)).2) : ObjV)))) := hP.keepN hnb_ hg132
   have hb123 := MapF.other hb123 hg132 (some_ne (by omega))
   have hb26 := hb131; clear hb131
   have hl134 := bl hb26
   have hE135 := Ext.refl w130
   have hz136 := hX.size
   refine oZ (tN (hK129 _ _ (wpF_ret (postP_ret (fn := Tryd.f68) _ rfl [.agg ([(((M (id)).getD dEnt)).2, NI 0]).toArray] (.agg ([(((M (id)).getD dEnt)).2, NI 0]).toArray) rfl ⟨ResF.row T4 hb26 (pk18_ty81).choose_spec rfl ((show (Tryd.prog.info? 81).map (·.size) = some 2 from pk18_isz81)), trivial⟩ ?_))))
   exact .inl ⟨_, rfl, _, _, _, _, rfl, hcf, hre79, hb123, hP, hX⟩
  have hcg := chainGo_based (n := d) (E := entAt M) hb
  have hbx : ((M (id)).getD dEnt).1.based = true := hb
  obtain ⟨na_, d1, hd1, hdp1⟩ := depthGo_base hb hdp
  refine tN (hK1 _ _ (sk fun K137 hK137 => (sk fun K138 hK138 => ?_)))
  have hA139 := Ext.refl w14
  have hea140 := hE
  have hea141 := hA19
  have hz142 := hE.size
  have hz143 := hA19.size
  have hlt144 : gm < w14.heap.size := (bl hmk)
  have hlt145 : be < w14.heap.size := hme.lt
  have hlt146 : bm < w14.heap.size := hmm.lt
  have hlt147 : n2 < w14.heap.size := (bl hb11)
  have hlt148 : n13 < w14.heap.size := (bl hb26)
  refine wpF_draw_new 9 10 11 81 ([(Value.slice none 0 0), NI 0]).toArray ([(Value.slice none 0 0), NI 0]).toArray [Is (PQ gm 0), Is (PQ gm 0), Is (PQ gm 1), Is (.map (some bm)), Is (AB id), Is (.tuple #[.agg ([(Value.slice none 0 0), NI 0]).toArray, .bool (false)]), Is (.tuple #[.agg ([(Value.slice none 0 0), NI 0]).toArray, .bool (false)]), Is (.agg ([(Value.slice none 0 0), NI 0]).toArray), Is (.bool (false)), fun x w' => x = PQ w14.heap.size 0 ∧ w14.heap.size < w'.heap.size, (fun _ _ => True)] (by kernel_rfl) [13, 14, 15, 16, 17, 18, 12, 19, 20, 5, 6] (by kernel_rfl) (by kernel_rfl) (by kernel_rfl) (by kernel_rfl) rfl rfl (by kernel_rfl) rfl rfl rfl rfl rfl (si9 ⟨(fun _ _ _ h k => k.elim (fun e => e ▸ h) (fun e => ⟨h.1, e⟩)), Stab.any, trivial⟩) ?hs4001 ?hQ4001
  case hs4001 =>
   refine ⟨?_, ?_, ?_, ?_, ?_, ?_, ?_, ?_, ?_, ?_, ?_, ?_, trivial⟩
   ·refine stepFC (stepN rfl fun σ w1 hC h => ?_)
    have hC : Ext w14 w1 := hC
    have e0 := (eqo (h 0 (by decide))).trans T0
    exact Yk.move e0 ⟨rfl, rfl⟩
   ·refine stepFC (stepN rfl fun σ w1 hC h => ?_)
    have hC : Ext w14 w1 := hC
    have e13 := eqo (h 13 (by decide))
    exact Yk.nilCheck e13 ⟨rfl, rfl⟩
   ·refine stepFC (stepN rfl fun σ w1 hC h => ?_)
    have hC : Ext w14 w1 := hC
    have e14 := eqo (h 14 (by decide))
    exact Yk.fieldAt pk18_fo120_1 e14 ⟨rfl, rfl⟩
   ·refine stepFC (stepN rfl fun σ w1 hC h => ?_)
    have hC : Ext w14 w1 := hC
    have e15 := eqo (h 15 (by decide))
    exact Yk.cell1 pk18_ty72 rfl e15 (cellAt (eb hC hmk) (show _ = some (.map (some bm) : Value) from rfl)) ⟨rfl, rfl⟩
   ·refine stepFC (stepN rfl fun σ w1 hC h => ?_)
    have hC : Ext w14 w1 := hC
    have e3 : σ 3 = PQ n2 0 := (eqo (h 3 (by decide))).trans rfl
    exact Yk.loadAll e3 (eb hC hb11) pk18_ty38 rfl (by exact sizeId_of hid) ⟨rfl, rfl⟩
   ·refine stepFC (stepN rfl fun σ w1 hC h => ?_)
    have hC : Ext w14 w1 := hC
    have e16 := eqo (h 16 (by decide))
    have e17 := eqo (h 17 (by decide))
    exact Yk.lookOkN (ek := rk) (ev := objV) (D := (fun id : List UInt8 => id.length = 32)) idLaw id_ok (fun _ _ => rk_inj) pk18_ty72 (z := objV dObj) zeroObj e16 e17 (hmm.keep hC) hid hH ⟨rfl, rfl⟩
   ·refine stepFC (stepN rfl fun σ w1 hC h => ?_)
    have hC : Ext w14 w1 := hC
    have e18 := eqo (h 18 (by decide))
    exact Yk.move e18 ⟨rfl, rfl⟩
   ·refine stepFC (stepN rfl fun σ w1 hC h => ?_)
    have hC : Ext w14 w1 := hC
    have e12 := eqo (h 12 (by decide))
    exact Yk.extract (vs := [.agg ([(Value.slice none 0 0), NI 0]).toArray, .bool (false)]) e12 (show _ = some (.agg ([(Value.slice none 0 0), NI 0]).toArray : Value) from rfl) ⟨rfl, rfl⟩
   ·refine stepFC (stepN rfl fun σ w1 hC h => ?_)
    have hC : Ext w14 w1 := hC
    have e12 := eqo (h 12 (by decide))
    exact Yk.extract (vs := [.agg ([(Value.slice none 0 0), NI 0]).toArray, .bool (false)]) e12 (show _ = some (.bool (false) : Value) from rfl) ⟨rfl, rfl⟩
   ·refine stepFC (stepN rfl fun σ w1 hC h => ?_)
    have hC : w1 = World.drew w14 := hC
    subst hC
    exact Yk.allocX pk18_al81 ⟨rfl, rfl, by simp⟩
   ·refine stepFC (stepN rfl fun σ w1 hC h => ?_)
    have e5 : (fun x w' => x = PQ w14.heap.size 0 ∧ w14.heap.size < w'.heap.size) (σ 5) w1 := h 5 (by decide)
    have e19 := eqo (h 19 (by decide))
    rcases (show w1 = World.drew w14 ∨ w1 = (World.drew w14).alloc (.cells ([(Value.slice none 0 0), NI 0]).toArray 81) from hC) with hC | hC
    ·subst hC; exact absurd e5.2 (Nat.lt_irrefl _)
    ·subst hC
     exact Yk.storeAll e5.1 e19 (heap_alloc_new _ _) rfl (show (Tryd.prog.info? 81).map (·.size) = some 2 from pk18_isz81) (obj_one rfl) fun w2 h1 h2 h3 => ⟨⟨h1, row_fresh ((Below.refl _ _).drew.alloc (Nat.le_refl _) _) h2 (Nat.le_refl _), by rw [h3]; simp⟩, trivial⟩
   ·exact trivial
  intro ρ149 w150 hx151 hb152 hs153 he hf
  obtain ⟨-, -, -, -, -, -, -, -, k20, k5, -⟩ := hf
  obtain ⟨T0, T1, T3, T4, -⟩ := he.hold [(0, _), (1, _), (3, PQ n2 0), (4, PQ n13 0)] ⟨T0, T1, rfl, rfl, trivial⟩ rfl
  clear he
  have hmk := eb hx151 hmk
  have hme := hme.keep hx151
  have hmm := hmm.keep hx151
  have hE := hE.trans hx151
  have hb11 := eb hx151 hb11
  have hA19 := hA19.trans hx151
  have hb26 := eb hx151 hb26
  have hA139 := hA139.trans hx151
  obtain ⟨n154, hn155⟩ : ∃ g, w14.heap.size = g := ⟨_, rfl⟩
  have T5 : ρ149 5 = _ := (show (fun x w' => x = PQ w14.heap.size 0 ∧ w14.heap.size < w'.heap.size) (ρ149 5) w150 from k5).1
  rw [hn155] at T5 hb152 hs153; clear k5
  have hl156 : n154 < w150.heap.size := by omega
  have T20 : ρ149 20 = .bool (false) := k20
  clear k20
  refine oA rfl (oZ (tN (hK138 _ _ (sk fun K157 hK157 => (wt (oM rfl (oZ (tN (hK157 _ _ (wpF_false T20 (wpF_skip (tN (hK137 _ _ (sk fun K158 hK158 => ?_))))))))))))))
  have hA159 := Ext.refl w150
  have hea160 := hE
  have hea161 := hA19
  have hea162 := hA139
  have hz163 := hE.size
  have hz164 := hA19.size
  have hz165 := hA139.size
  have hlt166 : gm < w150.heap.size := (bl hmk)
  have hlt167 : be < w150.heap.size := hme.lt
  have hlt168 : bm < w150.heap.size := hmm.lt
  have hlt169 : n2 < w150.heap.size := (bl hb11)
  have hlt170 : n13 < w150.heap.size := (bl hb26)
  have hlt171 : n154 < w150.heap.size := (bl hb152)
  refine wpF_draw_cut 7 [Is (PQ gm 0), Is (PQ gm 0), Is (PQ gm 0), Is (.map (some be)), Is (AB id), Is (.agg (entC ((M (id)).getD dEnt)).toArray), fun x w' => ∃ g, x = PQ g 0 ∧ w'.heap[g]? = some (.cells (entC dEnt).toArray 116 (0, 0)) ∧ w150.heap.size ≤ g] (by kernel_rfl) [23, 24, 25, 26, 27, 28, 7] (by kernel_rfl) (by kernel_rfl) (by kernel_rfl) (by kernel_rfl) rfl rfl (si6 ⟨(fun _ _ _ ⟨g, h1, h2, h3⟩ k => ⟨g, h1, eb k h2, h3⟩), trivial⟩) ?hs5004 ?hQ5004
  case hs5004 =>
   refine ⟨?_, ?_, ?_, ?_, ?_, ?_, ?_, ?_, trivial⟩
   ·refine stepFC (stepN rfl fun σ w1 hC h => ?_)
    have e0 := (eqo (h 0 (by decide))).trans T0
    exact Yk.move e0 ⟨Ext.refl _, rfl⟩
   ·refine stepFC (stepN rfl fun σ w1 hC h => ?_)
    have e23 := eqo (h 23 (by decide))
    exact Yk.nilCheck e23 ⟨Ext.refl _, rfl⟩
   ·refine stepFC (stepN rfl fun σ w1 hC h => ?_)
    have e24 := eqo (h 24 (by decide))
    exact Yk.fieldAt pk18_fo120_0 e24 ⟨Ext.refl _, rfl⟩
   ·refine stepFC (stepN rfl fun σ w1 hC h => ?_)
    have e25 := eqo (h 25 (by decide))
    exact Yk.cell1 pk18_ty112 rfl e25 (cellAt (eb hC hmk) (show _ = some (.map (some be) : Value) from rfl)) ⟨Ext.refl _, rfl⟩
   ·refine stepFC (stepN rfl fun σ w1 hC h => ?_)
    have e3 := (eqo (h 3 (by decide))).trans T3
    exact Yk.loadAll e3 (eb hC hb11) pk18_ty38 rfl (by exact sizeId_of hid) ⟨Ext.refl _, rfl⟩
   ·refine stepFC (stepN rfl fun σ w1 hC h => ?_)
    have e26 := eqo (h 26 (by decide))
    have e27 := eqo (h 27 (by decide))
    exact Yk.lookD (ek := rk) (ev := entV) (D := (fun id : List UInt8 => id.length = 32)) (df := dEnt) idLaw id_ok (fun _ _ => rk_inj) pk18_ty112 zeroEnt e26 e27 (hme.keep hC) hid ⟨Ext.refl _, rfl⟩
   ·refine stepFC (stepN rfl fun σ w1 hC h => ?_)
    exact Yk.alloc (cs := (entC dEnt).toArray) pk18_al116 fun g w2 hn hb hx hs => ⟨hx, g, rfl, hb, Nat.le_trans (show Ext w150 w1 from hC).size (Nat.le_of_eq hn)⟩
   ·exact trivial
  intro ρ173 w174 hx175 he hf
  obtain ⟨-, -, -, -, -, k28, k7, -⟩ := hf
  obtain ⟨T0, T1, T3, T4, T5, T6, T21, -⟩ := he.hold [(0, _), (1, _), (3, _), (4, _), (5, _), (6, _), (21, _)] ⟨T0, T1, T3, T4, T5, T20, T20, trivial⟩ rfl
  clear he
  have hmk := eb hx175 hmk
  have hme := hme.keep hx175
  have hmm := hmm.keep hx175
  have hE := hE.trans hx175
  have hb11 := eb hx175 hb11
  have hA19 := hA19.trans hx175
  have hb26 := eb hx175 hb26
  have hA139 := hA139.trans hx175
  have hb152 := eb hx175 hb152
  have hA159 := hA159.trans hx175
  have T28 : ρ173 28 = .agg (entC ((M (id)).getD dEnt)).toArray := k28
  have k7 : (fun x w' => ∃ g, x = PQ g 0 ∧ w'.heap[g]? = some (.cells (entC dEnt).toArray 116 (0, 0)) ∧ w150.heap.size ≤ g) (ρ173 7) w174 := k7
  obtain ⟨v176, T7⟩ : ∃ v, ρ173 7 = v := ⟨_, rfl⟩
  rw [T7] at k7
  have hk177 := k7; clear k7
  obtain ⟨n178, rfl, hb179, hn180⟩ := hk177
  have hl181 := bl hb179
  clear k28
  refine oS rfl (Yk.storeAll T7 T28 hb179 (entC_size (x := (((M (id)).getD dEnt) : EntV)) (y := (dEnt : EntV)) (hMO.get (id)).2.1 (by simp [dEnt])) (entC_isz (x := (((M (id)).getD dEnt) : EntV)) pk18_isz116 (hMO.get (id)).2.1) (entC_one (x := (((M (id)).getD dEnt) : EntV)) (RB.one (hMO.get (id)).1).2) fun w182 hb183 hg184 hs185 => ?_)
  have hmk := kb hg184 hmk (by omega)
  have hme := MapF.other hme hg184 (some_ne (by omega))
  have hmm := MapF.other hmm hg184 (some_ne (by omega))
  have hE := row_fresh hE hg184 (Nat.le_trans hz163 (by omega))
  have hb11 := kb hg184 hb11 (by omega)
  have hA19 := row_fresh hA19 hg184 (Nat.le_trans hz164 (by omega))
  have hb26 := kb hg184 hb26 (by omega)
  have hA139 := row_fresh hA139 hg184 (Nat.le_trans hz165 (by omega))
  have hb152 := kb hg184 hb152 (by omega)
  have hA159 := row_fresh hA159 hg184 (Nat.le_trans (Nat.le_refl _) (by omega))
  clear hb179
  have hb179 := hb183; clear hb183
  have hl186 := bl hb179
  refine oZ (tN (hK158 _ _ (sk fun K187 hK187 => (wt (oS rfl (Yk.fieldAt pk18_fo116_3 T7 ?_))))))
  have hre188 : RB w182 (((M (id)).getD dEnt)).2 (entAt M id).bytes := (MOk.get (hMO.keep hE) id).1
  refine oS rfl (Yk.cell1 pk18_ty24 rfl (vr (PQ n178 34) rfl) (cellAt hb179 (entC_v (x := (((M (id)).getD dEnt) : EntV)) (hMO.get (id)).2.1)) (oS rfl (Yk.build1 (vr ((((M (id)).getD dEnt)).2) rfl) (fun w => pk18_bd81s_0 (RB.slice hre188) w) (oS rfl (Yk.alloc (cs := ([(Value.slice none 0 0), NI 0]).toArray) pk18_al81 fun n189 w190 hn191 hb192 hx193 hs194 => ?_)))))
  have hA195 := Ext.refl w182
  have hea196 := hE
  have hea197 := hA19
  have hea198 := hA139
  have hea199 := hA159
  have hz200 := hE.size
  have hz201 := hA19.size
  have hz202 := hA139.size
  have hz203 := hA159.size
  have hlt204 := lte (bl hmk) hn191
  have hlt205 := lte hme.lt hn191
  have hlt206 := lte hmm.lt hn191
  have hlt207 := lte (bl hb11) hn191
  have hlt208 := lte (bl hb26) hn191
  have hlt209 := lte (bl hb152) hn191
  have hlt210 := lte (bl hb179) hn191
  have hmk := eb hx193 hmk
  have hme := hme.keep hx193
  have hmm := hmm.keep hx193
  have hE := hE.trans hx193
  have hb11 := eb hx193 hb11
  have hA19 := hA19.trans hx193
  have hb26 := eb hx193 hb26
  have hA139 := hA139.trans hx193
  have hb152 := eb hx193 hb152
  have hA159 := hA159.trans hx193
  have hb179 := eb hx193 hb179
  have hA195 := hA195.trans hx193
  have hb211 := hb192; clear hb192
  have hl212 : n189 < w190.heap.size := by omega
  refine oS rfl (Yk.storeAll (vr (PQ n189 0) rfl) (vr (.agg ([(((M (id)).getD dEnt)).2, NI 0]).toArray) rfl) hb211 rfl (show (Tryd.prog.info? 81).map (·.size) = some 2 from pk18_isz81) (obj_one (RB.one (hre188.keep hA195)).2) fun w213 hb214 hg215 hs216 => ?_)
  have hmk := kb hg215 hmk (by omega)
  have hme := MapF.other hme hg215 (some_ne (by omega))
  have hmm := MapF.other hmm hg215 (some_ne (by omega))
  have hE := row_fresh hE hg215 (Nat.le_trans hz200 (by omega))
  have hb11 := kb hg215 hb11 (by omega)
  have hA19 := row_fresh hA19 hg215 (Nat.le_trans hz201 (by omega))
  have hb26 := kb hg215 hb26 (by omega)
  have hA139 := row_fresh hA139 hg215 (Nat.le_trans hz202 (by omega))
  have hb152 := kb hg215 hb152 (by omega)
  have hA159 := row_fresh hA159 hg215 (Nat.le_trans hz203 (by omega))
  have hb179 := kb hg215 hb179 (by omega)
  have hA195 := row_fresh hA195 hg215 (Nat.le_trans (Nat.le_refl _) (by omega))
  clear hb211
  have hb211 := hb214; clear hb214
  have hl217 := bl hb211
  refine oZ (tN (hK187 _ _ (sk fun K218 hK218 => (sk fun K219 hK219 => (wt (oS rfl (Yk.fieldAt pk18_fo116_1 T7 (oS rfl (Yk.cell1 pk18_ty4 rfl (vr (PQ n178 1) rfl) (cellAt hb179 ((show (entC (((M (id)).getD dEnt)))[1]? = some (.bool true : Value) from congrArg (fun b => some (Value.bool b)) hbx))) (oZ (tN (hK219 _ _ (wpF_true (vr (.bool (true)) rfl) (sk fun K220 hK220 => (wt (oM rfl (oS rfl (Yk.fieldAt pk18_fo116_2 T7 (oS rfl (Yk.loadPart (vr (PQ n178 2) rfl) (entC_range (x := (((M (id)).getD dEnt) : EntV)) hb179) pk18_ty38 rfl (by rw [Lib.byteCells_length, (hMO.get (id)).2.1]; exact pk18_isz38) (oP rfl (Yp.callA2 pk18_pl68 T0 (vr (AB ((((M (id)).getD dEnt)).1.base)) rfl) ?_))))))))))))))))))))))
  refine calls_either (ih d1 (by omega) w213 H ((M (id)).getD dEnt).1.base hmk hme hmm (hMO.keep hE) (hHO.keep hE) hne (MOk.get (hMO.keep hE) id).2.1 (by omega) na_ hdp1) ?_ ?_
  rotate_left
  ·
   rintro ch w231 ⟨hno, rfl, hx⟩
   refine thenF_panic (thenF_panic (postP_panic ?_))
   refine .inr ⟨_, rfl, ?_, rfl, BX.put (hX.keep hE) hx.grown⟩
   rw [hcg, show chainGo (entAt M) d (entAt M id).base = none from by rw [hd1]; exact hno]; rfl
  rintro v_ w233 ⟨v222, bb, kk, H1, rfl, hc230, hr226, hm227, hHO228, hx229⟩
  have hg1 := hx229.grown
  have hm234 : NoB8 w213 bm := (MapF.isMap hmm).noB8
  have hX : BX w.heap.size (some bm) w w233 := BX.put (hX.keep hE) hg1
  have hmk : w233.heap[gm]? = some (.cells ([.map (some be), .map (some bm)]).toArray 120 (0, 0)) := kb hg1 hmk (by omega)
  have hme : MapF rk entV (fun id : List UInt8 => id.length = 32) w233 be M := MapF.other hme hg1 (some_ne (by omega))
  clear hmm
  have hMO : MOk w233 M := (hMO.keep hE).keepN hm234 hg1
  have hHO : HOk w233 M H := (hHO.keep hE).keepN hm234 hg1
  have hb11 : w233.heap[n2]? = some (.cells (Lib.byteCells id).toArray 38 (0, 0)) := kb hg1 hb11 (by omega)
  have hb26 : w233.heap[n13]? = some (.cells ([(Value.slice none 0 0), NI 0]).toArray 81 (0, 0)) := kb hg1 hb26 (by omega)
  have hb152 : w233.heap[n154]? = some (.cells ([(Value.slice none 0 0), NI 0]).toArray 81 (0, 0)) := kb hg1 hb152 (by omega)
  have hb179 : w233.heap[n178]? = some (.cells (entC (((M (id)).getD dEnt))).toArray 116 (0, 0)) := kb hg1 hb179 (by omega)
  have hre188 : RB w233 (((M (id)).getD dEnt)).2 (entAt M id).bytes := (hre188.keep hA195).keepN hm234 hg1
  have hb211 : w233.heap[n189]? = some (.cells ([(((M (id)).getD dEnt)).2, NI 0]).toArray 81 (0, 0)) := kb hg1 hb211 (by omega)
  have hE235 := Ext.refl w233
  have hz236 := hX.size
  have hcl := chainGo_le hc230
  rw [show chainGo (entAt M) d (entAt M id).base = some (bb, kk) from by rw [hd1]; exact hc230] at hcg
  refine oS rfl (Yk.alloc (cs := ([(Value.slice none 0 0), NI 0]).toArray) pk18_al81 fun n237 w238 hn239 hb240 hx241 hs242 => ?_)
  have hlt243 := lte (bl hmk) hn239
  have hlt244 := lte hme.lt hn239
  have hlt245 := lte (bl hb11) hn239
  have hlt246 := lte (bl hb26) hn239
  have hlt247 := lte (bl hb152) hn239
  have hlt248 := lte (bl hb179) hn239
  have hlt249 := lte (bl hb211) hn239
  have hlt250 := lte hm227.lt hn239
  have hmk := eb hx241 hmk
  have hme := hme.keep hx241
  have hb11 := eb hx241 hb11
  have hb26 := eb hx241 hb26
  have hb152 := eb hx241 hb152
  have hb179 := eb hx241 hb179
  have hb211 := eb hx241 hb211
  have hE235 := hE235.trans hx241
  have hm227 := hm227.keep hx241
  have hb251 := hb240; clear hb240
  have hl252 : n237 < w238.heap.size := by omega
  refine oS rfl (Yk.storeAll (vr (PQ n237 0) rfl) (vr (.agg ([v222, NI kk]).toArray) rfl) hb251 rfl (show (Tryd.prog.info? 81).map (·.size) = some 2 from pk18_isz81) (obj_one (RB.one (hr226.keep hE235)).2) fun w253 hb254 hg255 hs256 => ?_)
  have hmk := kb hg255 hmk (by omega)
  have hme := MapF.other hme hg255 (some_ne (by omega))
  have hb11 := kb hg255 hb11 (by omega)
  have hb26 := kb hg255 hb26 (by omega)
  have hb152 := kb hg255 hb152 (by omega)
  have hb179 := kb hg255 hb179 (by omega)
  have hb211 := kb hg255 hb211 (by omega)
  have hE235 := row_fresh hE235 hg255 (Nat.le_trans (Nat.le_refl _) (by omega))
  have hm227 := MapF.other hm227 hg255 (some_ne (by omega))
  clear hb251
  have hb251 := hb254; clear hb254
  have hl257 := bl hb251
  refine oZ (tN (hK220 _ _ (sk fun K258 hK258 => (wt (oS rfl (Yk.fieldAt pk18_fo81_0 (vr (PQ n237 0) rfl) (oS rfl (Yk.cell1 pk18_ty24 rfl (vr (PQ n237 0) rfl) (cellAt hb251 (show _ = some (v222 : Value) from rfl)) (oS rfl (Yk.fieldAt pk18_fo116_3 T7 ?_))))))))))
  have hre259 : RB w253 (((M (id)).getD dEnt)).2 (entAt M id).bytes := (MOk.get (hMO.keep hE235) id).1
  refine oS rfl (Yk.cell1 pk18_ty24 rfl (vr (PQ n178 34) rfl) (cellAt hb179 (entC_v (x := (((M (id)).getD dEnt) : EntV)) (hMO.get (id)).2.1)) (oS rfl (Yk.callA2 pk18_pl77 (vr v222 rfl) (vr ((((M (id)).getD dEnt)).2) rfl) ((apply_any _ v222 (((M (id)).getD dEnt)).2 bb (entAt M id).bytes (hr226.keep hE235) hre259 (by omega) (by have : (entAt M id).bytes.length ≤ 1048576 := (MOk.get (hMO.keep hE235) id).2.2; omega)).mono ?_))))
  rintro e w263 ⟨v260, rfl, hr261, hx262⟩
  refine ⟨_, rfl, ?_⟩
  have hmk := eb hx262 hmk
  have hme := hme.keep hx262
  have hb11 := eb hx262 hb11
  have hb26 := eb hx262 hb26
  have hb152 := eb hx262 hb152
  have hb179 := eb hx262 hb179
  have hb211 := eb hx262 hb211
  have hE235 := hE235.trans hx262
  have hm227 := hm227.keep hx262
  have hb251 := eb hx262 hb251
  have hre259 := hre259.keep hx262
  refine oM rfl (oS rfl (Yk.extract (vs := [v260, NI ((applyP bb (entAt M id).bytes).2)]) (vr (.tuple #[v260, NI ((applyP bb (entAt M id).bytes).2)]) rfl) (show _ = some (v260 : Value) from rfl) (oS rfl (Yk.extract (vs := [v260, NI ((applyP bb (entAt M id).bytes).2)]) (vr (.tuple #[v260, NI ((applyP bb (entAt M id).bytes).2)]) rfl) (show _ = some (NI ((applyP bb (entAt M id).bytes).2) : Value) from rfl) (oA rfl (oA rfl (oZ (tN (hK258 _ _ (sk fun K264 hK264 => (wt (oM rfl (oS rfl (Yk.eqI (a := ((applyP bb (entAt M id).bytes).2 : Nat)) (b := (0 : Nat)) rfl rfl (k_eql _ _ _ _) (oP rfl (Yp.callA2 pk18_pl64 (vr (.bool (decide (((applyP bb (entAt M id).bytes).2 : Nat) = (0)))) rfl) (vr (NI 6) rfl) ?_))))))))))))))))
  refine calls_either (need_any _ (decide (((applyP bb (entAt M id).bytes).2 : Nat) = (0))) 6) ?_ ?_
  rotate_left
  ·
   rintro ch w267 ⟨rfl, hb, hx⟩
   refine thenF_panic (thenF_panic (postP_panic ?_))
   have hno := of_decide_eq_false hb
   refine .inr ⟨_, rfl, ?_, rfl, (BX.keep (hX.keep hE235) hx)⟩
   rw [hcg]
   exact if_neg hno
  rintro v_ w269 ⟨rfl, hb265, hx266⟩
  have hmk := eb hx266 hmk
  have hme := hme.keep hx266
  have hb11 := eb hx266 hb11
  have hb26 := eb hx266 hb26
  have hb152 := eb hx266 hb152
  have hb179 := eb hx266 hb179
  have hb211 := eb hx266 hb211
  have hE235 := hE235.trans hx266
  have hm227 := hm227.keep hx266
  have hb251 := eb hx266 hb251
  have hre259 := hre259.keep hx266
  have hr261 := hr261.keep hx266
  have hn270 := of_decide_eq_true hb265
  refine oZ ?_
  have hap := hn270
  refine tN (hK264 _ _ (wt (oM rfl (oS rfl (Yk.fieldAt pk18_fo81_1 (vr (PQ n237 0) rfl) (oS rfl (Yk.cell1 pk18_ty3 rfl (vr (PQ n237 1) rfl) (cellAt hb251 (show _ = some (NI kk : Value) from rfl)) (oS rfl (Yk.bin (xv := NI kk) (yv := NI 1) rfl rfl rfl (i64_add _ _ _ (by omega)) (oS rfl (Yk.build2 (vr v260 rfl) (vr (NI ((kk) + (1))) rfl) (fun w => pk18_bd81si_01 (RB.slice hr261) ((((kk) + (1) : Nat) : Int)) w) (oS rfl (Yk.storeAll (vr (PQ n189 0) rfl) (vr (.agg ([v260, NI ((kk) + (1))]).toArray) rfl) hb211 rfl (show (Tryd.prog.info? 81).map (·.size) = some 2 from pk18_isz81) (obj_one (RB.one hr261).2) fun w271 hb272 hg273 hs274 => ?_)))))))))))))
  have hnb_ : NoB8 w269 n189 := obj_noB8 hb211 (RB.slice (hre188.keep hE235))
  have hX : BX w.heap.size (some bm) w w269 := (hX.keep hE235)
  have hMO : MOk w269 M := (hMO.keep hE235)
  have hre188 : RB w269 (((M (id)).getD dEnt)).2 (entAt M id).bytes := (hre188.keep hE235)
  have hr226 : RB w269 v222 bb := (hr226.keep hE235)
  have hHO228 : HOk w269 M H1 := (hHO228.keep hE235)
  have hX : BX w.heap.size (some bm) w w271 := BX.set hX hg273 (by omega)
  have hmk := kb hg273 hmk (by omega)
  have hme := MapF.other hme hg273 (some_ne (by omega))
  have hMO : MOk w271 M := hMO.keepN hnb_ hg273
  have hb11 := kb hg273 hb11 (by omega)
  have hb26 := kb hg273 hb26 (by omega)
  have hb152 := kb hg273 hb152 (by omega)
  have hb179 := kb hg273 hb179 (by omega)
  have hre188 : RB w271 (((M (id)).getD dEnt)).2 (entAt M id).bytes := hre188.keepN hnb_ hg273
  clear hb211
  have hr226 : RB w271 v222 bb := hr226.keepN hnb_ hg273
  have hm227 := MapF.other hm227 hg273 (some_ne (by omega))
  have hHO228 : HOk w271 M H1 := hHO228.keepN hnb_ hg273
  have hb251 := kb hg273 hb251 (by omega)
  have hre259 : RB w271 (((M (id)).getD dEnt)).2 (entAt M id).bytes := hre259.keepN hnb_ hg273
  have hr261 : RB w271 v260 (applyP bb (entAt M id).bytes).1 := hr261.keepN hnb_ hg273
  have hb211 := hb272; clear hb272
  have hl275 := bl hb211
  have hE276 := Ext.refl w271
  have hz277 := hX.size
  refine oZ (tN (hK218 _ _ (sk fun K278 hK278 => (wt (oS rfl (Yk.fieldAt pk18_fo81_0 (vr (PQ n189 0) rfl) (oS rfl (Yk.cell1 pk18_ty24 rfl (vr (PQ n189 0) rfl) (cellAt hb211 (show _ = some (v260 : Value) from rfl)) (oS rfl (Yk.lenRB pk18_ty24 (RB.of hr261 (vr v260 rfl)) (oS rfl (Yk.eqI (a := (((applyP bb (entAt M id).bytes).1 : List UInt8).length : Nat)) (b := (262144 : Nat)) rfl rfl (k_leq _ _ _ _) (oP rfl (Yp.callA2 pk18_pl64 (vr (.bool (decide ((((applyP bb (entAt M id).bytes).1 : List UInt8).length) ≤ (262144)))) rfl) (vr (NI 6) rfl) ?_))))))))))))))
  refine calls_either (need_any _ (decide ((((applyP bb (entAt M id).bytes).1 : List UInt8).length) ≤ (262144))) 6) ?_ ?_
  rotate_left
  ·
   rintro ch w281 ⟨rfl, hb, hx⟩
   refine thenF_panic (postP_panic ?_)
   have hno := of_decide_eq_false hb
   refine .inr ⟨_, rfl, ?_, rfl, (BX.keep hX hx)⟩
   rw [hcg]
   exact (if_pos hap).trans (if_neg hno)
  rintro v_ w283 ⟨rfl, hb279, hx280⟩
  have hX : BX w.heap.size (some bm) w w283 := (hX.keep hx280)
  have hmk := eb hx280 hmk
  have hme := hme.keep hx280
  have hMO : MOk w283 M := (hMO.keep hx280)
  have hb11 := eb hx280 hb11
  have hb26 := eb hx280 hb26
  have hb152 := eb hx280 hb152
  have hb179 := eb hx280 hb179
  have hre188 := hre188.keep hx280
  have hr226 := hr226.keep hx280
  have hm227 := hm227.keep hx280
  have hHO228 : HOk w283 M H1 := (hHO228.keep hx280)
  have hb251 := eb hx280 hb251
  have hre259 := hre259.keep hx280
  have hr261 := hr261.keep hx280
  have hb211 := eb hx280 hb211
  have hE276 := hE276.trans hx280
  have hn284 := of_decide_eq_true hb279
  refine oL_ [(0, PQ gm 0), (1, AB id), (3, PQ n2 0), (4, PQ n13 0), (5, PQ n154 0), (6, .bool (false)), (7, PQ n178 0), (8, PQ n189 0), (9, PQ n237 0), (10, v260), (11, NI ((applyP bb (entAt M id).bytes).2)), (21, .bool (false)), (33, .bool (true))] ⟨T0, T1, T3, T4, T5, T6, T7, rfl, rfl, rfl, rfl, T21, rfl, trivial⟩ fun ρ285 ⟨T0, T1, T3, T4, T5, T6, T7, T8, T9, T10, T11, T21, T33, _⟩ => ?_
  have hcf : chainGo (entAt M) (d + 1) id = some ((applyP bb (entAt M id).bytes).1, kk + 1) := hcg.trans ((if_pos hap).trans (if_pos hn284))
  refine tN (hK278 _ _ (sk fun K286 hK286 => ?_))
  refine wpF_draw_cut 6 [Is (PQ gm 0), Is (PQ gm 0), Is (PQ gm 1), Is (.map (some bm)), Is (AB id), Is (.agg ([v260, NI ((kk) + (1))]).toArray)] (by kernel_rfl) [59, 60, 61, 62, 63, 64] (by kernel_rfl) (by kernel_rfl) (by kernel_rfl) (by kernel_rfl) rfl rfl (si6 trivial) ?hs6012 ?hQ6012
  case hs6012 =>
   refine ⟨?_, ?_, ?_, ?_, ?_, ?_, ?_, trivial⟩
   ·refine stepFC (stepN rfl fun σ w1 hC h => ?_)
    have e0 := (eqo (h 0 (by decide))).trans T0
    exact Yk.move e0 ⟨Ext.refl _, rfl⟩
   ·refine stepFC (stepN rfl fun σ w1 hC h => ?_)
    have e59 := eqo (h 59 (by decide))
    exact Yk.nilCheck e59 ⟨Ext.refl _, rfl⟩
   ·refine stepFC (stepN rfl fun σ w1 hC h => ?_)
    have e60 := eqo (h 60 (by decide))
    exact Yk.fieldAt pk18_fo120_1 e60 ⟨Ext.refl _, rfl⟩
   ·refine stepFC (stepN rfl fun σ w1 hC h => ?_)
    have e61 := eqo (h 61 (by decide))
    exact Yk.cell1 pk18_ty72 rfl e61 (cellAt (eb hC hmk) (show _ = some (.map (some bm) : Value) from rfl)) ⟨Ext.refl _, rfl⟩
   ·refine stepFC (stepN rfl fun σ w1 hC h => ?_)
    have e3 := (eqo (h 3 (by decide))).trans T3
    exact Yk.loadAll e3 (eb hC hb11) pk18_ty38 rfl (by exact sizeId_of hid) ⟨Ext.refl _, rfl⟩
   ·refine stepFC (stepN rfl fun σ w1 hC h => ?_)
    have e8 := (eqo (h 8 (by decide))).trans T8
    exact Yk.loadAll e8 (eb hC hb211) (pk18_ty81).choose_spec rfl (show (Tryd.prog.info? 81).map (·.size) = some 2 from pk18_isz81) ⟨Ext.refl _, rfl⟩
   ·exact trivial
  intro ρ287 w288 hx289 he hf
  obtain ⟨-, -, -, k62, k63, k64, -⟩ := hf
  obtain ⟨T0, T1, T3, T4, T5, T6, T7, T8, T9, T10, T11, T21, T33, -⟩ := he.hold [(0, _), (1, _), (3, _), (4, _), (5, _), (6, _), (7, _), (8, _), (9, _), (10, _), (11, _), (21, _), (33, _)] ⟨T0, T1, T3, T4, T5, T6, T7, T8, T9, T10, T11, T21, T33, trivial⟩ rfl
  clear he
  have hX : BX w.heap.size (some bm) w w288 := (hX.keep hx289)
  have hmk := eb hx289 hmk
  have hme := hme.keep hx289
  have hMO : MOk w288 M := (hMO.keep hx289)
  have hb11 := eb hx289 hb11
  have hb26 := eb hx289 hb26
  have hb152 := eb hx289 hb152
  have hb179 := eb hx289 hb179
  have hre188 := hre188.keep hx289
  have hr226 := hr226.keep hx289
  have hm227 := hm227.keep hx289
  have hHO228 : HOk w288 M H1 := (hHO228.keep hx289)
  have hb251 := eb hx289 hb251
  have hre259 := hre259.keep hx289
  have hr261 := hr261.keep hx289
  have hb211 := eb hx289 hb211
  have T62 : ρ287 62 = .map (some bm) := k62
  have T63 : ρ287 63 = AB id := k63
  have T64 : ρ287 64 = .agg ([v260, NI ((kk) + (1))]).toArray := k64
  clear k62 k63 k64
  refine oS rfl (Yk.putM (ek := rk) (ev := objV) (D := (fun id : List UInt8 => id.length = 32)) (c := ((((applyP bb (entAt M id).bytes).1, (kk) + (1)), v260) : ObjV)) idLaw id_ok pk18_ty72 T62 T63 T64 hm227 hid fun w290 hb291 hg292 hs293 => ?_)
  have hP := HOk.put hHO228 (id := id) (x := ((((applyP bb (entAt M id).bytes).1, (kk) + (1)), v260) : ObjV)) hr261 hdp hcf
  have hm294 : NoB8 w288 bm := (MapF.isMap hm227).noB8
  have hX : BX w.heap.size (some bm) w w290 := BX.put hX hg292
  have hmk : w290.heap[gm]? = some (.cells ([.map (some be), .map (some bm)]).toArray 120 (0, 0)) := kb hg292 hmk (by omega)
  have hme : MapF rk entV (fun id : List UInt8 => id.length = 32) w290 be M := MapF.other hme hg292 (some_ne (by omega))
  have hMO : MOk w290 M := hMO.keepN hm294 hg292
  have hb11 : w290.heap[n2]? = some (.cells (Lib.byteCells id).toArray 38 (0, 0)) := kb hg292 hb11 (by omega)
  have hb26 : w290.heap[n13]? = some (.cells ([(Value.slice none 0 0), NI 0]).toArray 81 (0, 0)) := kb hg292 hb26 (by omega)
  have hb152 : w290.heap[n154]? = some (.cells ([(Value.slice none 0 0), NI 0]).toArray 81 (0, 0)) := kb hg292 hb152 (by omega)
  have hb179 : w290.heap[n178]? = some (.cells (entC (((M (id)).getD dEnt))).toArray 116 (0, 0)) := kb hg292 hb179 (by omega)
  have hre188 : RB w290 (((M (id)).getD dEnt)).2 (entAt M id).bytes := hre188.keepN hm294 hg292
  have hr226 : RB w290 v222 bb := hr226.keepN hm294 hg292
  clear hm227
  have hb251 : w290.heap[n237]? = some (.cells ([v222, NI kk]).toArray 81 (0, 0)) := kb hg292 hb251 (by omega)
  have hre259 : RB w290 (((M (id)).getD dEnt)).2 (entAt M id).bytes := hre259.keepN hm294 hg292
  have hr261 : RB w290 v260 (applyP bb (entAt M id).bytes).1 := hr261.keepN hm294 hg292
  have hb211 : w290.heap[n189]? = some (.cells ([v260, NI ((kk) + (1))]).toArray 81 (0, 0)) := kb hg292 hb211 (by omega)
  have hP : HOk w290 M (updM H1 (id) (some (((((applyP bb (entAt M id).bytes).1, (kk) + (1)), v260) : ObjV)))) := hP.keepN hm294 hg292
  have hE295 := Ext.refl w290
  have hz296 := hX.size
  refine oZ (tN (hK286 _ _ (sk fun K297 hK297 => (wt (oS rfl (Yk.loadAll T8 hb211 (pk18_ty81).choose_spec rfl (show (Tryd.prog.info? 81).map (·.size) = some 2 from pk18_isz81) (oS rfl (Yk.storeAll T4 (vr (.agg ([v260, NI ((kk) + (1))]).toArray) rfl) hb26 rfl (show (Tryd.prog.info? 81).map (·.size) = some 2 from pk18_isz81) (obj_one (RB.one hr261).2) fun w298 hb299 hg300 hs301 => ?_))))))))
  have hnb_ : NoB8 w290 n13 := obj_noB8 hb26 ⟨_, _, _, rfl⟩
  have hX : BX w.heap.size (some bm) w w298 := BX.set hX hg300 (by omega)
  have hmk := kb hg300 hmk (by omega)
  have hme := MapF.other hme hg300 (some_ne (by omega))
  have hMO : MOk w298 M := hMO.keepN hnb_ hg300
  have hb11 := kb hg300 hb11 (by omega)
  clear hb26
  have hb152 := kb hg300 hb152 (by omega)
  have hb179 := kb hg300 hb179 (by omega)
  have hre188 : RB w298 (((M (id)).getD dEnt)).2 (entAt M id).bytes := hre188.keepN hnb_ hg300
  have hr226 : RB w298 v222 bb := hr226.keepN hnb_ hg300
  have hb251 := kb hg300 hb251 (by omega)
  have hre259 : RB w298 (((M (id)).getD dEnt)).2 (entAt M id).bytes := hre259.keepN hnb_ hg300
  have hr261 : RB w298 v260 (applyP bb (entAt M id).bytes).1 := hr261.keepN hnb_ hg300
  have hb211 := kb hg300 hb211 (by omega)
  have hP : HOk w298 M (updM H1 (id) (some (((((applyP bb (entAt M id).bytes).1, (kk) + (1)), v260) : ObjV)))) := hP.keepN hnb_ hg300
  have hb291 := MapF.other hb291 hg300 (some_ne (by omega))
  have hb26 := hb299; clear hb299
  have hl302 := bl hb26
  have hE303 := Ext.refl w298
  have hz304 := hX.size
  refine oZ (tN (hK297 _ _ (wpF_ret (postP_ret (fn := Tryd.f68) _ rfl [.agg ([v260, NI ((kk) + (1))]).toArray] (.agg ([v260, NI ((kk) + (1))]).toArray) rfl ⟨ResF.row T4 hb26 (pk18_ty81).choose_spec rfl ((show (Tryd.prog.info? 81).map (·.size) = some 2 from pk18_isz81)), trivial⟩ ?_))))
  exact .inl ⟨_, rfl, _, _, _, _, rfl, hcf, hr261, hb291, hP, hX⟩
 obtain ⟨hxr, nb_, d2, hx2, hx3⟩ := hHO id x hH
 have hdd := depthGo_uniq hdp hx2
 rw [← hdd] at hx3
 refine tN (hK1 _ _ (sk fun K305 hK305 => (sk fun K306 hK306 => ?_)))
 have hA307 := Ext.refl w14
 have hea308 := hE
 have hea309 := hA19
 have hz310 := hE.size
 have hz311 := hA19.size
 have hlt312 : gm < w14.heap.size := (bl hmk)
 have hlt313 : be < w14.heap.size := hme.lt
 have hlt314 : bm < w14.heap.size := hmm.lt
 have hlt315 : n2 < w14.heap.size := (bl hb11)
 have hlt316 : n13 < w14.heap.size := (bl hb26)
 refine wpF_draw_new 9 10 11 81 ([(Value.slice none 0 0), NI 0]).toArray ([x.2, NI x.1.2]).toArray [Is (PQ gm 0), Is (PQ gm 0), Is (PQ gm 1), Is (.map (some bm)), Is (AB id), Is (.tuple #[.agg ([x.2, NI x.1.2]).toArray, .bool (true)]), Is (.tuple #[.agg ([x.2, NI x.1.2]).toArray, .bool (true)]), Is (.agg ([x.2, NI x.1.2]).toArray), Is (.bool (true)), fun x w' => x = PQ w14.heap.size 0 ∧ w14.heap.size < w'.heap.size, (fun _ _ => True)] (by kernel_rfl) [13, 14, 15, 16, 17, 18, 12, 19, 20, 5, 6] (by kernel_rfl) (by kernel_rfl) (by kernel_rfl) (by kernel_rfl) rfl rfl (by kernel_rfl) rfl rfl rfl rfl rfl (si9 ⟨(fun _ _ _ h k => k.elim (fun e => e ▸ h) (fun e => ⟨h.1, e⟩)), Stab.any, trivial⟩) ?hs7001 ?hQ7001
 case hs7001 =>
  refine ⟨?_, ?_, ?_, ?_, ?_, ?_, ?_, ?_, ?_, ?_, ?_, ?_, trivial⟩
  ·refine stepFC (stepN rfl fun σ w1 hC h => ?_)
   have hC : Ext w14 w1 := hC
   have e0 := (eqo (h 0 (by decide))).trans T0
   exact Yk.move e0 ⟨rfl, rfl⟩
  ·refine stepFC (stepN rfl fun σ w1 hC h => ?_)
   have hC : Ext w14 w1 := hC
   have e13 := eqo (h 13 (by decide))
   exact Yk.nilCheck e13 ⟨rfl, rfl⟩
  ·refine stepFC (stepN rfl fun σ w1 hC h => ?_)
   have hC : Ext w14 w1 := hC
   have e14 := eqo (h 14 (by decide))
   exact Yk.fieldAt pk18_fo120_1 e14 ⟨rfl, rfl⟩
  ·refine stepFC (stepN rfl fun σ w1 hC h => ?_)
   have hC : Ext w14 w1 := hC
   have e15 := eqo (h 15 (by decide))
   exact Yk.cell1 pk18_ty72 rfl e15 (cellAt (eb hC hmk) (show _ = some (.map (some bm) : Value) from rfl)) ⟨rfl, rfl⟩
  ·refine stepFC (stepN rfl fun σ w1 hC h => ?_)
   have hC : Ext w14 w1 := hC
   have e3 : σ 3 = PQ n2 0 := (eqo (h 3 (by decide))).trans rfl
   exact Yk.loadAll e3 (eb hC hb11) pk18_ty38 rfl (by exact sizeId_of hid) ⟨rfl, rfl⟩
  ·refine stepFC (stepN rfl fun σ w1 hC h => ?_)
   have hC : Ext w14 w1 := hC
   have e16 := eqo (h 16 (by decide))
   have e17 := eqo (h 17 (by decide))
   exact Yk.lookOkS (ek := rk) (ev := objV) (D := (fun id : List UInt8 => id.length = 32)) idLaw id_ok (fun _ _ => rk_inj) pk18_ty72 (z := objV dObj) zeroObj e16 e17 (hmm.keep hC) hid hH ⟨rfl, rfl⟩
  ·refine stepFC (stepN rfl fun σ w1 hC h => ?_)
   have hC : Ext w14 w1 := hC
   have e18 := eqo (h 18 (by decide))
   exact Yk.move e18 ⟨rfl, rfl⟩
  ·refine stepFC (stepN rfl fun σ w1 hC h => ?_)
   have hC : Ext w14 w1 := hC
   have e12 := eqo (h 12 (by decide))
   exact Yk.extract (vs := [.agg ([x.2, NI x.1.2]).toArray, .bool (true)]) e12 (show _ = some (.agg ([x.2, NI x.1.2]).toArray : Value) from rfl) ⟨rfl, rfl⟩
  ·refine stepFC (stepN rfl fun σ w1 hC h => ?_)
   have hC : Ext w14 w1 := hC
   have e12 := eqo (h 12 (by decide))
   exact Yk.extract (vs := [.agg ([x.2, NI x.1.2]).toArray, .bool (true)]) e12 (show _ = some (.bool (true) : Value) from rfl) ⟨rfl, rfl⟩
  ·refine stepFC (stepN rfl fun σ w1 hC h => ?_)
   have hC : w1 = World.drew w14 := hC
   subst hC
   exact Yk.allocX pk18_al81 ⟨rfl, rfl, by simp⟩
  ·refine stepFC (stepN rfl fun σ w1 hC h => ?_)
   have e5 : (fun x w' => x = PQ w14.heap.size 0 ∧ w14.heap.size < w'.heap.size) (σ 5) w1 := h 5 (by decide)
   have e19 := eqo (h 19 (by decide))
   rcases (show w1 = World.drew w14 ∨ w1 = (World.drew w14).alloc (.cells ([(Value.slice none 0 0), NI 0]).toArray 81) from hC) with hC | hC
   ·subst hC; exact absurd e5.2 (Nat.lt_irrefl _)
   ·subst hC
    exact Yk.storeAll e5.1 e19 (heap_alloc_new _ _) rfl (show (Tryd.prog.info? 81).map (·.size) = some 2 from pk18_isz81) (obj_one (RB.one hxr).2) fun w2 h1 h2 h3 => ⟨⟨h1, row_fresh ((Below.refl _ _).drew.alloc (Nat.le_refl _) _) h2 (Nat.le_refl _), by rw [h3]; simp⟩, trivial⟩
  ·exact trivial
 intro ρ317 w318 hx319 hb320 hs321 he hf
 obtain ⟨-, -, -, -, -, -, -, -, k20, k5, -⟩ := hf
 obtain ⟨T0, T1, T3, T4, -⟩ := he.hold [(0, _), (1, _), (3, PQ n2 0), (4, PQ n13 0)] ⟨T0, T1, rfl, rfl, trivial⟩ rfl
 clear he
 have hmk := eb hx319 hmk
 have hme := hme.keep hx319
 have hmm := hmm.keep hx319
 have hE := hE.trans hx319
 have hb11 := eb hx319 hb11
 have hA19 := hA19.trans hx319
 have hb26 := eb hx319 hb26
 have hA307 := hA307.trans hx319
 obtain ⟨n322, hn323⟩ : ∃ g, w14.heap.size = g := ⟨_, rfl⟩
 have T5 : ρ317 5 = _ := (show (fun x w' => x = PQ w14.heap.size 0 ∧ w14.heap.size < w'.heap.size) (ρ317 5) w318 from k5).1
 rw [hn323] at T5 hb320 hs321; clear k5
 have hl324 : n322 < w318.heap.size := by omega
 have T20 : ρ317 20 = .bool (true) := k20
 clear k20
 refine oA rfl (oZ (tN (hK306 _ _ (sk fun K325 hK325 => (wt (oM rfl (oZ (tN (hK325 _ _ (wpF_true T20 (sk fun K326 hK326 => (wt (oS rfl (Yk.loadAll T5 hb320 (pk18_ty81).choose_spec rfl (show (Tryd.prog.info? 81).map (·.size) = some 2 from pk18_isz81) (oS rfl (Yk.storeAll T4 (vr (.agg ([x.2, NI x.1.2]).toArray) rfl) hb26 rfl (show (Tryd.prog.info? 81).map (·.size) = some 2 from pk18_isz81) (obj_one (RB.one (hxr.keep hE)).2) fun w327 hb328 hg329 hs330 => ?_))))))))))))))))
 have hmk := kb hg329 hmk (by omega)
 have hme := MapF.other hme hg329 (some_ne (by omega))
 have hmm := MapF.other hmm hg329 (some_ne (by omega))
 have hE := row_fresh hE hg329 (Nat.le_trans hz21 (by omega))
 have hb11 := kb hg329 hb11 (by omega)
 have hA19 := row_fresh hA19 hg329 (Nat.le_trans (Nat.le_refl _) (by omega))
 clear hb26
 clear hA307
 have hb320 := kb hg329 hb320 (by omega)
 have hb26 := hb328; clear hb328
 have hl331 := bl hb26
 refine oZ (tN (hK326 _ _ (wpF_ret (thenF_ret (postP_ret (fn := Tryd.f68) _ rfl [.agg ([x.2, NI x.1.2]).toArray] (.agg ([x.2, NI x.1.2]).toArray) rfl ⟨ResF.row T4 hb26 (pk18_ty81).choose_spec rfl ((show (Tryd.prog.info? 81).map (·.size) = some 2 from pk18_isz81)), trivial⟩ ?_)))))
 exact .inl ⟨_, rfl, _, _, _, H, rfl, hx3, (hxr.keep hE), hmm, (hHO.keep hE), (hX.keep hE)⟩

theorem pmake_any (gm be bm : Nat) (M : Bs → Option EntV) : ∀ (d : Nat) (w : World) (H : Bs → Option ObjV) (id : Bs) (hmk : w.heap[gm]? = some (.cells ([.map (some be), .map (some bm)]).toArray 120 (0, 0))) (hme : MapF rk entV (fun id : List UInt8 => id.length = 32) w be M) (hmm : MapF rk objV (fun id : List UInt8 => id.length = 32) w bm H) (hMO : MOk w M) (hHO : HOk w M H) (hne : be ≠ bm) (hid : id.length = 32) (hd50 : d ≤ 50) (n0 : Nat) (hdp : depthGo (entAt M) n0 (entAt M id) = some d), Calls Tryd.prog 68 #[PQ gm 0, AB id] w fun r w' => (∃ x, r = .returned x ∧ ∃ v b k H', x = .agg ([v, NI k]).toArray ∧ chainGo (entAt M) (d + 1) id = some (b, k) ∧ RB w' v b ∧ MapF rk objV (fun id : List UInt8 => id.length = 32) w' bm H' ∧ HOk w' M H' ∧ BX w.heap.size (some bm) w w') ∨ ∃ ch, r = .panicked ch ∧ chainGo (entAt M) (d + 1) id = none ∧ ch = [stopE 6] ∧ BX w.heap.size (some bm) w w' := by
 intro d
 induction d using Nat.strongRecOn with
 | _ d ih => exact pmake_step gm be bm M d ih
open Go.RowKit
def OOk (w : World) (O : Bs → Option ObjV) : Prop := ∀ id x, O id = some x → RB w x.2 x.1.1
theorem OOk.keep {w w' : World} {O : Bs → Option ObjV} (h : OOk w O) (k : Ext w w') : OOk w' O := fun a c hc => (h a c hc).keep k
theorem OOk.keepN {w w' : World} {b : Nat} {O : Bs → Option ObjV} (h : OOk w O) (hm : NoB8 w b) (hg : w.grownBy w' (some b)) : OOk w' O := fun a c hc => (h a c hc).keepN hm hg
theorem OOk.nil (w : World) : OOk w (fun _ => none) := fun _ _ h => by cases h
theorem OOk.put {w : World} {O : Bs → Option ObjV} (h : OOk w O) {id : Bs} {x : ObjV} (h1 : RB w x.2 x.1.1) : OOk w (updM O id (some x)) := fun a c hc => by
  unfold updM at hc
  split at hc
  · cases hc; exact h1
  · exact h a c hc
theorem entOne_len {b : Bs} {fin pos : Nat} {e : Ent} {n : Nat} (h : entOne b fin pos = some (e, n)) (hf : fin ≤ b.length) : e.bytes.length ≤ b.length := by
  unfold entOne at h
  split at h
  · split at h
    · split at h
      · cases h
      · cases ht : textP b (pos + 33) fin with
        | none => rw [ht] at h; cases h
        | some x => rw [ht] at h; cases h; exact textP_len (s := x.1) (n := x.2) ht hf
    · cases ht : textP b (pos + 1) fin with
      | none => rw [ht] at h; cases h
      | some x => rw [ht] at h; cases h; exact textP_len (s := x.1) (n := x.2) ht hf
  · cases h
theorem entGo_len {b : Bs} {fin first : Nat} (hf : fin ≤ b.length) : ∀ (n : Nat) (es : List Ent) (p : Nat), entGo b fin first n = some (es, p) → es.length = n ∧ ∀ x ∈ es, x.bytes.length ≤ b.length
  | 0, es, p, h => by cases h; exact ⟨rfl, fun x hx => by cases hx⟩
  | n + 1, es, p, h => by
    cases h1 : entGo b fin first n with
    | none => rw [entGo_none h1 1] at h; cases h
    | some x =>
      rw [entGo_step (es := x.1) (p := x.2) h1] at h
      have ih := entGo_len hf n x.1 x.2 h1
      cases h2 : entOne b fin x.2 with
      | none => rw [h2] at h; cases h
      | some y =>
        rw [h2] at h
        cases h
        refine ⟨by rw [List.length_append, ih.1]; rfl, fun z hz => ?_⟩
        rcases List.mem_append.1 hz with hz | hz
        · exact ih.2 z hz
        · rw [List.mem_singleton.1 hz]; exact entOne_len (e := y.1) (n := y.2) h2 hf
theorem entriesP_len {b : Bs} {n first fin : Nat} {es : List Ent} (h : entriesP b n first fin = some es) (hf : fin ≤ b.length) : es.length = n ∧ ∀ x ∈ es, x.bytes.length ≤ b.length := by
  unfold entriesP at h
  cases h1 : entGo b fin first n with
  | none => rw [h1] at h; cases h
  | some x =>
    rw [h1] at h
    have h2 : (if x.2 = fin then some x.1 else none) = some es := h
    split at h2
    · cases h2; exact entGo_len hf n x.1 x.2 h1
    · cases h2
def IxS.plain (s : IxS EntV) : IxS Ent := ⟨s.ids, fun k => (s.G k).map Prod.fst, fun k => (s.M k).map Prod.fst⟩
theorem updM_map {α β γ : Type} [DecidableEq α] (G : α → Option β) (a : α) (y : Option β) (f : β → γ) : (fun k => (updM G a y k).map f) = updM (fun k => (G k).map f) a (y.map f) := by
  funext k
  unfold updM
  split <;> rfl
theorem placeGo_map (es : List EntV) : ∀ i, (fun k => (placeGo (fun x : EntV => x.1.pos) dEnt es i k).map Prod.fst) = placeGo Ent.pos dEnt.1 (es.map Prod.fst) i
  | 0 => rfl
  | i + 1 => by
    unfold placeGo
    rw [updM_map, placeGo_map es i]
    have e : (es.map Prod.fst).getD i dEnt.1 = (es.getD i dEnt).1 := by
      rw [List.getD_eq_getElem?_getD, List.getD_eq_getElem?_getD, List.getElem?_map]
      cases es[i]? <;> rfl
    rw [e]
    rfl
theorem ixGo_plain (t : Bs) (es : List EntV) : ∀ i, ixGo Ent.pos dEnt.1 t (es.map Prod.fst) i = (ixGo (fun x : EntV => x.1.pos) dEnt t es i).map IxS.plain
  | 0 => by
    unfold ixGo
    rw [List.length_map, ← placeGo_map]
    rfl
  | i + 1 => by
    cases h : ixGo (fun x : EntV => x.1.pos) dEnt t es i with
    | none =>
      have h' : ixGo Ent.pos dEnt.1 t (es.map Prod.fst) i = none := by rw [ixGo_plain t es i, h]; rfl
      rw [ixGo_none h 1, ixGo_none h' 1]
      rfl
    | some s =>
      have h' : ixGo Ent.pos dEnt.1 t (es.map Prod.fst) i = some s.plain := by rw [ixGo_plain t es i, h]; rfl
      rw [ixGo_step h, ixGo_step h']
      cases hG : s.G (rowAt t i) with
      | none =>
        have hG' : s.plain.G (rowAt t i) = none := by show (s.G (rowAt t i)).map Prod.fst = none; rw [hG]; rfl
        unfold ixStep
        rw [hG, hG']
        rfl
      | some c =>
        have hG' : s.plain.G (rowAt t i) = some c.1 := by show (s.G (rowAt t i)).map Prod.fst = some c.1; rw [hG]; rfl
        unfold ixStep
        rw [hG, hG']
        by_cases hc : i = 0 ∨ Lib.compareBytes (s.ids.getD (i - 1) []) (rowId t i) < 0
        · simp only [if_pos hc, if_pos (show i = 0 ∨ Lib.compareBytes (s.plain.ids.getD (i - 1) []) (rowId t i) < 0 from hc)]
          show some (ixNext Ent.pos t i s.plain c.1) = some (ixNext _ t i s c).plain
          unfold ixNext IxS.plain
          dsimp only
          rw [updM_map, updM_map]
          rfl
        · simp only [if_neg hc, if_neg (show ¬ (i = 0 ∨ Lib.compareBytes (s.plain.ids.getD (i - 1) []) (rowId t i) < 0) from hc)]
          rfl
def entOf (M : Bs → Option Ent) (k : Bs) : Ent := (M k).getD dEnt.1
theorem entAt_plain (s : IxS EntV) : entAt s.M = entOf s.plain.M := by
  funext k
  show ((s.M k).getD dEnt).1 = ((s.M k).map Prod.fst).getD dEnt.1
  cases s.M k <;> rfl
structure ObS where
  total : Nat
  O : Bs → Option (Bs × Nat)
def objStep (E : Bs → Ent) (id : Bs) (s : ObS) : Except Nat ObS :=
  match depthGo E 50 (E id) with
  | none => .error 17
  | some d => match chainGo E (d + 1) id with
    | none => .error 6
    | some x => if Sha.sum x.1 = id then (if s.total + x.1.length ≤ 4194304 then .ok ⟨s.total + x.1.length, updM s.O id (some (x.1, d))⟩ else .error 2) else .error 18
def objGo (E : Bs → Ent) (ids : List Bs) : Nat → Except Nat ObS
  | 0 => .ok ⟨0, fun _ => none⟩
  | i + 1 => match objGo E ids i with
    | .error e => .error e
    | .ok s => objStep E (ids.getD i []) s
theorem objStep_17 {E : Bs → Ent} {id : Bs} {s : ObS} (h : depthGo E 50 (E id) = none) : objStep E id s = .error 17 := by unfold objStep; rw [h]
theorem objStep_6 {E : Bs → Ent} {id : Bs} {s : ObS} {d : Nat} (h : depthGo E 50 (E id) = some d) (h2 : chainGo E (d + 1) id = none) : objStep E id s = .error 6 := by
  unfold objStep
  rw [h]
  dsimp only
  rw [h2]
theorem objStep_eq {E : Bs → Ent} {id : Bs} {s : ObS} {d : Nat} {b : Bs} {k : Nat} (h : depthGo E 50 (E id) = some d) (h2 : chainGo E (d + 1) id = some (b, k)) : objStep E id s = if Sha.sum b = id then (if s.total + b.length ≤ 4194304 then .ok ⟨s.total + b.length, updM s.O id (some (b, d))⟩ else .error 2) else .error 18 := by
  unfold objStep
  rw [h]
  dsimp only
  rw [h2]
theorem objGo_step {E : Bs → Ent} {ids : List Bs} {i : Nat} {s : ObS} (h : objGo E ids i = .ok s) : objGo E ids (i + 1) = objStep E (ids.getD i []) s := by
  show (match objGo E ids i with | .error e => _ | .ok s => _) = _
  rw [h]
theorem objGo_err {E : Bs → Ent} {ids : List Bs} {i : Nat} {e : Nat} (h : objGo E ids i = .error e) : ∀ k, objGo E ids (i + k) = .error e
  | 0 => h
  | k + 1 => by
    show (match objGo E ids (i + k) with | .error e => _ | .ok s => _) = _
    rw [objGo_err h k]
abbrev PackV := List Bs × (Bs → Option (Bs × Nat))
def readE (E : Bs → Ent) (ids : List Bs) : Except Nat PackV :=
  match objGo E ids ids.length with
  | .error e => .error e
  | .ok o => .ok (ids, o.O)
theorem readE_ok {E : Bs → Ent} {ids : List Bs} {o : ObS} (h : objGo E ids ids.length = .ok o) : readE E ids = .ok (ids, o.O) := by unfold readE; rw [h]
def basesB (es : List Ent) (M : Bs → Option Ent) : Bool := es.all fun e => !e.based || (M e.base).isSome
def fanB (b : Bs) (f : Nat) (ids : List Bs) : Bool := (List.range 256).all fun i => numP (b.drop (f + 4 * i)) == (fanL ids).getD i 0
def readD (b : Bs) (f : Nat) (es : List Ent) (s : IxS Ent) : Except Nat PackV := if fanB b f s.ids = true then (if basesB es s.M = true then readE (entOf s.M) s.ids else .error 6) else .error 6
def readC (b : Bs) (f : Nat) (es : List Ent) : Except Nat PackV :=
  match ixGo Ent.pos dEnt.1 ((b.drop (f + 1024)).take (b.length - 36 - (f + 1024))) es es.length with
  | none => .error 6
  | some s => readD b f es s
def readB (b : Bs) (n first f : Nat) : Except Nat PackV :=
  match entriesP b n first f with
  | none => .error 6
  | some es => readC b f es
def readA (b : Bs) (f n first : Nat) : Except Nat PackV :=
  if b.getD 0 0 = 80 ∧ first ≤ f ∧ f ≤ b.length - 36 ∧ n ≤ b.length - 36 then (if b.length - 36 - f = 1024 + 36 * n then readB b n first f else .error 6) else .error 6
def readP (b : Bs) : Except Nat PackV :=
  match lebDec 0 (b.drop 1) with
  | none => .error 6
  | some x => readA b (numP (b.drop (b.length - 36))) x.1 (1 + x.2)
theorem fanB_at {b : Bs} {f : Nat} {ids : List Bs} (h : fanB b f ids = true) {i : Nat} (hi : i < 256) : numP (b.drop (f + 4 * i)) = (fanL ids).getD i 0 := by
  have := List.all_eq_true.1 h i (by simpa using hi)
  exact beq_iff_eq.1 this
theorem fanB_of {b : Bs} {f : Nat} {ids : List Bs} (h : ∀ i, i < 256 → numP (b.drop (f + 4 * i)) = (fanL ids).getD i 0) : fanB b f ids = true :=
  List.all_eq_true.2 fun i hi => by rw [beq_iff_eq]; exact h i (by simpa using hi)
theorem basesB_at {es : List EntV} {M : Bs → Option EntV} (h : basesB (es.map Prod.fst) (fun k => (M k).map Prod.fst) = true) {q : Nat} (hq : q < es.length) : (es.getD q dEnt).1.based = true → M (es.getD q dEnt).1.base ≠ none := fun hb hn => by
  have h1 := List.all_eq_true.1 h (es.getD q dEnt).1 (List.mem_map.2 ⟨_, getD_mem dEnt hq, rfl⟩)
  dsimp only at h1
  rw [hb, hn] at h1
  cases h1
theorem basesB_of {es : List EntV} {M : Bs → Option EntV} (h : ∀ q, q < es.length → (es.getD q dEnt).1.based = true → M (es.getD q dEnt).1.base ≠ none) : basesB (es.map Prod.fst) (fun k => (M k).map Prod.fst) = true :=
  List.all_eq_true.2 fun e he => by
    obtain ⟨x, hx, rfl⟩ := List.mem_map.1 he
    obtain ⟨q, hq, rfl⟩ := List.getElem_of_mem hx
    have h1 := h q hq
    rw [show es.getD q dEnt = es[q] by rw [List.getD_eq_getElem?_getD, List.getElem?_eq_getElem hq]; rfl] at h1
    cases hb : (es[q]).1.based with
    | false => rfl
    | true =>
      cases hm : M (es[q]).1.base with
      | none => exact absurd hm (h1 hb)
      | some c => dsimp only; rw [hm]; rfl
theorem depthGo_le {E : Bs → Ent} : ∀ {n : Nat} {e : Ent} {d : Nat}, depthGo E n e = some d → d ≤ n
  | 0, e, d, h => by
    cases hb : e.based with
    | false => rw [depthGo_flat hb] at h; cases h; exact Nat.le_refl _
    | true => rw [depthGo_zero hb] at h; cases h
  | n + 1, e, d, h => by
    cases hb : e.based with
    | false => rw [depthGo_flat hb] at h; cases h; exact Nat.zero_le _
    | true =>
      rw [depthGo_step hb] at h
      cases h1 : depthGo E n (E e.base) with
      | none => rw [h1] at h; cases h
      | some d1 => rw [h1] at h; cases h; exact Nat.succ_le_succ (depthGo_le h1)
theorem MOk.of {w : World} {t : Bs} {es : List EntV} {s : IxS EntV} {i n : Nat} (h : EntsOk w es) (hI : IxOk t es i s) (hb : ∀ x ∈ es.map Prod.fst, x.bytes.length ≤ n) (hn : n ≤ 1048576) : MOk w s.M := fun k c hc =>
  have hm := hI.M k c hc
  ⟨(h c hm).1, (h c hm).2, Nat.le_trans (hb c.1 (List.mem_map.2 ⟨c, hm, rfl⟩)) hn⟩
open Go.RowKit
set_option maxRecDepth 100000
theorem pk20_ty24 : Tryd.prog.underlying 24 = some (.slice 5) := by kernel_rfl
theorem pk20_sz5 : ∀ w' : World, (sizeOf 5).run Tryd.prog w' = .ok 1 w' := fun _ => by kernel_rfl
theorem pk20_pl62 : Plain Tryd.prog 62 := fun _ _ => by kernel_rfl
theorem pk20_pl63 : Plain Tryd.prog 63 := fun _ _ => by kernel_rfl
theorem pk20_ty5 : Tryd.prog.underlying 5 = some (.int .u8) := by kernel_rfl
theorem pk20_pl64 : Plain Tryd.prog 64 := fun _ _ => by kernel_rfl
theorem pk20_pl65 : Plain Tryd.prog 65 := fun _ _ => by kernel_rfl
theorem pk20_pl66 : Plain Tryd.prog 66 := fun _ _ => by kernel_rfl
theorem pk20_pl26 : Plain Tryd.prog 26 := fun _ _ => by kernel_rfl
theorem pk20_ty59 : Tryd.prog.underlying 59 = some (.array 256 3) := by kernel_rfl
theorem pk20_ty3 : Tryd.prog.underlying 3 = some (.int .i64) := by kernel_rfl
theorem pk20_sz3 : ∀ w' : World, (sizeOf 3).run Tryd.prog w' = .ok 1 w' := fun _ => by kernel_rfl
theorem pk20_ty110 : Tryd.prog.underlying 110 = some (.slice 116) := by kernel_rfl
theorem pk20_szg116 : ∀ w' : World, (sizeOf 116).run Tryd.prog w' = .ok 35 w' := fun _ => by kernel_rfl
theorem pk20_ty116 : ∃ fs, Tryd.prog.underlying 116 = some (.struct fs) := struct_of (by kernel_rfl)
theorem pk20_isz116 : (Tryd.prog.info? 116).map (·.size) = some 35 := by kernel_rfl
theorem pk20_al116 {d : Option Tmp} {ty : TypeId} {pos : String} {af : Array Edge} {gd : Option (Nat × Bool)} (σ : Operand → Value) (w : World) : (execOp σ ⟨d, .alloc 116, ty, pos, af, gd⟩).run Tryd.prog w = .ok (.value (PQ w.heap.size 0)) (w.alloc (.cells (entC dEnt).toArray 116)) := by kernel_rfl
theorem pk20_fo116_2 : FieldOff Tryd.prog 116 2 2 := fun b o w => by simp [go_sem]
theorem pk20_ty38 : Tryd.prog.underlying 38 = some (.array 32 5) := by kernel_rfl
theorem pk20_isz38 : (Tryd.prog.info? 38).map (·.size) = some 32 := by kernel_rfl
theorem pk20_ty112 : Tryd.prog.underlying 112 = some (.map 38 116) := by kernel_rfl
theorem pk20_fo116_1 : FieldOff Tryd.prog 116 1 1 := fun b o w => by simp [go_sem]
theorem pk20_ty4 : Tryd.prog.underlying 4 = some (.bool) := by kernel_rfl
theorem pk20_bd120mm_01 (z0 : Nat) (z1 : Nat) (w : World) : (Instr.build 120 #[(0, .map (some z0)), (1, .map (some z1))]).run Tryd.prog w = .ok (.agg ([.map (some z0), .map (some z1)] : List Value).toArray) w := by kernel_rfl
theorem pk20_bd74sm_01 {z0 : Value} (h0 : ∃ ao n c, z0 = .slice ao n c) (z1 : Nat) (w : World) : (Instr.build 74 #[(0, z0), (1, .map (some z1))]).run Tryd.prog w = .ok (.agg ([z0, .map (some z1)] : List Value).toArray) w := by obtain ⟨_, _, _, rfl⟩ := h0; kernel_rfl
theorem pk20_ty47 : Tryd.prog.underlying 47 = some (.slice 38) := by kernel_rfl
theorem pk20_szg38 : ∀ w' : World, (sizeOf 38).run Tryd.prog w' = .ok 32 w' := fun _ => by kernel_rfl
theorem pk20_al38 {d : Option Tmp} {ty : TypeId} {pos : String} {af : Array Edge} {gd : Option (Nat × Bool)} (σ : Operand → Value) (w : World) : (execOp σ ⟨d, .alloc 38, ty, pos, af, gd⟩).run Tryd.prog w = .ok (.value (PQ w.heap.size 0)) (w.alloc (.cells (Lib.byteCells (List.replicate 32 0)).toArray 38)) := by kernel_rfl
theorem pk20_pl67 : Plain Tryd.prog 67 := fun _ _ => by kernel_rfl
theorem pk20_pl68 : Plain Tryd.prog 68 := fun _ _ => by kernel_rfl
theorem pk20_al81 {d : Option Tmp} {ty : TypeId} {pos : String} {af : Array Edge} {gd : Option (Nat × Bool)} (σ : Operand → Value) (w : World) : (execOp σ ⟨d, .alloc 81, ty, pos, af, gd⟩).run Tryd.prog w = .ok (.value (PQ w.heap.size 0)) (w.alloc (.cells ([(Value.slice none 0 0), NI 0]).toArray 81)) := by kernel_rfl
theorem pk20_isz81 : (Tryd.prog.info? 81).map (·.size) = some 2 := by kernel_rfl
theorem pk20_fo81_0 : FieldOff Tryd.prog 81 0 0 := fun b o w => by simp [go_sem]
theorem pk20_rows1_75 (ao : Option Addr) (n c : Nat) (w : World) : (Instr.buildSlice 75 1 #[(0, .slice ao n c)]).run Tryd.prog w = .ok (.slice (some ⟨w.heap.size, 0, none⟩) 1 1) (w.alloc (.cells #[.slice ao n c] 24)) := by kernel_rfl
theorem pk20_pl17 : Plain Tryd.prog 17 := fun _ _ => by kernel_rfl
theorem pk20_eg38 : Tryd.prog.eqGuardType Tryd.prog.depth 38 = false := by kernel_rfl
theorem pk20_fo74_1 : FieldOff Tryd.prog 74 1 1 := fun b o w => by simp [go_sem]
theorem pk20_ty72 : Tryd.prog.underlying 72 = some (.map 38 81) := by kernel_rfl
theorem pk20_bd81si_01 {z0 : Value} (h0 : ∃ ao n c, z0 = .slice ao n c) (z1 : Int) (w : World) : (Instr.build 81 #[(0, z0), (1, .int .i64 z1)]).run Tryd.prog w = .ok (.agg ([z0, .int .i64 z1] : List Value).toArray) w := by obtain ⟨_, _, _, rfl⟩ := h0; kernel_rfl
set_option maxHeartbeats 1600000
theorem read_any (w : World) (hG : Laid w) (v : Value) (b : Bs) (hr : RB w v b) (h36 : 36 ≤ b.length) (hb : b.length ≤ 1048576) :
  Calls Tryd.prog 37 #[v] w fun r w' => (∃ x, r = .returned x ∧ ∃ g vi bo ids O, x = PQ g 0 ∧ readP b = .ok (ids, fun k => (O k).map Prod.fst) ∧ w'.heap[g]? = some (.cells ([vi, .map (some bo)]).toArray 74 (0, 0)) ∧ RG 32 Lib.byteCells w' vi ids ∧ MapF rk objV (fun id : List UInt8 => id.length = 32) w' bo O ∧ OOk w' O ∧ Ext w w') ∨ ∃ ch, r = .panicked ch ∧ ∃ c, readP b = .error c ∧ ch = [stopE c] ∧ Ext w w' := by
 obtain ⟨f, hf⟩ : ∃ f, f = numP (b.drop (b.length - 36)) := ⟨_, rfl⟩
 refine calls_of_wpP (args := [v]) Tryd.func37 rfl 168 rfl (Nat.le_of_ble_eq_true rfl) ?_
 intro ρ0 hb
 have T0 : ρ0 0 = (v : Value) := hb.get 0
 clear hb
 have hE := Ext.refl w
 refine sk fun K1 hK1 => (wt (oA rfl (oZ (tN (hK1 _ _ (sk fun K2 hK2 => (wt (oM rfl (oS rfl (Yk.lenRB pk20_ty24 (RB.of (hr.keep hE) T0) (oS rfl (Yk.bin (xv := NI b.length) (yv := NI 36) rfl rfl rfl (i64_sub _ _ _ (by omega) (by omega)) (oA rfl (oZ (tN (hK2 _ _ (sk fun K3 hK3 => (wt (oM rfl ?_)))))))))))))))))))
 refine oM rfl (oS rfl (Yk.sliceLo (xs := b) (l := (b.length) - (36)) pk20_ty24 pk20_sz5 T0 (hr.keep hE) (vr (NI ((b.length) - (36))) rfl) (by omega) fun v4 hr5 ha6 => (oS rfl (Yk.callA1 pk20_pl62 (vr v4 rfl) (((show Calls _ _ _ _ (fun e w2 => e = .returned (NI (f)) ∧ Ext _ w2) from by rw [hf]; exact number_any_ _ v4 (b.drop ((b.length) - (36))) hr5 (by simp only [List.length_drop]; omega))).mono ?_)))))
 rintro e w8 ⟨rfl, hx7⟩
 refine ⟨_, rfl, ?_⟩
 have hE := hE.trans hx7
 have hr5 := hr5.keep hx7
 refine oA rfl (oZ ?_)
 rcases hd : lebDec 0 (b.drop 1) with _ | ⟨n, k⟩
 ·have hP : readP b = .error 6 := by unfold readP; rw [hd]
  by_cases h80 : (b.getD 0 0).toNat = 80
  ·refine tN (hK3 _ _ (sk fun K9 hK9 => (wt (oM rfl (oS rfl (Yk.callA2 pk20_pl63 T0 (vr (NI 1) rfl) (((show Calls _ _ _ _ (fun e w2 => e = .returned (.tuple #[NI 0, NI 0, NI 6]) ∧ Ext _ w2) from (get_in _ v b (hr.keep hE) 1 (by omega)).mono fun e w2 ⟨h1, h2⟩ => by subst h2; subst h1; rw [hd]; exact ⟨rfl, Ext.refl _⟩)).mono ?_)))))))
   rintro e w11 ⟨rfl, hx10⟩
   refine ⟨_, rfl, ?_⟩
   have hE := hE.trans hx10
   have hr5 := hr5.keep hx10
   refine oM rfl (oS rfl (Yk.extract (vs := [NI 0, NI 0, NI 6]) (vr (.tuple #[NI 0, NI 0, NI 6]) rfl) (show _ = some (NI 0 : Value) from rfl) (oS rfl (Yk.extract (vs := [NI 0, NI 0, NI 6]) (vr (.tuple #[NI 0, NI 0, NI 6]) rfl) (show _ = some (NI 0 : Value) from rfl) (oS rfl (Yk.extract (vs := [NI 0, NI 0, NI 6]) (vr (.tuple #[NI 0, NI 0, NI 6]) rfl) (show _ = some (NI 6 : Value) from rfl) (oA rfl (oA rfl (oA rfl (oZ (tN (hK9 _ _ (sk fun K12 hK12 => (wt (oM rfl (oS rfl (Yk.atRB (l := b) (i := 0) pk20_ty24 pk20_sz5 (RB.of (hr.keep hE) T0) (vr (NI 0) rfl) (by omega) fun v13 hp14 => (oS rfl (Yk.loadC pk20_ty5 rfl (PCell.of hp14 (vr v13 rfl)) (oS rfl (Yk.eqI (a := ((b.getD (0) 0).toNat : Nat)) (b := (80 : Nat)) rfl rfl (k_eql _ _ _ _) (oM rfl ?_))))))))))))))))))))))
   refine oY (d := 41) rfl rfl (vr (.bool (true)) (congrArg Value.bool (decide_eq_true (h80)))) (Yk.move (vr (NI 6) rfl) (oY (d := 41) rfl rfl (vr (.bool (true)) (congrArg Value.bool (decide_eq_true (h80)))) (Yk.eqI (a := (6 : Nat)) (b := (0 : Nat)) rfl rfl (k_eql _ _ _ _) (oS rfl (Yk.pickT (vr (.bool (true)) (congrArg Value.bool (decide_eq_true (h80)))) (vr (.bool (false)) (congrArg Value.bool (decide_eq_false (by decide)))) (oM rfl (oN (d := 45) rfl rfl rfl (vr (.bool (false)) rfl) rfl (oN (d := 45) rfl rfl rfl (vr (.bool (false)) rfl) rfl (oN (d := 45) rfl rfl rfl (vr (.bool (false)) rfl) rfl (oS rfl (Yk.pickF (vr (.bool (false)) rfl) (vr (.bool (false)) rfl) (oM rfl (oN (d := 50) rfl rfl rfl (vr (.bool (false)) rfl) rfl (oN (d := 50) rfl rfl rfl (vr (.bool (false)) rfl) rfl (oN (d := 50) rfl rfl rfl (vr (.bool (false)) rfl) rfl (oS rfl (Yk.pickF (vr (.bool (false)) rfl) (vr (.bool (false)) rfl) (oM rfl (oN (d := 55) rfl rfl rfl (vr (.bool (false)) rfl) rfl (oN (d := 55) rfl rfl rfl (vr (.bool (false)) rfl) rfl ?_))))))))))))))))))))
   refine oN (d := 55) rfl rfl rfl (vr (.bool (false)) rfl) rfl (oS rfl (Yk.pickF (vr (.bool (false)) rfl) (vr (.bool (false)) rfl) (oP rfl (Yp.callA2 pk20_pl64 (vr (.bool (false)) rfl) (vr (NI 6) rfl) ?_))))
   refine calls_either (need_any _ (false) 6) ?_ ?_
   rotate_left
   ·
    rintro ch w17 ⟨rfl, hb, hx⟩
    refine thenF_panic (postP_panic ?_)
    exact .inr ⟨_, rfl, 6, hP, rfl, hE.trans hx⟩
   rintro v_ w19 ⟨rfl, hb15, hx16⟩
   cases hb15
  refine tN (hK3 _ _ (sk fun K20 hK20 => (wt (oM rfl (oS rfl (Yk.callA2 pk20_pl63 T0 (vr (NI 1) rfl) (((show Calls _ _ _ _ (fun e w2 => e = .returned (.tuple #[NI 0, NI 0, NI 6]) ∧ Ext _ w2) from (get_in _ v b (hr.keep hE) 1 (by omega)).mono fun e w2 ⟨h1, h2⟩ => by subst h2; subst h1; rw [hd]; exact ⟨rfl, Ext.refl _⟩)).mono ?_)))))))
  rintro e w22 ⟨rfl, hx21⟩
  refine ⟨_, rfl, ?_⟩
  have hE := hE.trans hx21
  have hr5 := hr5.keep hx21
  refine oM rfl (oS rfl (Yk.extract (vs := [NI 0, NI 0, NI 6]) (vr (.tuple #[NI 0, NI 0, NI 6]) rfl) (show _ = some (NI 0 : Value) from rfl) (oS rfl (Yk.extract (vs := [NI 0, NI 0, NI 6]) (vr (.tuple #[NI 0, NI 0, NI 6]) rfl) (show _ = some (NI 0 : Value) from rfl) (oS rfl (Yk.extract (vs := [NI 0, NI 0, NI 6]) (vr (.tuple #[NI 0, NI 0, NI 6]) rfl) (show _ = some (NI 6 : Value) from rfl) (oA rfl (oA rfl (oA rfl (oZ (tN (hK20 _ _ (sk fun K23 hK23 => (wt (oM rfl (oS rfl (Yk.atRB (l := b) (i := 0) pk20_ty24 pk20_sz5 (RB.of (hr.keep hE) T0) (vr (NI 0) rfl) (by omega) fun v24 hp25 => (oS rfl (Yk.loadC pk20_ty5 rfl (PCell.of hp25 (vr v24 rfl)) (oS rfl (Yk.eqI (a := ((b.getD (0) 0).toNat : Nat)) (b := (80 : Nat)) rfl rfl (k_eql _ _ _ _) (oM rfl ?_))))))))))))))))))))))
  refine oN (d := 41) rfl rfl rfl (vr (.bool (false)) (congrArg Value.bool (decide_eq_false (h80)))) rfl (oN (d := 41) rfl rfl rfl (vr (.bool (false)) (congrArg Value.bool (decide_eq_false (h80)))) rfl (oS rfl (Yk.pickF (vr (.bool (false)) (congrArg Value.bool (decide_eq_false (h80)))) (vr (.bool (false)) rfl) (oM rfl (oN (d := 45) rfl rfl rfl (vr (.bool (false)) rfl) rfl (oN (d := 45) rfl rfl rfl (vr (.bool (false)) rfl) rfl (oN (d := 45) rfl rfl rfl (vr (.bool (false)) rfl) rfl (oS rfl (Yk.pickF (vr (.bool (false)) rfl) (vr (.bool (false)) rfl) (oM rfl (oN (d := 50) rfl rfl rfl (vr (.bool (false)) rfl) rfl (oN (d := 50) rfl rfl rfl (vr (.bool (false)) rfl) rfl (oN (d := 50) rfl rfl rfl (vr (.bool (false)) rfl) rfl (oS rfl (Yk.pickF (vr (.bool (false)) rfl) (vr (.bool (false)) rfl) (oM rfl (oN (d := 55) rfl rfl rfl (vr (.bool (false)) rfl) rfl (oN (d := 55) rfl rfl rfl (vr (.bool (false)) rfl) rfl ?_))))))))))))))))))
  refine oN (d := 55) rfl rfl rfl (vr (.bool (false)) rfl) rfl (oS rfl (Yk.pickF (vr (.bool (false)) rfl) (vr (.bool (false)) rfl) (oP rfl (Yp.callA2 pk20_pl64 (vr (.bool (false)) rfl) (vr (NI 6) rfl) ?_))))
  refine calls_either (need_any _ (false) 6) ?_ ?_
  rotate_left
  ·
   rintro ch w28 ⟨rfl, hb, hx⟩
   refine thenF_panic (postP_panic ?_)
   exact .inr ⟨_, rfl, 6, hP, rfl, hE.trans hx⟩
  rintro v_ w30 ⟨rfl, hb26, hx27⟩
  cases hb26
 have hP0 : readP b = readA b f n (1 + k) := by unfold readP; rw [hd]; show readA b (numP _) n (1 + k) = _; rw [← hf]
 by_cases h80 : (b.getD 0 0).toNat = 80
 ·by_cases q1 : 1 + k ≤ f
  ·by_cases q2 : f ≤ b.length - 36
   ·by_cases q3 : n ≤ b.length - 36
    ·have hA : b.getD 0 0 = 80 ∧ 1 + k ≤ f ∧ f ≤ b.length - 36 ∧ n ≤ b.length - 36 := ⟨UInt8.toNat_inj.1 (by rw [h80]; rfl), q1, q2, q3⟩
     refine tN (hK3 _ _ (sk fun K31 hK31 => (wt (oM rfl (oS rfl (Yk.callA2 pk20_pl63 T0 (vr (NI 1) rfl) (((show Calls _ _ _ _ (fun e w2 => e = .returned (.tuple #[NI n, NI (1 + k), NI 0]) ∧ Ext _ w2) from (get_in _ v b (hr.keep hE) 1 (by omega)).mono fun e w2 ⟨h1, h2⟩ => by subst h2; subst h1; rw [hd]; exact ⟨rfl, Ext.refl _⟩)).mono ?_)))))))
     rintro e w33 ⟨rfl, hx32⟩
     refine ⟨_, rfl, ?_⟩
     have hE := hE.trans hx32
     have hr5 := hr5.keep hx32
     refine oM rfl (oS rfl (Yk.extract (vs := [NI n, NI (1 + k), NI 0]) (vr (.tuple #[NI n, NI (1 + k), NI 0]) rfl) (show _ = some (NI n : Value) from rfl) (oS rfl (Yk.extract (vs := [NI n, NI (1 + k), NI 0]) (vr (.tuple #[NI n, NI (1 + k), NI 0]) rfl) (show _ = some (NI (1 + k) : Value) from rfl) (oS rfl (Yk.extract (vs := [NI n, NI (1 + k), NI 0]) (vr (.tuple #[NI n, NI (1 + k), NI 0]) rfl) (show _ = some (NI 0 : Value) from rfl) (oA rfl (oA rfl (oA rfl (oZ (tN (hK31 _ _ (sk fun K34 hK34 => (wt (oM rfl (oS rfl (Yk.atRB (l := b) (i := 0) pk20_ty24 pk20_sz5 (RB.of (hr.keep hE) T0) (vr (NI 0) rfl) (by omega) fun v35 hp36 => (oS rfl (Yk.loadC pk20_ty5 rfl (PCell.of hp36 (vr v35 rfl)) (oS rfl (Yk.eqI (a := ((b.getD (0) 0).toNat : Nat)) (b := (80 : Nat)) rfl rfl (k_eql _ _ _ _) (oM rfl ?_))))))))))))))))))))))
     refine oY (d := 41) rfl rfl (vr (.bool (true)) (congrArg Value.bool (decide_eq_true (h80)))) (Yk.move (vr (NI 0) rfl) (oY (d := 41) rfl rfl (vr (.bool (true)) (congrArg Value.bool (decide_eq_true (h80)))) (Yk.eqI (a := (0 : Nat)) (b := (0 : Nat)) rfl rfl (k_eql _ _ _ _) (oS rfl (Yk.pickT (vr (.bool (true)) (congrArg Value.bool (decide_eq_true (h80)))) (vr (.bool (true)) (congrArg Value.bool (decide_eq_true (rfl)))) (oM rfl (oY (d := 45) rfl rfl (vr (.bool (true)) rfl) (Yk.move (vr (NI f) rfl) (oY (d := 45) rfl rfl (vr (.bool (true)) rfl) (Yk.move (vr (NI (1 + k)) rfl) (oY (d := 45) rfl rfl (vr (.bool (true)) rfl) (Yk.eqI (a := (f : Nat)) (b := (1 + k : Nat)) rfl rfl (k_geq _ _ _ _) (oS rfl (Yk.pickT (vr (.bool (true)) rfl) (vr (.bool (true)) (congrArg Value.bool (decide_eq_true (q1)))) (oM rfl (oY (d := 50) rfl rfl (vr (.bool (true)) rfl) (Yk.move (vr (NI f) rfl) (oY (d := 50) rfl rfl (vr (.bool (true)) rfl) (Yk.move (vr (NI ((b.length) - (36))) rfl) (oY (d := 50) rfl rfl (vr (.bool (true)) rfl) (Yk.eqI (a := (f : Nat)) (b := ((b.length) - (36) : Nat)) rfl rfl (k_leq _ _ _ _) (oS rfl (Yk.pickT (vr (.bool (true)) rfl) (vr (.bool (true)) (congrArg Value.bool (decide_eq_true (q2)))) (oM rfl (oY (d := 55) rfl rfl (vr (.bool (true)) rfl) (Yk.move (vr (NI n) rfl) (oY (d := 55) rfl rfl (vr (.bool (true)) rfl) (Yk.move (vr (NI ((b.length) - (36))) rfl) ?_))))))))))))))))))))))))))))
     refine oY (d := 55) rfl rfl (vr (.bool (true)) rfl) (Yk.eqI (a := (n : Nat)) (b := ((b.length) - (36) : Nat)) rfl rfl (k_leq _ _ _ _) (oS rfl (Yk.pickT (vr (.bool (true)) rfl) (vr (.bool (true)) (congrArg Value.bool (decide_eq_true (q3)))) (oP rfl (Yp.callA2 pk20_pl64 (vr (.bool (true)) rfl) (vr (NI 6) rfl) ?_)))))
     refine calls_either (need_any _ (true) 6) ?_ ?_
     rotate_left
     ·
      rintro ch w39 ⟨rfl, hb, hx⟩
      refine thenF_panic (postP_panic ?_)
      cases hb
     rintro v_ w41 ⟨rfl, hb37, hx38⟩
     have hE := hE.trans hx38
     have hr5 := hr5.keep hx38
     have hp36 := hp36.keep hx38
     refine oL_ [(0, v), (2, .pointer none), (3, NI ((b.length) - (36))), (4, NI f), (5, NI n), (6, NI (1 + k)), (7, NI 0)] ⟨T0, rfl, rfl, rfl, rfl, rfl, rfl, trivial⟩ fun ρ42 ⟨T0, T2, T3, T4, T5, T6, T7, _⟩ => ?_
     clear hp36
     refine tN (hK34 _ _ (sk fun K43 hK43 => (wt (oM rfl (oM rfl (oS rfl (Yk.bin (xv := NI ((b.length) - (36))) (yv := NI f) T3 T4 rfl (i64_sub _ _ _ (by omega) (by omega)) (oM rfl (oS rfl (Yk.bin (xv := NI 36) (yv := NI n) rfl T5 rfl (i64_mul _ _ _ (by omega)) (oS rfl (Yk.bin (xv := NI 1024) (yv := NI ((36) * (n))) rfl rfl rfl (i64_add _ _ _ (by omega)) (oS rfl (Yk.eqI (a := (((b.length) - (36)) - (f) : Nat)) (b := ((1024) + ((36) * (n)) : Nat)) rfl rfl (k_eql _ _ _ _) (oP rfl (Yp.callA2 pk20_pl64 (vr (.bool (decide ((((b.length) - (36)) - (f) : Nat) = ((1024) + ((36) * (n)))))) rfl) (vr (NI 6) rfl) ?_))))))))))))))))
     refine calls_either (need_any _ (decide ((((b.length) - (36)) - (f) : Nat) = ((1024) + ((36) * (n))))) 6) ?_ ?_
     rotate_left
     ·
      rintro ch w46 ⟨rfl, hb, hx⟩
      refine thenF_panic (postP_panic ?_)
      have hno := of_decide_eq_false hb
      exact .inr ⟨_, rfl, 6, hP0.trans ((if_pos hA).trans (if_neg hno)), rfl, hE.trans hx⟩
     rintro v_ w48 ⟨rfl, hb44, hx45⟩
     have hE := hE.trans hx45
     have hr5 := hr5.keep hx45
     have hn49 := of_decide_eq_true hb44
     refine oZ ?_
     have hq5 := hn49
     have hP1 : readP b = readB b n (1 + k) f := hP0.trans ((if_pos hA).trans (if_pos hq5))
     refine tN (hK43 _ _ (sk fun K50 hK50 => (wt (oM rfl (oM rfl (oM rfl (oM rfl (oP rfl (Yp.callA4 pk20_pl65 T0 T5 T6 T4 ?_)))))))))
     refine calls_either (entries_any _ v b (hr.keep hE) n (1 + k) f (by omega) (by omega) (by omega) (by omega)) ?_ ?_
     rotate_left
     ·
      rintro ch w55 ⟨hno, rfl, hx⟩
      refine thenF_panic (postP_panic ?_)
      exact .inr ⟨_, rfl, 6, hP1.trans (by unfold readB; rw [hno]), rfl, hE.trans hx⟩
     rintro v51 w57 ⟨es, hes, hg52, hok53, hx54⟩
     have hE := hE.trans hx54
     have hr5 := hr5.keep hx54
     have hok := hok53
     have hel := entriesP_len hes (by omega)
     rw [List.length_map] at hel
     have heln := hel.1
     have hP2 : readP b = readC b f (es.map Prod.fst) := hP1.trans (by unfold readB; rw [hes])
     refine oA rfl (oZ (tN (hK50 _ _ (sk fun K58 hK58 => (wt (oM rfl (oM rfl (oS rfl (Yk.bin (xv := NI f) (yv := NI 1024) T4 rfl rfl (i64_add _ _ _ (by omega)) (oM rfl (oS rfl (Yk.sliceLH (xs := b) (l := (f) + (1024)) (n := (b.length) - (36)) pk20_ty24 pk20_sz5 T0 (hr.keep hE) (vr (NI ((f) + (1024))) rfl) T3 (by omega) (by omega) fun v59 hr60 ha61 => (oM rfl (oP rfl (Yp.callA2 pk20_pl66 (vr v59 rfl) (vr v51 rfl) ?_)))))))))))))))
     refine calls_either (pindex_any _ v59 ((b.drop (f + 1024)).take (b.length - 36 - (f + 1024))) hr60 v51 es hg52 hok (by rw [List.length_take, List.length_drop]; omega) (by omega)) ?_ ?_
     rotate_left
     ·
      rintro ch w67 ⟨hno, rfl, hx⟩
      refine thenF_panic (postP_panic ?_)
      exact .inr ⟨_, rfl, 6, hP2.trans (by unfold readC; rw [List.length_map, ixGo_plain, hno]; rfl), rfl, hE.trans hx⟩
     rintro v_ w69 ⟨s, v62, n63, his, rfl, hg64, hm65, hx66⟩
     have hA70 := Ext.refl w57
     have hea71 := hE
     have hz72 := hE.size
     have hE := hE.trans hx66
     have hA70 := hA70.trans hx66
     have hI := ixGo_ok _ _ his
     have hMO : MOk w69 s.M := MOk.of (hok.keep hA70) hI hel.2 (by omega)
     have hA73 := Ext.refl w69
     have hea74 := hE
     have hea75 := hA70
     have hz76 := hE.size
     have hz77 := hA70.size
     have hIl := hI.len
     have hlbe := hm65.lt
     have hP3 : readP b = readD b f (es.map Prod.fst) s.plain := hP2.trans (by unfold readC; rw [List.length_map, ixGo_plain, his]; rfl)
     refine oM rfl (oS rfl (Yk.extract (vs := [v62, .map (some n63)]) (vr (.tuple #[v62, .map (some n63)]) rfl) (show _ = some (v62 : Value) from rfl) (oS rfl (Yk.extract (vs := [v62, .map (some n63)]) (vr (.tuple #[v62, .map (some n63)]) rfl) (show _ = some (.map (some n63) : Value) from rfl) (oA rfl (oA rfl (oZ (tN (hK58 _ _ (sk fun K78 hK78 => (sk fun K79 hK79 => (wt (oM rfl (oS rfl (Yk.callA1 pk20_pl26 (vr v62 rfl) ((fan_any _ v62 s.ids (hg64.keep hA73)).mono ?_))))))))))))))))
     rintro e w81 ⟨rfl, hx80⟩
     refine ⟨_, rfl, ?_⟩
     have hE := hE.trans hx80
     have hA70 := hA70.trans hx80
     have hm65 := hm65.keep hx80
     have hA73 := hA73.trans hx80
     refine oM rfl (oL_ [(0, v), (2, .pointer none), (3, NI ((b.length) - (36))), (4, NI f), (5, NI n), (6, NI (1 + k)), (7, NI 0), (8, v51), (9, v62), (10, .map (some n63)), (85, .agg ((fanL (s.ids)).map fun x => NI x).toArray), (86, NI 0)] ⟨T0, T2, T3, T4, T5, T6, T7, rfl, rfl, rfl, rfl, rfl, trivial⟩ fun ρ82 ⟨T0, T2, T3, T4, T5, T6, T7, T8, T9, T10, T85, T86, _⟩ => (tN (hK79 _ _ (wpF_block (wpF_loop (fun (ρ : Slots) (wz : World) => ∃ m : Nat, ρ 0 = (v : Value) ∧ ρ 2 = (.pointer none : Value) ∧ ρ 3 = (NI ((b.length) - (36)) : Value) ∧ ρ 4 = (NI f : Value) ∧ ρ 5 = (NI n : Value) ∧ ρ 6 = (NI (1 + k) : Value) ∧ ρ 7 = (NI 0 : Value) ∧ ρ 8 = (v51 : Value) ∧ ρ 9 = (v62 : Value) ∧ ρ 10 = (.map (some n63) : Value) ∧ ρ 85 = (.agg ((fanL (s.ids)).map fun x => NI x).toArray : Value) ∧ ρ 86 = (NI m : Value) ∧ Ext w wz ∧ Ext w57 wz ∧ MapF rk entV (fun id : List UInt8 => id.length = 32) wz n63 s.M ∧ Ext w69 wz ∧ (m ≤ 256) ∧ (∀ j, j < m → numP (b.drop (f + 4 * j)) = (fanL s.ids).getD j 0) ∧ True) (fun ρ _ => 256 - (intOf (ρ 86)).toNat) ⟨0, T0, T2, T3, T4, T5, T6, T7, T8, T9, T10, T85, T86, hE, hA70, hm65, hA73, Nat.zero_le _, fun j hj => absurd hj (Nat.not_lt_zero _), trivial⟩ ?_)))))
     clear hE hA70 hm65 hA73
     rintro ρ83 w84 ⟨m, T0, T2, T3, T4, T5, T6, T7, T8, T9, T10, T85, T86, hE, hA70, hm65, hA73, hm, hfan, -⟩
     have q86 := T86
     refine sk fun K85 hK85 => (wt (oS rfl (Yk.eqI (a := (m : Nat)) (b := (256 : Nat)) T86 rfl (k_lss _ _ _ _) (oZ (tN (hK85 _ _ (sk fun K86 hK86 => ?_)))))))
     refine wpF_cond ((m) < (256)) (vr (.bool (decide ((m) < (256)))) rfl) (fun hc0 => ?_) (fun hc0 => ?_)
     ·refine wpF_skip (tN (hK86 _ _ (sk fun K87 hK87 => (wpF_block (sk fun K88 hK88 => (wt (oM rfl (oS rfl (Yk.idxN (l := fanL (s.ids)) (i := m) pk20_ty59 pk20_ty3 rfl pk20_sz3 T85 T86 (by omega) (by rw [fanL_len]) (oA rfl (oA rfl (oZ (tN (hK88 _ _ (wt (oM rfl (oM rfl (oM rfl ?_))))))))))))))))))
      refine oS rfl (Yk.bin (xv := NI 4) (yv := NI m) rfl T86 rfl (i64_mul _ _ _ (by omega)) (oS rfl (Yk.bin (xv := NI f) (yv := NI ((4) * (m))) T4 rfl rfl (i64_add _ _ _ (by omega)) (oS rfl (Yk.sliceLo (xs := b) (l := (f) + ((4) * (m))) pk20_ty24 pk20_sz5 T0 (hr.keep hE) (vr (NI ((f) + ((4) * (m)))) rfl) (by omega) fun v89 hr90 ha91 => (oS rfl (Yk.callA1 pk20_pl62 (vr v89 rfl) (((show Calls _ _ _ _ (fun e w2 => e = .returned (NI (numP (b.drop (f + 4 * m)))) ∧ Ext _ w2) from by skip; exact number_any_ _ v89 (b.drop ((f) + ((4) * (m)))) hr90 (by simp only [List.length_drop]; omega))).mono ?_))))))))
      rintro e w93 ⟨rfl, hx92⟩
      refine ⟨_, rfl, ?_⟩
      have hE := hE.trans hx92
      have hA70 := hA70.trans hx92
      have hm65 := hm65.keep hx92
      have hA73 := hA73.trans hx92
      have hr90 := hr90.keep hx92
      refine oM rfl (oS rfl (Yk.eqI (a := (numP (b.drop (f + 4 * m)) : Nat)) (b := ((fanL (s.ids)).getD (m) 0 : Nat)) rfl rfl (k_eql _ _ _ _) (oP rfl (Yp.callA2 pk20_pl64 (vr (.bool (decide ((numP (b.drop (f + 4 * m)) : Nat) = ((fanL (s.ids)).getD (m) 0)))) rfl) (vr (NI 6) rfl) ?_))))
      refine calls_either (need_any _ (decide ((numP (b.drop (f + 4 * m)) : Nat) = ((fanL (s.ids)).getD (m) 0))) 6) ?_ ?_
      rotate_left
      ·
       rintro ch w96 ⟨rfl, hb, hx⟩
       refine inBlockF_panic (thenF_panic (thenF_panic (inBlockF_panic (thenF_panic (postP_panic ?_)))))
       have hno := of_decide_eq_false hb
       exact .inr ⟨_, rfl, 6, hP3.trans (if_neg (fun h => hno (fanB_at h (by omega)))), rfl, hE.trans hx⟩
      rintro v_ w98 ⟨rfl, hb94, hx95⟩
      have hE := hE.trans hx95
      have hA70 := hA70.trans hx95
      have hm65 := hm65.keep hx95
      have hA73 := hA73.trans hx95
      have hr90 := hr90.keep hx95
      have hn99 := of_decide_eq_true hb94
      refine oZ (bN (tN (hK87 _ _ (wt (oS rfl (Yk.bin (xv := NI m) (yv := NI 1) T86 rfl rfl (i64_add _ _ _ (by omega)) (oM rfl (oL_ [(0, v), (2, .pointer none), (3, NI ((b.length) - (36))), (4, NI f), (5, NI n), (6, NI (1 + k)), (7, NI 0), (8, v51), (9, v62), (10, .map (some n63)), (11, NI m), (12, NI ((fanL (s.ids)).getD (m) 0)), (85, .agg ((fanL (s.ids)).map fun x => NI x).toArray), (86, NI ((m) + (1)))] ⟨T0, T2, T3, T4, T5, T6, T7, T8, T9, T10, T86, rfl, T85, rfl, trivial⟩ fun ρ100 ⟨T0, T2, T3, T4, T5, T6, T7, T8, T9, T10, T11, T12, T85, T86, _⟩ => (tN (And.intro ⟨m + 1, T0, T2, T3, T4, T5, T6, T7, T8, T9, T10, T85, T86, hE, hA70, hm65, hA73, by omega, fun j hj => by by_cases e : j = m; subst e; exact hn99; exact hfan j (by omega), trivial⟩ ?_))))))))))
      show 256 - (intOf (ρ100 86)).toNat < 256 - (intOf (ρ83 86)).toNat
      rw [T86, q86]
      simp only [intOf, Int.toNat_natCast]; omega
     have hfb := fanB_of (fun j hj => hfan j (by omega))
     have hP4 : readP b = (if basesB (es.map Prod.fst) s.plain.M = true then readE (entOf s.plain.M) s.plain.ids else .error 6) := hP3.trans (if_pos hfb)
     refine wpF_exit (thenF_exit (thenF_exit (inBlockF_hit (tN (hK78 _ _ (sk fun K101 hK101 => (sk fun K102 hK102 => (wt (oM rfl (oS rfl (Yk.lenRG pk20_ty110 (RG.of (hg52.keep hA70) T8) (oM rfl (oL_ [(0, v), (2, .pointer none), (3, NI ((b.length) - (36))), (4, NI f), (5, NI n), (6, NI (1 + k)), (7, NI 0), (8, v51), (9, v62), (10, .map (some n63)), (85, .agg ((fanL (s.ids)).map fun x => NI x).toArray), (86, NI m), (101, v51), (102, NI es.length), (103, NI 0)] ⟨T0, T2, T3, T4, T5, T6, T7, T8, T9, T10, T85, T86, T8, rfl, rfl, trivial⟩ fun ρ103 ⟨T0, T2, T3, T4, T5, T6, T7, T8, T9, T10, T85, T86, T101, T102, T103, _⟩ => (tN (hK102 _ _ (wpF_block (wpF_loop (fun (ρ : Slots) (wz : World) => ∃ q : Nat, ρ 0 = (v : Value) ∧ ρ 2 = (.pointer none : Value) ∧ ρ 3 = (NI ((b.length) - (36)) : Value) ∧ ρ 4 = (NI f : Value) ∧ ρ 5 = (NI n : Value) ∧ ρ 6 = (NI (1 + k) : Value) ∧ ρ 7 = (NI 0 : Value) ∧ ρ 8 = (v51 : Value) ∧ ρ 9 = (v62 : Value) ∧ ρ 10 = (.map (some n63) : Value) ∧ ρ 85 = (.agg ((fanL (s.ids)).map fun x => NI x).toArray : Value) ∧ ρ 86 = (NI m : Value) ∧ ρ 101 = (v51 : Value) ∧ ρ 102 = (NI es.length : Value) ∧ ρ 103 = (NI q : Value) ∧ Ext w wz ∧ Ext w57 wz ∧ MapF rk entV (fun id : List UInt8 => id.length = 32) wz n63 s.M ∧ Ext w69 wz ∧ (q ≤ es.length) ∧ (∀ j, j < q → (es.getD j dEnt).1.based = true → s.M (es.getD j dEnt).1.base ≠ none) ∧ True) (fun ρ _ => es.length - (intOf (ρ 103)).toNat) ⟨0, T0, T2, T3, T4, T5, T6, T7, T8, T9, T10, T85, T86, T101, T102, T103, hE, hA70, hm65, hA73, Nat.zero_le _, fun j hj => absurd hj (Nat.not_lt_zero _), trivial⟩ ?_)))))))))))))))))
     clear hE hA70 hm65 hA73
     rintro ρ104 w105 ⟨q, T0, T2, T3, T4, T5, T6, T7, T8, T9, T10, T85, T86, T101, T102, T103, hE, hA70, hm65, hA73, hq, hbs, -⟩
     have q103 := T103
     refine sk fun K106 hK106 => (wt (oS rfl (Yk.eqI (a := (q : Nat)) (b := (es.length : Nat)) T103 T102 (k_lss _ _ _ _) (oZ (tN (hK106 _ _ (sk fun K107 hK107 => ?_)))))))
     refine wpF_cond ((q) < (es.length)) (vr (.bool (decide ((q) < (es.length)))) rfl) (fun hc1 => ?_) (fun hc1 => ?_)
     ·have hc2_ : q < es.length := hc1
      have hcl := hok _ (getD_mem dEnt (l := es) (i := q) hc2_)
      rcases hl : s.M (es.getD (q) dEnt).1.base with _ | c
      ·rcases hbx : (es.getD (q) dEnt).1.based with _ | _
       ·refine wpF_skip (tN (hK107 _ _ (sk fun K108 hK108 => (wpF_block (sk fun K109 hK109 => (wt ?_))))))
        have hl112 : (entC (es.getD (q) dEnt)).length = 35 := (RG.elem (hg52.keep hA70) dEnt (by omega))
        refine oS rfl (Yk.atRG pk20_ty110 pk20_szg116 (by decide) dEnt (RG.of (hg52.keep hA70) T101) T103 (by omega) fun v110 hp111 => (oS rfl (Yk.loadPR (PR.of hp111 (vr v110 rfl)) (pk20_ty116).choose_spec rfl (by rw [hl112]; exact pk20_isz116) (oS rfl (Yk.alloc (cs := (entC dEnt).toArray) pk20_al116 fun n113 w114 hn115 hb116 hx117 hs118 => ?_)))))
        have hA119 := Ext.refl w105
        have hea120 := hE
        have hea121 := hA70
        have hea122 := hA73
        have hz123 := hE.size
        have hz124 := hA70.size
        have hz125 := hA73.size
        have hlt126 := lte hm65.lt hn115
        have hE := hE.trans hx117
        have hA70 := hA70.trans hx117
        have hm65 := hm65.keep hx117
        have hA73 := hA73.trans hx117
        have hA119 := hA119.trans hx117
        have hb127 := hb116; clear hb116
        have hl128 : n113 < w114.heap.size := by omega
        refine oS rfl (Yk.storeAll (vr (PQ n113 0) rfl) (vr (.agg (entC (es.getD (q) dEnt)).toArray) rfl) hb127 (entC_size (x := ((es.getD (q) dEnt) : EntV)) (y := (dEnt : EntV)) hcl.2 (by simp [dEnt])) (entC_isz (x := ((es.getD (q) dEnt) : EntV)) pk20_isz116 hcl.2) (entC_one (x := ((es.getD (q) dEnt) : EntV)) (RB.one hcl.1).2) fun w129 hb130 hg131 hs132 => ?_)
        have hE := row_fresh hE hg131 (Nat.le_trans hz123 (by omega))
        have hA70 := row_fresh hA70 hg131 (Nat.le_trans hz124 (by omega))
        have hm65 := MapF.other hm65 hg131 (some_ne (by omega))
        have hA73 := row_fresh hA73 hg131 (Nat.le_trans hz125 (by omega))
        have hA119 := row_fresh hA119 hg131 (Nat.le_trans (Nat.le_refl _) (by omega))
        clear hb127
        have hb127 := hb130; clear hb130
        have hl133 := bl hb127
        refine oZ ?_
        clear hp111
        refine tN (hK109 _ _ (sk fun K134 hK134 => (wt (oM rfl (oS rfl (Yk.fieldAt pk20_fo116_2 (vr (PQ n113 0) rfl) (oS rfl (Yk.loadPart (vr (PQ n113 2) rfl) (entC_range (x := ((es.getD (q) dEnt) : EntV)) hb127) pk20_ty38 rfl (by rw [Lib.byteCells_length, hcl.2]; exact pk20_isz38) (oS rfl (Yk.lookOkN (ek := rk) (ev := entV) (D := (fun id : List UInt8 => id.length = 32)) idLaw id_ok (fun _ _ => rk_inj) pk20_ty112 (z := entV dEnt) zeroEnt T10 (vr (AB (((es.getD (q) dEnt)).1.base)) rfl) hm65 hcl.2 hl (oM rfl (oS rfl (Yk.extract (vs := [.agg (entC (dEnt)).toArray, .bool (false)]) (vr (.tuple #[.agg (entC (dEnt)).toArray, .bool (false)]) rfl) (show _ = some (.agg (entC (dEnt)).toArray : Value) from rfl) (oS rfl (Yk.extract (vs := [.agg (entC (dEnt)).toArray, .bool (false)]) (vr (.tuple #[.agg (entC (dEnt)).toArray, .bool (false)]) rfl) (show _ = some (.bool (false) : Value) from rfl) (oS rfl (Yk.alloc (cs := (entC dEnt).toArray) pk20_al116 fun n135 w136 hn137 hb138 hx139 hs140 => ?_)))))))))))))))))
        have hA141 := Ext.refl w129
        have hea142 := hE
        have hea143 := hA70
        have hea144 := hA73
        have hea145 := hA119
        have hz146 := hE.size
        have hz147 := hA70.size
        have hz148 := hA73.size
        have hz149 := hA119.size
        have hlt150 := lte hm65.lt hn137
        have hlt151 := lte (bl hb127) hn137
        have hE := hE.trans hx139
        have hA70 := hA70.trans hx139
        have hm65 := hm65.keep hx139
        have hA73 := hA73.trans hx139
        have hA119 := hA119.trans hx139
        have hb127 := eb hx139 hb127
        have hA141 := hA141.trans hx139
        have hb152 := hb138; clear hb138
        have hl153 : n135 < w136.heap.size := by omega
        refine oS rfl (Yk.storeAll (vr (PQ n135 0) rfl) (vr (.agg (entC (dEnt)).toArray) rfl) hb152 (entC_size (x := ((dEnt) : EntV)) (y := (dEnt : EntV)) (by simp [dEnt]) (by simp [dEnt])) (entC_isz (x := ((dEnt) : EntV)) pk20_isz116 (by simp [dEnt])) (entC_one (x := ((dEnt) : EntV)) rfl) fun w154 hb155 hg156 hs157 => ?_)
        have hE := row_fresh hE hg156 (Nat.le_trans hz146 (by omega))
        have hA70 := row_fresh hA70 hg156 (Nat.le_trans hz147 (by omega))
        have hm65 := MapF.other hm65 hg156 (some_ne (by omega))
        have hA73 := row_fresh hA73 hg156 (Nat.le_trans hz148 (by omega))
        have hA119 := row_fresh hA119 hg156 (Nat.le_trans hz149 (by omega))
        have hb127 := kb hg156 hb127 (by omega)
        have hA141 := row_fresh hA141 hg156 (Nat.le_trans (Nat.le_refl _) (by omega))
        clear hb152
        have hb152 := hb155; clear hb155
        have hl158 := bl hb152
        refine oA rfl (oZ (tN (hK134 _ _ (wt (oS rfl (Yk.fieldAt pk20_fo116_1 (vr (PQ n113 0) rfl) (oS rfl (Yk.cell1 pk20_ty4 rfl (vr (PQ n113 1) rfl) (cellAt hb127 ((show (entC ((es.getD (q) dEnt)))[1]? = some (.bool false : Value) from congrArg (fun b => some (Value.bool b)) hbx))) (oS rfl (Yk.notB (vr (.bool (false)) rfl) (oM rfl (oN (d := 117) rfl rfl rfl (vr (.bool (true)) rfl) rfl (oS rfl (Yk.pickT (vr (.bool (true)) rfl) (vr (.bool (true)) rfl) (oP rfl (Yp.callA2 pk20_pl64 (vr (.bool (true)) rfl) (vr (NI 6) rfl) ?_))))))))))))))))
        refine calls_either (need_any _ (true) 6) ?_ ?_
        rotate_left
        ·
         rintro ch w161 ⟨rfl, hb, hx⟩
         refine inBlockF_panic (thenF_panic (thenF_panic (inBlockF_panic (thenF_panic (postP_panic ?_)))))
         cases hb
        rintro v_ w163 ⟨rfl, hb159, hx160⟩
        have hE := hE.trans hx160
        have hA70 := hA70.trans hx160
        have hm65 := hm65.keep hx160
        have hA73 := hA73.trans hx160
        have hA119 := hA119.trans hx160
        have hb127 := eb hx160 hb127
        have hA141 := hA141.trans hx160
        have hb152 := eb hx160 hb152
        refine oZ (bN (tN (hK108 _ _ (wt (oS rfl (Yk.bin (xv := NI q) (yv := NI 1) T103 rfl rfl (i64_add _ _ _ (by omega)) (oM rfl (oL_ [(0, v), (2, .pointer none), (3, NI ((b.length) - (36))), (4, NI f), (5, NI n), (6, NI (1 + k)), (7, NI 0), (8, v51), (9, v62), (10, .map (some n63)), (14, PQ n113 0), (16, .bool (false)), (85, .agg ((fanL (s.ids)).map fun x => NI x).toArray), (86, NI m), (101, v51), (102, NI es.length), (103, NI ((q) + (1)))] ⟨T0, T2, T3, T4, T5, T6, T7, T8, T9, T10, rfl, rfl, T85, T86, T101, T102, rfl, trivial⟩ fun ρ164 ⟨T0, T2, T3, T4, T5, T6, T7, T8, T9, T10, T14, T16, T85, T86, T101, T102, T103, _⟩ => (tN (And.intro ⟨q + 1, T0, T2, T3, T4, T5, T6, T7, T8, T9, T10, T85, T86, T101, T102, T103, hE, hA70, hm65, hA73, by omega, fun j hj => by by_cases e : j = q; subst e; exact (fun hbt => by rw [hbx] at hbt; cases hbt); exact hbs j (by omega), trivial⟩ ?_))))))))))
        show es.length - (intOf (ρ164 103)).toNat < es.length - (intOf (ρ104 103)).toNat
        rw [T103, q103]
        simp only [intOf, Int.toNat_natCast]; omega
       refine wpF_skip (tN (hK107 _ _ (sk fun K165 hK165 => (wpF_block (sk fun K166 hK166 => (wt ?_))))))
       have hl169 : (entC (es.getD (q) dEnt)).length = 35 := (RG.elem (hg52.keep hA70) dEnt (by omega))
       refine oS rfl (Yk.atRG pk20_ty110 pk20_szg116 (by decide) dEnt (RG.of (hg52.keep hA70) T101) T103 (by omega) fun v167 hp168 => (oS rfl (Yk.loadPR (PR.of hp168 (vr v167 rfl)) (pk20_ty116).choose_spec rfl (by rw [hl169]; exact pk20_isz116) (oS rfl (Yk.alloc (cs := (entC dEnt).toArray) pk20_al116 fun n170 w171 hn172 hb173 hx174 hs175 => ?_)))))
       have hA176 := Ext.refl w105
       have hea177 := hE
       have hea178 := hA70
       have hea179 := hA73
       have hz180 := hE.size
       have hz181 := hA70.size
       have hz182 := hA73.size
       have hlt183 := lte hm65.lt hn172
       have hE := hE.trans hx174
       have hA70 := hA70.trans hx174
       have hm65 := hm65.keep hx174
       have hA73 := hA73.trans hx174
       have hA176 := hA176.trans hx174
       have hb184 := hb173; clear hb173
       have hl185 : n170 < w171.heap.size := by omega
       refine oS rfl (Yk.storeAll (vr (PQ n170 0) rfl) (vr (.agg (entC (es.getD (q) dEnt)).toArray) rfl) hb184 (entC_size (x := ((es.getD (q) dEnt) : EntV)) (y := (dEnt : EntV)) hcl.2 (by simp [dEnt])) (entC_isz (x := ((es.getD (q) dEnt) : EntV)) pk20_isz116 hcl.2) (entC_one (x := ((es.getD (q) dEnt) : EntV)) (RB.one hcl.1).2) fun w186 hb187 hg188 hs189 => ?_)
       have hE := row_fresh hE hg188 (Nat.le_trans hz180 (by omega))
       have hA70 := row_fresh hA70 hg188 (Nat.le_trans hz181 (by omega))
       have hm65 := MapF.other hm65 hg188 (some_ne (by omega))
       have hA73 := row_fresh hA73 hg188 (Nat.le_trans hz182 (by omega))
       have hA176 := row_fresh hA176 hg188 (Nat.le_trans (Nat.le_refl _) (by omega))
       clear hb184
       have hb184 := hb187; clear hb187
       have hl190 := bl hb184
       refine oZ ?_
       clear hp168
       refine tN (hK166 _ _ (sk fun K191 hK191 => (wt (oM rfl (oS rfl (Yk.fieldAt pk20_fo116_2 (vr (PQ n170 0) rfl) (oS rfl (Yk.loadPart (vr (PQ n170 2) rfl) (entC_range (x := ((es.getD (q) dEnt) : EntV)) hb184) pk20_ty38 rfl (by rw [Lib.byteCells_length, hcl.2]; exact pk20_isz38) (oS rfl (Yk.lookOkN (ek := rk) (ev := entV) (D := (fun id : List UInt8 => id.length = 32)) idLaw id_ok (fun _ _ => rk_inj) pk20_ty112 (z := entV dEnt) zeroEnt T10 (vr (AB (((es.getD (q) dEnt)).1.base)) rfl) hm65 hcl.2 hl (oM rfl (oS rfl (Yk.extract (vs := [.agg (entC (dEnt)).toArray, .bool (false)]) (vr (.tuple #[.agg (entC (dEnt)).toArray, .bool (false)]) rfl) (show _ = some (.agg (entC (dEnt)).toArray : Value) from rfl) (oS rfl (Yk.extract (vs := [.agg (entC (dEnt)).toArray, .bool (false)]) (vr (.tuple #[.agg (entC (dEnt)).toArray, .bool (false)]) rfl) (show _ = some (.bool (false) : Value) from rfl) (oS rfl (Yk.alloc (cs := (entC dEnt).toArray) pk20_al116 fun n192 w193 hn194 hb195 hx196 hs197 => ?_)))))))))))))))))
       have hA198 := Ext.refl w186
       have hea199 := hE
       have hea200 := hA70
       have hea201 := hA73
       have hea202 := hA176
       have hz203 := hE.size
       have hz204 := hA70.size
       have hz205 := hA73.size
       have hz206 := hA176.size
       have hlt207 := lte hm65.lt hn194
       have hlt208 := lte (bl hb184) hn194
       have hE := hE.trans hx196
       have hA70 := hA70.trans hx196
       have hm65 := hm65.keep hx196
       have hA73 := hA73.trans hx196
       have hA176 := hA176.trans hx196
       have hb184 := eb hx196 hb184
       have hA198 := hA198.trans hx196
       have hb209 := hb195; clear hb195
       have hl210 : n192 < w193.heap.size := by omega
       refine oS rfl (Yk.storeAll (vr (PQ n192 0) rfl) (vr (.agg (entC (dEnt)).toArray) rfl) hb209 (entC_size (x := ((dEnt) : EntV)) (y := (dEnt : EntV)) (by simp [dEnt]) (by simp [dEnt])) (entC_isz (x := ((dEnt) : EntV)) pk20_isz116 (by simp [dEnt])) (entC_one (x := ((dEnt) : EntV)) rfl) fun w211 hb212 hg213 hs214 => ?_)
       have hE := row_fresh hE hg213 (Nat.le_trans hz203 (by omega))
       have hA70 := row_fresh hA70 hg213 (Nat.le_trans hz204 (by omega))
       have hm65 := MapF.other hm65 hg213 (some_ne (by omega))
       have hA73 := row_fresh hA73 hg213 (Nat.le_trans hz205 (by omega))
       have hA176 := row_fresh hA176 hg213 (Nat.le_trans hz206 (by omega))
       have hb184 := kb hg213 hb184 (by omega)
       have hA198 := row_fresh hA198 hg213 (Nat.le_trans (Nat.le_refl _) (by omega))
       clear hb209
       have hb209 := hb212; clear hb212
       have hl215 := bl hb209
       refine oA rfl (oZ (tN (hK191 _ _ (wt (oS rfl (Yk.fieldAt pk20_fo116_1 (vr (PQ n170 0) rfl) (oS rfl (Yk.cell1 pk20_ty4 rfl (vr (PQ n170 1) rfl) (cellAt hb184 ((show (entC ((es.getD (q) dEnt)))[1]? = some (.bool true : Value) from congrArg (fun b => some (Value.bool b)) hbx))) (oS rfl (Yk.notB (vr (.bool (true)) rfl) (oM rfl (oY (d := 117) rfl rfl (vr (.bool (false)) rfl) (Yk.move (vr (.bool (false)) rfl) (oS rfl (Yk.pickF (vr (.bool (false)) rfl) (vr (.bool (false)) rfl) (oP rfl (Yp.callA2 pk20_pl64 (vr (.bool (false)) rfl) (vr (NI 6) rfl) ?_)))))))))))))))))
       refine calls_either (need_any _ (false) 6) ?_ ?_
       rotate_left
       ·
        rintro ch w218 ⟨rfl, hb, hx⟩
        refine inBlockF_panic (thenF_panic (thenF_panic (inBlockF_panic (thenF_panic (postP_panic ?_)))))
        exact .inr ⟨_, rfl, 6, hP4.trans (if_neg (fun h => basesB_at h hc2_ hbx hl)), rfl, hE.trans hx⟩
       rintro v_ w220 ⟨rfl, hb216, hx217⟩
       cases hb216
      have hcx := hMO _ c hl
      rcases hbx : (es.getD (q) dEnt).1.based with _ | _
      ·refine wpF_skip (tN (hK107 _ _ (sk fun K221 hK221 => (wpF_block (sk fun K222 hK222 => (wt ?_))))))
       have hl225 : (entC (es.getD (q) dEnt)).length = 35 := (RG.elem (hg52.keep hA70) dEnt (by omega))
       refine oS rfl (Yk.atRG pk20_ty110 pk20_szg116 (by decide) dEnt (RG.of (hg52.keep hA70) T101) T103 (by omega) fun v223 hp224 => (oS rfl (Yk.loadPR (PR.of hp224 (vr v223 rfl)) (pk20_ty116).choose_spec rfl (by rw [hl225]; exact pk20_isz116) (oS rfl (Yk.alloc (cs := (entC dEnt).toArray) pk20_al116 fun n226 w227 hn228 hb229 hx230 hs231 => ?_)))))
       have hA232 := Ext.refl w105
       have hea233 := hE
       have hea234 := hA70
       have hea235 := hA73
       have hz236 := hE.size
       have hz237 := hA70.size
       have hz238 := hA73.size
       have hlt239 := lte hm65.lt hn228
       have hE := hE.trans hx230
       have hA70 := hA70.trans hx230
       have hm65 := hm65.keep hx230
       have hA73 := hA73.trans hx230
       have hA232 := hA232.trans hx230
       have hb240 := hb229; clear hb229
       have hl241 : n226 < w227.heap.size := by omega
       refine oS rfl (Yk.storeAll (vr (PQ n226 0) rfl) (vr (.agg (entC (es.getD (q) dEnt)).toArray) rfl) hb240 (entC_size (x := ((es.getD (q) dEnt) : EntV)) (y := (dEnt : EntV)) hcl.2 (by simp [dEnt])) (entC_isz (x := ((es.getD (q) dEnt) : EntV)) pk20_isz116 hcl.2) (entC_one (x := ((es.getD (q) dEnt) : EntV)) (RB.one hcl.1).2) fun w242 hb243 hg244 hs245 => ?_)
       have hE := row_fresh hE hg244 (Nat.le_trans hz236 (by omega))
       have hA70 := row_fresh hA70 hg244 (Nat.le_trans hz237 (by omega))
       have hm65 := MapF.other hm65 hg244 (some_ne (by omega))
       have hA73 := row_fresh hA73 hg244 (Nat.le_trans hz238 (by omega))
       have hA232 := row_fresh hA232 hg244 (Nat.le_trans (Nat.le_refl _) (by omega))
       clear hb240
       have hb240 := hb243; clear hb243
       have hl246 := bl hb240
       refine oZ ?_
       clear hp224
       refine tN (hK222 _ _ (sk fun K247 hK247 => (wt (oM rfl (oS rfl (Yk.fieldAt pk20_fo116_2 (vr (PQ n226 0) rfl) (oS rfl (Yk.loadPart (vr (PQ n226 2) rfl) (entC_range (x := ((es.getD (q) dEnt) : EntV)) hb240) pk20_ty38 rfl (by rw [Lib.byteCells_length, hcl.2]; exact pk20_isz38) (oS rfl (Yk.lookOkS (ek := rk) (ev := entV) (D := (fun id : List UInt8 => id.length = 32)) idLaw id_ok (fun _ _ => rk_inj) pk20_ty112 (z := entV dEnt) zeroEnt T10 (vr (AB (((es.getD (q) dEnt)).1.base)) rfl) hm65 hcl.2 hl (oM rfl (oS rfl (Yk.extract (vs := [.agg (entC (c)).toArray, .bool (true)]) (vr (.tuple #[.agg (entC (c)).toArray, .bool (true)]) rfl) (show _ = some (.agg (entC (c)).toArray : Value) from rfl) (oS rfl (Yk.extract (vs := [.agg (entC (c)).toArray, .bool (true)]) (vr (.tuple #[.agg (entC (c)).toArray, .bool (true)]) rfl) (show _ = some (.bool (true) : Value) from rfl) (oS rfl (Yk.alloc (cs := (entC dEnt).toArray) pk20_al116 fun n248 w249 hn250 hb251 hx252 hs253 => ?_)))))))))))))))))
       have hA254 := Ext.refl w242
       have hea255 := hE
       have hea256 := hA70
       have hea257 := hA73
       have hea258 := hA232
       have hz259 := hE.size
       have hz260 := hA70.size
       have hz261 := hA73.size
       have hz262 := hA232.size
       have hlt263 := lte hm65.lt hn250
       have hlt264 := lte (bl hb240) hn250
       have hE := hE.trans hx252
       have hA70 := hA70.trans hx252
       have hm65 := hm65.keep hx252
       have hA73 := hA73.trans hx252
       have hA232 := hA232.trans hx252
       have hb240 := eb hx252 hb240
       have hA254 := hA254.trans hx252
       have hb265 := hb251; clear hb251
       have hl266 : n248 < w249.heap.size := by omega
       refine oS rfl (Yk.storeAll (vr (PQ n248 0) rfl) (vr (.agg (entC (c)).toArray) rfl) hb265 (entC_size (x := ((c) : EntV)) (y := (dEnt : EntV)) hcx.2.1 (by simp [dEnt])) (entC_isz (x := ((c) : EntV)) pk20_isz116 hcx.2.1) (entC_one (x := ((c) : EntV)) (RB.one hcx.1).2) fun w267 hb268 hg269 hs270 => ?_)
       have hE := row_fresh hE hg269 (Nat.le_trans hz259 (by omega))
       have hA70 := row_fresh hA70 hg269 (Nat.le_trans hz260 (by omega))
       have hm65 := MapF.other hm65 hg269 (some_ne (by omega))
       have hA73 := row_fresh hA73 hg269 (Nat.le_trans hz261 (by omega))
       have hA232 := row_fresh hA232 hg269 (Nat.le_trans hz262 (by omega))
       have hb240 := kb hg269 hb240 (by omega)
       have hA254 := row_fresh hA254 hg269 (Nat.le_trans (Nat.le_refl _) (by omega))
       clear hb265
       have hb265 := hb268; clear hb268
       have hl271 := bl hb265
       refine oA rfl (oZ (tN (hK247 _ _ (wt (oS rfl (Yk.fieldAt pk20_fo116_1 (vr (PQ n226 0) rfl) (oS rfl (Yk.cell1 pk20_ty4 rfl (vr (PQ n226 1) rfl) (cellAt hb240 ((show (entC ((es.getD (q) dEnt)))[1]? = some (.bool false : Value) from congrArg (fun b => some (Value.bool b)) hbx))) (oS rfl (Yk.notB (vr (.bool (false)) rfl) (oM rfl (oN (d := 117) rfl rfl rfl (vr (.bool (true)) rfl) rfl (oS rfl (Yk.pickT (vr (.bool (true)) rfl) (vr (.bool (true)) rfl) (oP rfl (Yp.callA2 pk20_pl64 (vr (.bool (true)) rfl) (vr (NI 6) rfl) ?_))))))))))))))))
       refine calls_either (need_any _ (true) 6) ?_ ?_
       rotate_left
       ·
        rintro ch w274 ⟨rfl, hb, hx⟩
        refine inBlockF_panic (thenF_panic (thenF_panic (inBlockF_panic (thenF_panic (postP_panic ?_)))))
        cases hb
       rintro v_ w276 ⟨rfl, hb272, hx273⟩
       have hE := hE.trans hx273
       have hA70 := hA70.trans hx273
       have hm65 := hm65.keep hx273
       have hA73 := hA73.trans hx273
       have hA232 := hA232.trans hx273
       have hb240 := eb hx273 hb240
       have hA254 := hA254.trans hx273
       have hb265 := eb hx273 hb265
       refine oZ (bN (tN (hK221 _ _ (wt (oS rfl (Yk.bin (xv := NI q) (yv := NI 1) T103 rfl rfl (i64_add _ _ _ (by omega)) (oM rfl (oL_ [(0, v), (2, .pointer none), (3, NI ((b.length) - (36))), (4, NI f), (5, NI n), (6, NI (1 + k)), (7, NI 0), (8, v51), (9, v62), (10, .map (some n63)), (14, PQ n226 0), (16, .bool (true)), (85, .agg ((fanL (s.ids)).map fun x => NI x).toArray), (86, NI m), (101, v51), (102, NI es.length), (103, NI ((q) + (1)))] ⟨T0, T2, T3, T4, T5, T6, T7, T8, T9, T10, rfl, rfl, T85, T86, T101, T102, rfl, trivial⟩ fun ρ277 ⟨T0, T2, T3, T4, T5, T6, T7, T8, T9, T10, T14, T16, T85, T86, T101, T102, T103, _⟩ => (tN (And.intro ⟨q + 1, T0, T2, T3, T4, T5, T6, T7, T8, T9, T10, T85, T86, T101, T102, T103, hE, hA70, hm65, hA73, by omega, fun j hj => by by_cases e : j = q; subst e; exact (fun hbt => by rw [hbx] at hbt; cases hbt); exact hbs j (by omega), trivial⟩ ?_))))))))))
       show es.length - (intOf (ρ277 103)).toNat < es.length - (intOf (ρ104 103)).toNat
       rw [T103, q103]
       simp only [intOf, Int.toNat_natCast]; omega
      refine wpF_skip (tN (hK107 _ _ (sk fun K278 hK278 => (wpF_block (sk fun K279 hK279 => (wt ?_))))))
      have hl282 : (entC (es.getD (q) dEnt)).length = 35 := (RG.elem (hg52.keep hA70) dEnt (by omega))
      refine oS rfl (Yk.atRG pk20_ty110 pk20_szg116 (by decide) dEnt (RG.of (hg52.keep hA70) T101) T103 (by omega) fun v280 hp281 => (oS rfl (Yk.loadPR (PR.of hp281 (vr v280 rfl)) (pk20_ty116).choose_spec rfl (by rw [hl282]; exact pk20_isz116) (oS rfl (Yk.alloc (cs := (entC dEnt).toArray) pk20_al116 fun n283 w284 hn285 hb286 hx287 hs288 => ?_)))))
      have hA289 := Ext.refl w105
      have hea290 := hE
      have hea291 := hA70
      have hea292 := hA73
      have hz293 := hE.size
      have hz294 := hA70.size
      have hz295 := hA73.size
      have hlt296 := lte hm65.lt hn285
      have hE := hE.trans hx287
      have hA70 := hA70.trans hx287
      have hm65 := hm65.keep hx287
      have hA73 := hA73.trans hx287
      have hA289 := hA289.trans hx287
      have hb297 := hb286; clear hb286
      have hl298 : n283 < w284.heap.size := by omega
      refine oS rfl (Yk.storeAll (vr (PQ n283 0) rfl) (vr (.agg (entC (es.getD (q) dEnt)).toArray) rfl) hb297 (entC_size (x := ((es.getD (q) dEnt) : EntV)) (y := (dEnt : EntV)) hcl.2 (by simp [dEnt])) (entC_isz (x := ((es.getD (q) dEnt) : EntV)) pk20_isz116 hcl.2) (entC_one (x := ((es.getD (q) dEnt) : EntV)) (RB.one hcl.1).2) fun w299 hb300 hg301 hs302 => ?_)
      have hE := row_fresh hE hg301 (Nat.le_trans hz293 (by omega))
      have hA70 := row_fresh hA70 hg301 (Nat.le_trans hz294 (by omega))
      have hm65 := MapF.other hm65 hg301 (some_ne (by omega))
      have hA73 := row_fresh hA73 hg301 (Nat.le_trans hz295 (by omega))
      have hA289 := row_fresh hA289 hg301 (Nat.le_trans (Nat.le_refl _) (by omega))
      clear hb297
      have hb297 := hb300; clear hb300
      have hl303 := bl hb297
      refine oZ ?_
      clear hp281
      refine tN (hK279 _ _ (sk fun K304 hK304 => (wt (oM rfl (oS rfl (Yk.fieldAt pk20_fo116_2 (vr (PQ n283 0) rfl) (oS rfl (Yk.loadPart (vr (PQ n283 2) rfl) (entC_range (x := ((es.getD (q) dEnt) : EntV)) hb297) pk20_ty38 rfl (by rw [Lib.byteCells_length, hcl.2]; exact pk20_isz38) (oS rfl (Yk.lookOkS (ek := rk) (ev := entV) (D := (fun id : List UInt8 => id.length = 32)) idLaw id_ok (fun _ _ => rk_inj) pk20_ty112 (z := entV dEnt) zeroEnt T10 (vr (AB (((es.getD (q) dEnt)).1.base)) rfl) hm65 hcl.2 hl (oM rfl (oS rfl (Yk.extract (vs := [.agg (entC (c)).toArray, .bool (true)]) (vr (.tuple #[.agg (entC (c)).toArray, .bool (true)]) rfl) (show _ = some (.agg (entC (c)).toArray : Value) from rfl) (oS rfl (Yk.extract (vs := [.agg (entC (c)).toArray, .bool (true)]) (vr (.tuple #[.agg (entC (c)).toArray, .bool (true)]) rfl) (show _ = some (.bool (true) : Value) from rfl) (oS rfl (Yk.alloc (cs := (entC dEnt).toArray) pk20_al116 fun n305 w306 hn307 hb308 hx309 hs310 => ?_)))))))))))))))))
      have hA311 := Ext.refl w299
      have hea312 := hE
      have hea313 := hA70
      have hea314 := hA73
      have hea315 := hA289
      have hz316 := hE.size
      have hz317 := hA70.size
      have hz318 := hA73.size
      have hz319 := hA289.size
      have hlt320 := lte hm65.lt hn307
      have hlt321 := lte (bl hb297) hn307
      have hE := hE.trans hx309
      have hA70 := hA70.trans hx309
      have hm65 := hm65.keep hx309
      have hA73 := hA73.trans hx309
      have hA289 := hA289.trans hx309
      have hb297 := eb hx309 hb297
      have hA311 := hA311.trans hx309
      have hb322 := hb308; clear hb308
      have hl323 : n305 < w306.heap.size := by omega
      refine oS rfl (Yk.storeAll (vr (PQ n305 0) rfl) (vr (.agg (entC (c)).toArray) rfl) hb322 (entC_size (x := ((c) : EntV)) (y := (dEnt : EntV)) hcx.2.1 (by simp [dEnt])) (entC_isz (x := ((c) : EntV)) pk20_isz116 hcx.2.1) (entC_one (x := ((c) : EntV)) (RB.one hcx.1).2) fun w324 hb325 hg326 hs327 => ?_)
      have hE := row_fresh hE hg326 (Nat.le_trans hz316 (by omega))
      have hA70 := row_fresh hA70 hg326 (Nat.le_trans hz317 (by omega))
      have hm65 := MapF.other hm65 hg326 (some_ne (by omega))
      have hA73 := row_fresh hA73 hg326 (Nat.le_trans hz318 (by omega))
      have hA289 := row_fresh hA289 hg326 (Nat.le_trans hz319 (by omega))
      have hb297 := kb hg326 hb297 (by omega)
      have hA311 := row_fresh hA311 hg326 (Nat.le_trans (Nat.le_refl _) (by omega))
      clear hb322
      have hb322 := hb325; clear hb325
      have hl328 := bl hb322
      refine oA rfl (oZ (tN (hK304 _ _ (wt (oS rfl (Yk.fieldAt pk20_fo116_1 (vr (PQ n283 0) rfl) (oS rfl (Yk.cell1 pk20_ty4 rfl (vr (PQ n283 1) rfl) (cellAt hb297 ((show (entC ((es.getD (q) dEnt)))[1]? = some (.bool true : Value) from congrArg (fun b => some (Value.bool b)) hbx))) (oS rfl (Yk.notB (vr (.bool (true)) rfl) (oM rfl (oY (d := 117) rfl rfl (vr (.bool (false)) rfl) (Yk.move (vr (.bool (true)) rfl) (oS rfl (Yk.pickF (vr (.bool (false)) rfl) (vr (.bool (true)) rfl) (oP rfl (Yp.callA2 pk20_pl64 (vr (.bool (true)) rfl) (vr (NI 6) rfl) ?_)))))))))))))))))
      refine calls_either (need_any _ (true) 6) ?_ ?_
      rotate_left
      ·
       rintro ch w331 ⟨rfl, hb, hx⟩
       refine inBlockF_panic (thenF_panic (thenF_panic (inBlockF_panic (thenF_panic (postP_panic ?_)))))
       cases hb
      rintro v_ w333 ⟨rfl, hb329, hx330⟩
      have hE := hE.trans hx330
      have hA70 := hA70.trans hx330
      have hm65 := hm65.keep hx330
      have hA73 := hA73.trans hx330
      have hA289 := hA289.trans hx330
      have hb297 := eb hx330 hb297
      have hA311 := hA311.trans hx330
      have hb322 := eb hx330 hb322
      refine oZ (bN (tN (hK278 _ _ (wt (oS rfl (Yk.bin (xv := NI q) (yv := NI 1) T103 rfl rfl (i64_add _ _ _ (by omega)) (oM rfl (oL_ [(0, v), (2, .pointer none), (3, NI ((b.length) - (36))), (4, NI f), (5, NI n), (6, NI (1 + k)), (7, NI 0), (8, v51), (9, v62), (10, .map (some n63)), (14, PQ n283 0), (16, .bool (true)), (85, .agg ((fanL (s.ids)).map fun x => NI x).toArray), (86, NI m), (101, v51), (102, NI es.length), (103, NI ((q) + (1)))] ⟨T0, T2, T3, T4, T5, T6, T7, T8, T9, T10, rfl, rfl, T85, T86, T101, T102, rfl, trivial⟩ fun ρ334 ⟨T0, T2, T3, T4, T5, T6, T7, T8, T9, T10, T14, T16, T85, T86, T101, T102, T103, _⟩ => (tN (And.intro ⟨q + 1, T0, T2, T3, T4, T5, T6, T7, T8, T9, T10, T85, T86, T101, T102, T103, hE, hA70, hm65, hA73, by omega, fun j hj => by by_cases e : j = q; subst e; exact (fun _ hn => by rw [hl] at hn; cases hn); exact hbs j (by omega), trivial⟩ ?_))))))))))
      show es.length - (intOf (ρ334 103)).toNat < es.length - (intOf (ρ104 103)).toNat
      rw [T103, q103]
      simp only [intOf, Int.toNat_natCast]; omega
     have hbb := basesB_of (fun j hj => hbs j (by omega))
     have hP5 : readP b = readE (entOf s.plain.M) s.ids := hP4.trans (if_pos hbb)
     refine wpF_exit (thenF_exit (thenF_exit (inBlockF_hit (tN (hK101 _ _ (sk fun K335 hK335 => (wt (oM rfl (oS rfl (Yk.mkMap rk objV (fun id : List UInt8 => id.length = 32) fun n336 w337 hn338 hb339 hx340 hs341 => ?_))))))))))
     have hA342 := Ext.refl w105
     have hea343 := hE
     have hea344 := hA70
     have hea345 := hA73
     have hz346 := hE.size
     have hz347 := hA70.size
     have hz348 := hA73.size
     have hlt349 := lte hm65.lt hn338
     have hE := hE.trans hx340
     have hA70 := hA70.trans hx340
     have hm65 := hm65.keep hx340
     have hA73 := hA73.trans hx340
     have hA342 := hA342.trans hx340
     have hl350 : n336 < w337.heap.size := by omega
     refine oS rfl (Yk.build2 T10 (vr (.map (some n336)) rfl) (fun w => pk20_bd120mm_01 (n63) (n336) w) (oS rfl (Yk.box (cs := ([.map (some n63), .map (some n336)] : List Value).toArray) (show _ = (.agg ([.map (some n63), .map (some n336)]).toArray : Value) from rfl) fun n351 w352 hn353 hb354 hx355 hs356 => ?_)))
     have hA357 := Ext.refl w337
     have hea358 := hE
     have hea359 := hA70
     have hea360 := hA73
     have hea361 := hA342
     have hz362 := hE.size
     have hz363 := hA70.size
     have hz364 := hA73.size
     have hz365 := hA342.size
     have hlt366 := lte hm65.lt hn353
     have hlt367 := lte hb339.lt hn353
     have hE := hE.trans hx355
     have hA70 := hA70.trans hx355
     have hm65 := hm65.keep hx355
     have hA73 := hA73.trans hx355
     have hA342 := hA342.trans hx355
     have hb339 := hb339.keep hx355
     have hA357 := hA357.trans hx355
     have hb368 := hb354; clear hb354
     have hl369 : n351 < w352.heap.size := by omega
     refine oA rfl (oZ (tN (hK335 _ _ (sk fun K370 hK370 => (wt (oM rfl (oS rfl (Yk.mkMap rk objV (fun id : List UInt8 => id.length = 32) fun n371 w372 hn373 hb374 hx375 hs376 => ?_))))))))
     have hA377 := Ext.refl w352
     have hea378 := hE
     have hea379 := hA70
     have hea380 := hA73
     have hea381 := hA342
     have hea382 := hA357
     have hz383 := hE.size
     have hz384 := hA70.size
     have hz385 := hA73.size
     have hz386 := hA342.size
     have hz387 := hA357.size
     have hlt388 := lte hm65.lt hn373
     have hlt389 := lte hb339.lt hn373
     have hlt390 := lte (bl hb368) hn373
     have hE := hE.trans hx375
     have hA70 := hA70.trans hx375
     have hm65 := hm65.keep hx375
     have hA73 := hA73.trans hx375
     have hA342 := hA342.trans hx375
     have hb339 := hb339.keep hx375
     have hA357 := hA357.trans hx375
     have hb368 := eb hx375 hb368
     have hA377 := hA377.trans hx375
     have hl391 : n371 < w372.heap.size := by omega
     refine oS rfl (Yk.build2 T9 (vr (.map (some n371)) rfl) (fun w => pk20_bd74sm_01 (RG.slice (hg64.keep hA73)) (n371) w) (oS rfl (Yk.box (cs := ([v62, .map (some n371)] : List Value).toArray) (show _ = (.agg ([v62, .map (some n371)]).toArray : Value) from rfl) fun n392 w393 hn394 hb395 hx396 hs397 => ?_)))
     have hA398 := Ext.refl w372
     have hea399 := hE
     have hea400 := hA70
     have hea401 := hA73
     have hea402 := hA342
     have hea403 := hA357
     have hea404 := hA377
     have hz405 := hE.size
     have hz406 := hA70.size
     have hz407 := hA73.size
     have hz408 := hA342.size
     have hz409 := hA357.size
     have hz410 := hA377.size
     have hlt411 := lte hm65.lt hn394
     have hlt412 := lte hb339.lt hn394
     have hlt413 := lte (bl hb368) hn394
     have hlt414 := lte hb374.lt hn394
     have hE := hE.trans hx396
     have hA70 := hA70.trans hx396
     have hm65 := hm65.keep hx396
     have hA73 := hA73.trans hx396
     have hA342 := hA342.trans hx396
     have hb339 := hb339.keep hx396
     have hA357 := hA357.trans hx396
     have hb368 := eb hx396 hb368
     have hA377 := hA377.trans hx396
     have hb374 := hb374.keep hx396
     have hA398 := hA398.trans hx396
     have hb415 := hb395; clear hb395
     have hl416 : n392 < w393.heap.size := by omega
     refine oA rfl (oZ (tN (hK370 _ _ (sk fun K417 hK417 => (wt (oA rfl (oZ (tN (hK417 _ _ (sk fun K418 hK418 => (sk fun K419 hK419 => (wt (oM rfl (oS rfl (Yk.lenRG pk20_ty47 (RG.of (hg64.keep hA73) T9) (oM rfl (oL_ [(0, v), (2, .pointer none), (3, NI ((b.length) - (36))), (4, NI f), (5, NI n), (6, NI (1 + k)), (7, NI 0), (8, v51), (9, v62), (10, .map (some n63)), (17, PQ n351 0), (18, PQ n392 0), (19, NI 0), (85, .agg ((fanL (s.ids)).map fun x => NI x).toArray), (86, NI m), (101, v51), (102, NI es.length), (103, NI q), (130, v62), (131, NI ((s.ids).length)), (132, NI 0)] ⟨T0, T2, T3, T4, T5, T6, T7, T8, T9, T10, rfl, rfl, rfl, T85, T86, T101, T102, T103, T9, rfl, rfl, trivial⟩ fun ρ420 ⟨T0, T2, T3, T4, T5, T6, T7, T8, T9, T10, T17, T18, T19, T85, T86, T101, T102, T103, T130, T131, T132, _⟩ => (tN (hK419 _ _ ?_)))))))))))))))))))
     refine wpF_block (wpF_loop (fun (ρ : Slots) (wz : World) => ∃ i : Nat, ∃ st : ObS, ∃ H : Bs → Option ObjV, ∃ O : Bs → Option ObjV, ρ 0 = (v : Value) ∧ ρ 2 = (.pointer none : Value) ∧ ρ 3 = (NI ((b.length) - (36)) : Value) ∧ ρ 4 = (NI f : Value) ∧ ρ 5 = (NI n : Value) ∧ ρ 6 = (NI (1 + k) : Value) ∧ ρ 7 = (NI 0 : Value) ∧ ρ 8 = (v51 : Value) ∧ ρ 9 = (v62 : Value) ∧ ρ 10 = (.map (some n63) : Value) ∧ ρ 17 = (PQ n351 0 : Value) ∧ ρ 18 = (PQ n392 0 : Value) ∧ ρ 85 = (.agg ((fanL (s.ids)).map fun x => NI x).toArray : Value) ∧ ρ 86 = (NI m : Value) ∧ ρ 101 = (v51 : Value) ∧ ρ 102 = (NI es.length : Value) ∧ ρ 103 = (NI q : Value) ∧ ρ 130 = (v62 : Value) ∧ ρ 131 = (NI ((s.ids).length) : Value) ∧ ρ 132 = (NI i : Value) ∧ ρ 19 = (NI st.total : Value) ∧ Ext w wz ∧ Ext w57 wz ∧ MapF rk entV (fun id : List UInt8 => id.length = 32) wz n63 s.M ∧ Ext w69 wz ∧ wz.heap[n351]? = some (.cells ([.map (some n63), .map (some n336)]).toArray 120 (0, 0)) ∧ wz.heap[n392]? = some (.cells ([v62, .map (some n371)]).toArray 74 (0, 0)) ∧ HOk wz s.M H ∧ OOk wz O ∧ MapF rk objV (fun id : List UInt8 => id.length = 32) wz n336 (H) ∧ MapF rk objV (fun id : List UInt8 => id.length = 32) wz n371 (O) ∧ (objGo (entAt s.M) s.ids i = .ok st) ∧ (i ≤ s.ids.length) ∧ ((fun k => (O k).map Prod.fst) = st.O) ∧ (st.total ≤ 4194304) ∧ True) (fun ρ _ => s.ids.length - (intOf (ρ 132)).toNat) ⟨0, ⟨0, fun _ => none⟩, fun _ => none, fun _ => none, T0, T2, T3, T4, T5, T6, T7, T8, T9, T10, T17, T18, T85, T86, T101, T102, T103, T130, T131, T132, T19, hE, hA70, hm65, hA73, hb368, hb415, HOk.nil, OOk.nil _, map_eq hb339 (rfl), map_eq hb374 (rfl), rfl, Nat.zero_le _, rfl, Nat.zero_le _, trivial⟩ ?_)
     clear hA342
     clear hb339
     clear hA357
     clear hA377
     clear hb374
     clear hA398
     clear hE hA70 hm65 hA73 hb368 hb415
     rintro ρ421 w422 ⟨i, st, H, O, T0, T2, T3, T4, T5, T6, T7, T8, T9, T10, T17, T18, T85, T86, T101, T102, T103, T130, T131, T132, T19, hE, hA70, hm65, hA73, hb368, hb415, hHO, hOO, hb339l, hb374l, hs, hi, hO, htot, -⟩
     have q132 := T132
     refine sk fun K423 hK423 => (wt (oS rfl (Yk.eqI (a := (i : Nat)) (b := ((s.ids).length : Nat)) T132 T131 (k_lss _ _ _ _) (oZ (tN (hK423 _ _ (sk fun K424 hK424 => ?_)))))))
     refine wpF_cond ((i) < ((s.ids).length)) (vr (.bool (decide ((i) < ((s.ids).length)))) rfl) (fun hc2 => ?_) (fun hc2 => ?_)
     ·have hc3_ : i < s.ids.length := hc2
      have hid32 : (s.ids.getD i []).length = 32 := by have := RG.elem (hg64.keep hA73) ([] : List UInt8) hc3_; rwa [Lib.byteCells_length] at this
      have oerr : ∀ c, objStep (entAt s.M) (s.ids.getD i []) st = .error c → readP b = .error c := fun c hc => by rw [hP5]; unfold readE; rw [← entAt_plain]; have h1 := objGo_err ((objGo_step hs).trans hc) (s.ids.length - (i + 1)); rw [show i + 1 + (s.ids.length - (i + 1)) = s.ids.length by omega] at h1; show (match objGo (entAt s.M) s.ids s.ids.length with | .error e => _ | .ok o => _) = _; rw [h1]
      refine wpF_skip (tN (hK424 _ _ (sk fun K425 hK425 => (wpF_block (sk fun K426 hK426 => (wt ?_))))))
      have hl429 : (Lib.byteCells ((s.ids).getD (i) ([] : List UInt8))).length = 32 := (RG.elem (hg64.keep hA73) ([] : List UInt8) (by omega))
      refine oS rfl (Yk.atRG pk20_ty47 pk20_szg38 (by decide) ([] : List UInt8) (RG.of (hg64.keep hA73) T130) T132 (by omega) fun v427 hp428 => (oS rfl (Yk.loadPR (PR.of hp428 (vr v427 rfl)) pk20_ty38 rfl (by rw [hl429]; exact pk20_isz38) (oS rfl (Yk.alloc (cs := (Lib.byteCells (List.replicate 32 0)).toArray) pk20_al38 fun n430 w431 hn432 hb433 hx434 hs435 => ?_)))))
      have hA436 := Ext.refl w422
      have hea437 := hE
      have hea438 := hA70
      have hea439 := hA73
      have hz440 := hE.size
      have hz441 := hA70.size
      have hz442 := hA73.size
      have hlt443 := lte hm65.lt hn432
      have hlt444 := lte (bl hb368) hn432
      have hlt445 := lte (bl hb415) hn432
      have hlt446 := lte hb339l.lt hn432
      have hlt447 := lte hb374l.lt hn432
      have hE := hE.trans hx434
      have hA70 := hA70.trans hx434
      have hm65 := hm65.keep hx434
      have hA73 := hA73.trans hx434
      have hb368 := eb hx434 hb368
      have hb415 := eb hx434 hb415
      have hb339l := hb339l.keep hx434
      have hb374l := hb374l.keep hx434
      have hA436 := hA436.trans hx434
      have hb448 := hb433; clear hb433
      have hl449 : n430 < w431.heap.size := by omega
      refine oS rfl (Yk.storeAll (vr (PQ n430 0) rfl) (vr (AB ((s.ids).getD (i) ([] : List UInt8))) rfl) hb448 (by exact idsize (bytes_len32 (hl429)) List.length_replicate) (by exact sizeId_of (bytes_len32 (hl429))) (byteCells_one _) fun w450 hb451 hg452 hs453 => ?_)
      have hE := row_fresh hE hg452 (Nat.le_trans hz440 (by omega))
      have hA70 := row_fresh hA70 hg452 (Nat.le_trans hz441 (by omega))
      have hm65 := MapF.other hm65 hg452 (some_ne (by omega))
      have hA73 := row_fresh hA73 hg452 (Nat.le_trans hz442 (by omega))
      have hb368 := kb hg452 hb368 (by omega)
      have hb415 := kb hg452 hb415 (by omega)
      have hb339l := MapF.other hb339l hg452 (some_ne (by omega))
      have hb374l := MapF.other hb374l hg452 (some_ne (by omega))
      have hA436 := row_fresh hA436 hg452 (Nat.le_trans (Nat.le_refl _) (by omega))
      clear hb448
      have hb448 := hb451; clear hb451
      have hl454 := bl hb448
      refine oZ ?_
      clear hp428
      refine tN (hK426 _ _ (sk fun K455 hK455 => (wt (oM rfl (oS rfl (Yk.loadAll (vr (PQ n430 0) rfl) hb448 pk20_ty38 rfl (by exact sizeId_of (bytes_len32 (hl429))) (oP rfl (Yp.callA2 pk20_pl67 T17 (vr (AB ((s.ids).getD (i) ([] : List UInt8))) rfl) ?_))))))))
      refine calls_either (pdepth_any _ n351 n63 n336 s.M hb368 hm65 (hMO.keep hA73) (s.ids.getD i []) hid32) ?_ ?_
      rotate_left
      ·
       rintro ch w457 ⟨hno, rfl, hx⟩
       refine thenF_panic (inBlockF_panic (thenF_panic (thenF_panic (inBlockF_panic (thenF_panic (postP_panic ?_))))))
       exact .inr ⟨_, rfl, 17, oerr 17 (objStep_17 hno), rfl, hE.trans hx⟩
      rintro v_ w459 ⟨dd, hdp, rfl, hx456⟩
      have hE := hE.trans hx456
      have hA70 := hA70.trans hx456
      have hm65 := hm65.keep hx456
      have hA73 := hA73.trans hx456
      have hb368 := eb hx456 hb368
      have hb415 := eb hx456 hb415
      have hb339l := hb339l.keep hx456
      have hb374l := hb374l.keep hx456
      have hA436 := hA436.trans hx456
      have hb448 := eb hx456 hb448
      have hdle := depthGo_le hdp
      refine oA rfl (oZ (tN (hK455 _ _ (sk fun K460 hK460 => (wt (oM rfl (oS rfl (Yk.loadAll (vr (PQ n430 0) rfl) hb448 pk20_ty38 rfl (by exact sizeId_of (bytes_len32 (hl429))) (oP rfl (Yp.callA2 pk20_pl68 T17 (vr (AB ((s.ids).getD (i) ([] : List UInt8))) rfl) ?_))))))))))
      refine calls_either (pmake_any n351 n63 n336 s.M dd _ H (s.ids.getD i []) hb368 hm65 hb339l (hMO.keep hA73) (hHO.keep hA436) (by omega) hid32 hdle 50 hdp) ?_ ?_
      rotate_left
      ·
       rintro ch w466 ⟨hno, rfl, hx⟩
       refine thenF_panic (inBlockF_panic (thenF_panic (thenF_panic (inBlockF_panic (thenF_panic (postP_panic ?_))))))
       exact .inr ⟨_, rfl, 6, oerr 6 (objStep_6 hdp hno), rfl, ext_bx hE hx hE.size (fun k hk => by cases hk; omega)⟩
      rintro v_ w468 ⟨v461, bb, kk, H1, rfl, hcg, hr462, hm463, hHO464, hx465⟩
      have hg1 := hx465.grown
      have hm469 : NoB8 w459 n336 := (MapF.isMap hb339l).noB8
      have hE : Ext w w468 := ext_bx hE hx465 hE.size (fun k hk => by cases hk; omega)
      have hA70 : Ext w57 w468 := ext_bx hA70 hx465 hA70.size (fun k hk => by cases hk; omega)
      have hm65 : MapF rk entV (fun id : List UInt8 => id.length = 32) w468 n63 s.M := MapF.other hm65 hg1 (some_ne (by omega))
      have hA73 : Ext w69 w468 := ext_bx hA73 hx465 hA73.size (fun k hk => by cases hk; omega)
      have hb368 : w468.heap[n351]? = some (.cells ([.map (some n63), .map (some n336)]).toArray 120 (0, 0)) := kb hg1 hb368 (by omega)
      have hb415 : w468.heap[n392]? = some (.cells ([v62, .map (some n371)]).toArray 74 (0, 0)) := kb hg1 hb415 (by omega)
      have hHO : HOk w468 s.M H := (hHO.keep hA436).keepN hm469 hg1
      have hOO : OOk w468 O := (hOO.keep hA436).keepN hm469 hg1
      clear hb339l
      have hb374l : MapF rk objV (fun id : List UInt8 => id.length = 32) w468 n371 (O) := MapF.other hb374l hg1 (some_ne (by omega))
      have hb448 : w468.heap[n430]? = some (.cells (Lib.byteCells ((s.ids).getD (i) ([] : List UInt8))).toArray 38 (0, 0)) := kb hg1 hb448 (by omega)
      have hz470 := hE.size
      have hz471 := hA70.size
      have hz472 := hA73.size
      have hcl := chainGo_le hcg
      refine oS rfl (Yk.alloc (cs := ([(Value.slice none 0 0), NI 0]).toArray) pk20_al81 fun n473 w474 hn475 hb476 hx477 hs478 => ?_)
      have hA479 := Ext.refl w468
      have hea480 := hE
      have hea481 := hA70
      have hea482 := hA73
      have hz483 := hE.size
      have hz484 := hA70.size
      have hz485 := hA73.size
      have hlt486 := lte hm65.lt hn475
      have hlt487 := lte (bl hb368) hn475
      have hlt488 := lte (bl hb415) hn475
      have hlt489 := lte hb374l.lt hn475
      have hlt490 := lte (bl hb448) hn475
      have hlt491 := lte hm463.lt hn475
      have hE := hE.trans hx477
      have hA70 := hA70.trans hx477
      have hm65 := hm65.keep hx477
      have hA73 := hA73.trans hx477
      have hb368 := eb hx477 hb368
      have hb415 := eb hx477 hb415
      have hb374l := hb374l.keep hx477
      have hb448 := eb hx477 hb448
      have hm463 := hm463.keep hx477
      have hA479 := hA479.trans hx477
      have hb492 := hb476; clear hb476
      have hl493 : n473 < w474.heap.size := by omega
      refine oS rfl (Yk.storeAll (vr (PQ n473 0) rfl) (vr (.agg ([v461, NI kk]).toArray) rfl) hb492 rfl (show (Tryd.prog.info? 81).map (·.size) = some 2 from pk20_isz81) (obj_one (RB.one (hr462.keep hA479)).2) fun w494 hb495 hg496 hs497 => ?_)
      have hE := row_fresh hE hg496 (Nat.le_trans hz483 (by omega))
      have hA70 := row_fresh hA70 hg496 (Nat.le_trans hz484 (by omega))
      have hm65 := MapF.other hm65 hg496 (some_ne (by omega))
      have hA73 := row_fresh hA73 hg496 (Nat.le_trans hz485 (by omega))
      have hb368 := kb hg496 hb368 (by omega)
      have hb415 := kb hg496 hb415 (by omega)
      have hb374l := MapF.other hb374l hg496 (some_ne (by omega))
      have hb448 := kb hg496 hb448 (by omega)
      have hm463 := MapF.other hm463 hg496 (some_ne (by omega))
      have hA479 := row_fresh hA479 hg496 (Nat.le_trans (Nat.le_refl _) (by omega))
      clear hb492
      have hb492 := hb495; clear hb495
      have hl498 := bl hb492
      refine oZ (tN (hK460 _ _ (sk fun K499 hK499 => ?_)))
      refine wpF_draw_cut 6 [Is (PQ n473 0), Is (v461), fun x w' => RBs w' x [bb], Is (AB (Sha.sum (bb))), Is (AB ((s.ids).getD (i) ([] : List UInt8))), Is (.bool (decide ((Sha.sum (bb)) = ((s.ids).getD (i) ([] : List UInt8)))))] (by kernel_rfl) [142, 143, 144, 145, 146, 147, 148] (by kernel_rfl) (by kernel_rfl) (by kernel_rfl) (by kernel_rfl) rfl rfl (si2 ⟨(fun _ _ _ h k => RBs.keep h k), (si3 trivial)⟩) ?hs3027 ?hQ3027
      case hs3027 =>
       refine ⟨?_, ?_, ?_, ?_, ?_, ?_, ?_, trivial⟩
       ·refine stepFC (stepN rfl fun σ w1 hC h => ?_)
        have e23 : σ 23 = PQ n473 0 := (eqo (h 23 (by decide))).trans rfl
        exact Yk.fieldAt pk20_fo81_0 e23 ⟨Ext.refl _, rfl⟩
       ·refine stepFC (stepN rfl fun σ w1 hC h => ?_)
        have e142 := eqo (h 142 (by decide))
        exact Yk.cell1 pk20_ty24 rfl e142 (cellAt (eb hC hb492) (show _ = some (v461 : Value) from rfl)) ⟨Ext.refl _, rfl⟩
       ·refine stepFC (stepN rfl fun σ w1 hC h => ?_)
        have e143 := eqo (h 143 (by decide))
        exact Yk.rows1 pk20_rows1_75 (RB.of (hr462.keep (hA479.trans hC)) e143) fun v w2 h hx => ⟨hx, h⟩
       ·refine stepFC (stepN rfl fun σ w1 hC h => ?_)
        have e144 : (fun x w' => RBs w' x [bb]) (σ 144) w1 := h 144 (by decide)
        refine Yk.callA1 pk20_pl17 rfl ((sum_one _ (hG.keep (hE.trans hC)) _ (bb) e144 (by omega)).mono ?_)
        rintro e w2 ⟨rfl, hx⟩
        exact ⟨_, rfl, hx, rfl⟩
       ·refine stepFC (stepN rfl fun σ w1 hC h => ?_)
        have e21 : σ 21 = PQ n430 0 := (eqo (h 21 (by decide))).trans rfl
        exact Yk.loadAll e21 (eb hC hb448) pk20_ty38 rfl (by exact sizeId_of (bytes_len32 (hl429))) ⟨Ext.refl _, rfl⟩
       ·refine stepFC (stepN rfl fun σ w1 hC h => ?_)
        have e145 := eqo (h 145 (by decide))
        have e146 := eqo (h 146 (by decide))
        exact Yk.eqArr (l1 := (Sha.sum (bb))) (l2 := ((s.ids).getD (i) ([] : List UInt8))) pk20_ty38 pk20_ty5 pk20_sz5 pk20_eg38 e145 e146 ((Sha.sum_length _)) (hid32) ⟨Ext.refl _, rfl⟩
       ·exact trivial
      intro ρ500 w501 hx502 he hf
      obtain ⟨-, -, -, -, -, k147, -⟩ := hf
      obtain ⟨T0, T2, T3, T4, T5, T6, T7, T8, T9, T10, T17, T18, T19, T21, T22, T23, T85, T86, T101, T102, T103, T130, T131, T132, -⟩ := he.hold [(0, _), (2, _), (3, _), (4, _), (5, _), (6, _), (7, _), (8, _), (9, _), (10, _), (17, _), (18, _), (19, _), (21, PQ n430 0), (22, NI dd), (23, PQ n473 0), (85, _), (86, _), (101, _), (102, _), (103, _), (130, _), (131, _), (132, _)] ⟨T0, T2, T3, T4, T5, T6, T7, T8, T9, T10, T17, T18, T19, rfl, rfl, rfl, T85, T86, T101, T102, T103, T130, T131, T132, trivial⟩ rfl
      clear he
      have hE := hE.trans hx502
      have hA70 := hA70.trans hx502
      have hm65 := hm65.keep hx502
      have hA73 := hA73.trans hx502
      have hb368 := eb hx502 hb368
      have hb415 := eb hx502 hb415
      have hb374l := hb374l.keep hx502
      have hb448 := eb hx502 hb448
      have hm463 := hm463.keep hx502
      have hA479 := hA479.trans hx502
      have hb492 := eb hx502 hb492
      have T147 : ρ500 147 = .bool (decide ((Sha.sum (bb)) = ((s.ids).getD (i) ([] : List UInt8)))) := k147
      clear k147
      refine oP rfl (Yp.callA2 pk20_pl64 T147 (vr (NI 18) rfl) ?_)
      refine calls_either (need_any _ (decide ((Sha.sum (bb)) = ((s.ids).getD (i) ([] : List UInt8)))) 18) ?_ ?_
      rotate_left
      ·
       rintro ch w505 ⟨rfl, hb, hx⟩
       refine thenF_panic (inBlockF_panic (thenF_panic (thenF_panic (inBlockF_panic (thenF_panic (postP_panic ?_))))))
       have hno := of_decide_eq_false hb
       exact .inr ⟨_, rfl, 18, oerr 18 ((objStep_eq hdp hcg).trans (if_neg hno)), rfl, hE.trans hx⟩
      rintro v_ w507 ⟨rfl, hb503, hx504⟩
      have hE := hE.trans hx504
      have hA70 := hA70.trans hx504
      have hm65 := hm65.keep hx504
      have hA73 := hA73.trans hx504
      have hb368 := eb hx504 hb368
      have hb415 := eb hx504 hb415
      have hb374l := hb374l.keep hx504
      have hb448 := eb hx504 hb448
      have hm463 := hm463.keep hx504
      have hA479 := hA479.trans hx504
      have hb492 := eb hx504 hb492
      have hn508 := of_decide_eq_true hb503
      refine oZ ?_
      have hsum := hn508
      refine tN (hK499 _ _ (sk fun K509 hK509 => (wt (oM rfl (oS rfl (Yk.fieldAt pk20_fo81_0 T23 (oS rfl (Yk.cell1 pk20_ty24 rfl (vr (PQ n473 0) rfl) (cellAt hb492 (show _ = some (v461 : Value) from rfl)) (oS rfl (Yk.lenRB pk20_ty24 (RB.of (hr462.keep hA479) (vr v461 rfl)) (oS rfl (Yk.bin (xv := NI st.total) (yv := NI bb.length) T19 rfl rfl (i64_add _ _ _ (by omega)) (oA rfl (oZ (tN (hK509 _ _ (sk fun K510 hK510 => (wt (oM rfl (oS rfl (Yk.eqI (a := ((st.total) + (bb.length) : Nat)) (b := (4194304 : Nat)) rfl rfl (k_leq _ _ _ _) (oP rfl (Yp.callA2 pk20_pl64 (vr (.bool (decide (((st.total) + (bb.length)) ≤ (4194304)))) rfl) (vr (NI 2) rfl) ?_)))))))))))))))))))))))
      refine calls_either (need_any _ (decide (((st.total) + (bb.length)) ≤ (4194304))) 2) ?_ ?_
      rotate_left
      ·
       rintro ch w513 ⟨rfl, hb, hx⟩
       refine thenF_panic (inBlockF_panic (thenF_panic (thenF_panic (inBlockF_panic (thenF_panic (postP_panic ?_))))))
       have hno := of_decide_eq_false hb
       exact .inr ⟨_, rfl, 2, oerr 2 ((objStep_eq hdp hcg).trans ((if_pos hsum).trans (if_neg hno))), rfl, hE.trans hx⟩
      rintro v_ w515 ⟨rfl, hb511, hx512⟩
      have hE := hE.trans hx512
      have hA70 := hA70.trans hx512
      have hm65 := hm65.keep hx512
      have hA73 := hA73.trans hx512
      have hb368 := eb hx512 hb368
      have hb415 := eb hx512 hb415
      have hb374l := hb374l.keep hx512
      have hb448 := eb hx512 hb448
      have hm463 := hm463.keep hx512
      have hA479 := hA479.trans hx512
      have hb492 := eb hx512 hb492
      have hn516 := of_decide_eq_true hb511
      refine oZ (tN (hK510 _ _ ?_))
      refine wpF_draw_cut 9 [Is (PQ n392 0), Is (PQ n392 0), Is (PQ n392 1), Is (.map (some n371)), Is (AB ((s.ids).getD (i) ([] : List UInt8))), Is (PQ n473 0), Is (v461), Is (NI dd), Is (.agg ([v461, NI dd]).toArray)] (by kernel_rfl) [157, 158, 159, 160, 161, 162, 163, 164, 165] (by kernel_rfl) (by kernel_rfl) (by kernel_rfl) (by kernel_rfl) rfl rfl (si9 trivial) ?hs4030 ?hQ4030
      case hs4030 =>
       refine ⟨?_, ?_, ?_, ?_, ?_, ?_, ?_, ?_, ?_, ?_, trivial⟩
       ·refine stepFC (stepN rfl fun σ w1 hC h => ?_)
        have e18 := (eqo (h 18 (by decide))).trans T18
        exact Yk.move e18 ⟨Ext.refl _, rfl⟩
       ·refine stepFC (stepN rfl fun σ w1 hC h => ?_)
        have e157 := eqo (h 157 (by decide))
        exact Yk.nilCheck e157 ⟨Ext.refl _, rfl⟩
       ·refine stepFC (stepN rfl fun σ w1 hC h => ?_)
        have e158 := eqo (h 158 (by decide))
        exact Yk.fieldAt pk20_fo74_1 e158 ⟨Ext.refl _, rfl⟩
       ·refine stepFC (stepN rfl fun σ w1 hC h => ?_)
        have e159 := eqo (h 159 (by decide))
        exact Yk.cell1 pk20_ty72 rfl e159 (cellAt (eb hC hb415) (show _ = some (.map (some n371) : Value) from rfl)) ⟨Ext.refl _, rfl⟩
       ·refine stepFC (stepN rfl fun σ w1 hC h => ?_)
        have e21 := (eqo (h 21 (by decide))).trans T21
        exact Yk.loadAll e21 (eb hC hb448) pk20_ty38 rfl (by exact sizeId_of (bytes_len32 (hl429))) ⟨Ext.refl _, rfl⟩
       ·refine stepFC (stepN rfl fun σ w1 hC h => ?_)
        have e23 := (eqo (h 23 (by decide))).trans T23
        exact Yk.fieldAt pk20_fo81_0 e23 ⟨Ext.refl _, rfl⟩
       ·refine stepFC (stepN rfl fun σ w1 hC h => ?_)
        have e162 := eqo (h 162 (by decide))
        exact Yk.cell1 pk20_ty24 rfl e162 (cellAt (eb hC hb492) (show _ = some (v461 : Value) from rfl)) ⟨Ext.refl _, rfl⟩
       ·refine stepFC (stepN rfl fun σ w1 hC h => ?_)
        have e22 := (eqo (h 22 (by decide))).trans T22
        exact Yk.move e22 ⟨Ext.refl _, rfl⟩
       ·refine stepFC (stepN rfl fun σ w1 hC h => ?_)
        have e163 := eqo (h 163 (by decide))
        have e164 := eqo (h 164 (by decide))
        exact Yk.build2 e163 e164 (fun w => pk20_bd81si_01 (RB.slice (hr462.keep (hA479.trans hC))) (((dd : Nat) : Int)) w) ⟨Ext.refl _, rfl⟩
       ·exact trivial
      intro ρ517 w518 hx519 he hf
      obtain ⟨-, -, -, k160, k161, -, -, -, k165, -⟩ := hf
      obtain ⟨T0, T2, T3, T4, T5, T6, T7, T8, T9, T10, T17, T18, T19, T21, T22, T23, T85, T86, T101, T102, T103, T130, T131, T132, -⟩ := he.hold [(0, _), (2, _), (3, _), (4, _), (5, _), (6, _), (7, _), (8, _), (9, _), (10, _), (17, _), (18, _), (19, NI ((st.total) + (bb.length))), (21, _), (22, _), (23, _), (85, _), (86, _), (101, _), (102, _), (103, _), (130, _), (131, _), (132, _)] ⟨T0, T2, T3, T4, T5, T6, T7, T8, T9, T10, T17, T18, rfl, T21, T22, T23, T85, T86, T101, T102, T103, T130, T131, T132, trivial⟩ rfl
      clear he
      have hE := hE.trans hx519
      have hA70 := hA70.trans hx519
      have hm65 := hm65.keep hx519
      have hA73 := hA73.trans hx519
      have hb368 := eb hx519 hb368
      have hb415 := eb hx519 hb415
      have hb374l := hb374l.keep hx519
      have hb448 := eb hx519 hb448
      have hm463 := hm463.keep hx519
      have hA479 := hA479.trans hx519
      have hb492 := eb hx519 hb492
      have T160 : ρ517 160 = .map (some n371) := k160
      have T161 : ρ517 161 = AB ((s.ids).getD (i) ([] : List UInt8)) := k161
      have T165 : ρ517 165 = .agg ([v461, NI dd]).toArray := k165
      clear k160 k161 k165
      refine oS rfl (Yk.putM (ek := rk) (ev := objV) (D := (fun id : List UInt8 => id.length = 32)) (c := (((bb, dd), v461) : ObjV)) idLaw id_ok pk20_ty72 T160 T161 T165 hb374l (bytes_len32 (hl429)) fun w520 hb521 hg522 hs523 => ?_)
      have hOO := OOk.put (hOO.keep hA479) (id := s.ids.getD i []) (x := (((bb, dd), v461) : ObjV)) (hr462.keep hA479)
      have hm524 : NoB8 w518 n371 := (MapF.isMap hb374l).noB8
      have hE : Ext w w520 := ext_bx hE (BX.ofGrown hg522 (Nat.le_refl _) (fun k hk => .inl hk)) hE.size (fun k hk => by cases hk; omega)
      have hA70 : Ext w57 w520 := ext_bx hA70 (BX.ofGrown hg522 (Nat.le_refl _) (fun k hk => .inl hk)) hA70.size (fun k hk => by cases hk; omega)
      have hm65 : MapF rk entV (fun id : List UInt8 => id.length = 32) w520 n63 s.M := MapF.other hm65 hg522 (some_ne (by omega))
      have hA73 : Ext w69 w520 := ext_bx hA73 (BX.ofGrown hg522 (Nat.le_refl _) (fun k hk => .inl hk)) hA73.size (fun k hk => by cases hk; omega)
      have hb368 : w520.heap[n351]? = some (.cells ([.map (some n63), .map (some n336)]).toArray 120 (0, 0)) := kb hg522 hb368 (by omega)
      have hb415 : w520.heap[n392]? = some (.cells ([v62, .map (some n371)]).toArray 74 (0, 0)) := kb hg522 hb415 (by omega)
      have hOO : OOk w520 (updM (O) (s.ids.getD (i) ([] : List UInt8)) (some ((((bb, dd), v461) : ObjV)))) := hOO.keepN hm524 hg522
      clear hb374l
      have hb448 : w520.heap[n430]? = some (.cells (Lib.byteCells ((s.ids).getD (i) ([] : List UInt8))).toArray 38 (0, 0)) := kb hg522 hb448 (by omega)
      have hr462 : RB w520 v461 bb := (hr462.keep hA479).keepN hm524 hg522
      have hm463 : MapF rk objV (fun id : List UInt8 => id.length = 32) w520 n336 H1 := MapF.other hm463 hg522 (some_ne (by omega))
      have hHO464 : HOk w520 s.M H1 := (hHO464.keep hA479).keepN hm524 hg522
      have hb492 : w520.heap[n473]? = some (.cells ([v461, NI kk]).toArray 81 (0, 0)) := kb hg522 hb492 (by omega)
      have hz525 := hE.size
      have hz526 := hA70.size
      have hz527 := hA73.size
      refine oZ (bN (tN (hK425 _ _ (wt (oS rfl (Yk.bin (xv := NI i) (yv := NI 1) T132 rfl rfl (i64_add _ _ _ (by omega)) (oM rfl (oL_ [(0, v), (2, .pointer none), (3, NI ((b.length) - (36))), (4, NI f), (5, NI n), (6, NI (1 + k)), (7, NI 0), (8, v51), (9, v62), (10, .map (some n63)), (17, PQ n351 0), (18, PQ n392 0), (19, NI ((st.total) + (bb.length))), (21, PQ n430 0), (22, NI dd), (23, PQ n473 0), (85, .agg ((fanL (s.ids)).map fun x => NI x).toArray), (86, NI m), (101, v51), (102, NI es.length), (103, NI q), (130, v62), (131, NI ((s.ids).length)), (132, NI ((i) + (1)))] ⟨T0, T2, T3, T4, T5, T6, T7, T8, T9, T10, T17, T18, T19, T21, T22, T23, T85, T86, T101, T102, T103, T130, T131, rfl, trivial⟩ fun ρ528 ⟨T0, T2, T3, T4, T5, T6, T7, T8, T9, T10, T17, T18, T19, T21, T22, T23, T85, T86, T101, T102, T103, T130, T131, T132, _⟩ => (tN (And.intro ⟨i + 1, ⟨st.total + bb.length, updM st.O (s.ids.getD i []) (some (bb, dd))⟩, H1, updM (O) (s.ids.getD (i) ([] : List UInt8)) (some ((((bb, dd), v461) : ObjV))), T0, T2, T3, T4, T5, T6, T7, T8, T9, T10, T17, T18, T85, T86, T101, T102, T103, T130, T131, T132, T19, hE, hA70, hm65, hA73, hb368, hb415, hHO464, hOO, map_eq hm463 (rfl), map_eq hb521 (rfl), (objGo_step hs).trans ((objStep_eq hdp hcg).trans ((if_pos hsum).trans (if_pos hn516))), by omega, by rw [updM_map, hO]; rfl, hn516, trivial⟩ ?_))))))))))
      show s.ids.length - (intOf (ρ528 132)).toNat < s.ids.length - (intOf (ρ421 132)).toNat
      rw [T132, q132]
      simp only [intOf, Int.toNat_natCast]; omega
     have hie : i = s.ids.length := by omega
     refine wpF_exit (thenF_exit (thenF_exit (inBlockF_hit (tN (hK418 _ _ (sk fun K529 hK529 => (wt (oM rfl (oA rfl (oZ (tN (hK529 _ _ (wpF_ret (postP_ret (fn := Tryd.f37) _ rfl [PQ n392 0] (PQ n392 0) rfl ⟨T18, trivial⟩ ?_))))))))))))))
     exact .inl ⟨_, rfl, _, _, _, s.ids, O, rfl, by rw [hP5, ← entAt_plain, readE_ok (by rw [← hie]; exact hs), hO], hb415, (hg64.keep hA73), hb374l, hOO, hE⟩
    have hP : readP b = .error 6 := hP0.trans (if_neg (fun h => by have h1 := h.2; exact q3 h1.2.2))
    refine tN (hK3 _ _ (sk fun K530 hK530 => (wt (oM rfl (oS rfl (Yk.callA2 pk20_pl63 T0 (vr (NI 1) rfl) (((show Calls _ _ _ _ (fun e w2 => e = .returned (.tuple #[NI n, NI (1 + k), NI 0]) ∧ Ext _ w2) from (get_in _ v b (hr.keep hE) 1 (by omega)).mono fun e w2 ⟨h1, h2⟩ => by subst h2; subst h1; rw [hd]; exact ⟨rfl, Ext.refl _⟩)).mono ?_)))))))
    rintro e w532 ⟨rfl, hx531⟩
    refine ⟨_, rfl, ?_⟩
    have hE := hE.trans hx531
    have hr5 := hr5.keep hx531
    refine oM rfl (oS rfl (Yk.extract (vs := [NI n, NI (1 + k), NI 0]) (vr (.tuple #[NI n, NI (1 + k), NI 0]) rfl) (show _ = some (NI n : Value) from rfl) (oS rfl (Yk.extract (vs := [NI n, NI (1 + k), NI 0]) (vr (.tuple #[NI n, NI (1 + k), NI 0]) rfl) (show _ = some (NI (1 + k) : Value) from rfl) (oS rfl (Yk.extract (vs := [NI n, NI (1 + k), NI 0]) (vr (.tuple #[NI n, NI (1 + k), NI 0]) rfl) (show _ = some (NI 0 : Value) from rfl) (oA rfl (oA rfl (oA rfl (oZ (tN (hK530 _ _ (sk fun K533 hK533 => (wt (oM rfl (oS rfl (Yk.atRB (l := b) (i := 0) pk20_ty24 pk20_sz5 (RB.of (hr.keep hE) T0) (vr (NI 0) rfl) (by omega) fun v534 hp535 => (oS rfl (Yk.loadC pk20_ty5 rfl (PCell.of hp535 (vr v534 rfl)) (oS rfl (Yk.eqI (a := ((b.getD (0) 0).toNat : Nat)) (b := (80 : Nat)) rfl rfl (k_eql _ _ _ _) (oM rfl ?_))))))))))))))))))))))
    refine oY (d := 41) rfl rfl (vr (.bool (true)) (congrArg Value.bool (decide_eq_true (h80)))) (Yk.move (vr (NI 0) rfl) (oY (d := 41) rfl rfl (vr (.bool (true)) (congrArg Value.bool (decide_eq_true (h80)))) (Yk.eqI (a := (0 : Nat)) (b := (0 : Nat)) rfl rfl (k_eql _ _ _ _) (oS rfl (Yk.pickT (vr (.bool (true)) (congrArg Value.bool (decide_eq_true (h80)))) (vr (.bool (true)) (congrArg Value.bool (decide_eq_true (rfl)))) (oM rfl (oY (d := 45) rfl rfl (vr (.bool (true)) rfl) (Yk.move (vr (NI f) rfl) (oY (d := 45) rfl rfl (vr (.bool (true)) rfl) (Yk.move (vr (NI (1 + k)) rfl) (oY (d := 45) rfl rfl (vr (.bool (true)) rfl) (Yk.eqI (a := (f : Nat)) (b := (1 + k : Nat)) rfl rfl (k_geq _ _ _ _) (oS rfl (Yk.pickT (vr (.bool (true)) rfl) (vr (.bool (true)) (congrArg Value.bool (decide_eq_true (q1)))) (oM rfl (oY (d := 50) rfl rfl (vr (.bool (true)) rfl) (Yk.move (vr (NI f) rfl) (oY (d := 50) rfl rfl (vr (.bool (true)) rfl) (Yk.move (vr (NI ((b.length) - (36))) rfl) (oY (d := 50) rfl rfl (vr (.bool (true)) rfl) (Yk.eqI (a := (f : Nat)) (b := ((b.length) - (36) : Nat)) rfl rfl (k_leq _ _ _ _) (oS rfl (Yk.pickT (vr (.bool (true)) rfl) (vr (.bool (true)) (congrArg Value.bool (decide_eq_true (q2)))) (oM rfl (oY (d := 55) rfl rfl (vr (.bool (true)) rfl) (Yk.move (vr (NI n) rfl) (oY (d := 55) rfl rfl (vr (.bool (true)) rfl) (Yk.move (vr (NI ((b.length) - (36))) rfl) ?_))))))))))))))))))))))))))))
    refine oY (d := 55) rfl rfl (vr (.bool (true)) rfl) (Yk.eqI (a := (n : Nat)) (b := ((b.length) - (36) : Nat)) rfl rfl (k_leq _ _ _ _) (oS rfl (Yk.pickT (vr (.bool (true)) rfl) (vr (.bool (false)) (congrArg Value.bool (decide_eq_false (q3)))) (oP rfl (Yp.callA2 pk20_pl64 (vr (.bool (false)) rfl) (vr (NI 6) rfl) ?_)))))
    refine calls_either (need_any _ (false) 6) ?_ ?_
    rotate_left
    ·
     rintro ch w538 ⟨rfl, hb, hx⟩
     refine thenF_panic (postP_panic ?_)
     exact .inr ⟨_, rfl, 6, hP, rfl, hE.trans hx⟩
    rintro v_ w540 ⟨rfl, hb536, hx537⟩
    cases hb536
   have hP : readP b = .error 6 := hP0.trans (if_neg (fun h => by have h1 := h.2; exact q2 h1.2.1))
   refine tN (hK3 _ _ (sk fun K541 hK541 => (wt (oM rfl (oS rfl (Yk.callA2 pk20_pl63 T0 (vr (NI 1) rfl) (((show Calls _ _ _ _ (fun e w2 => e = .returned (.tuple #[NI n, NI (1 + k), NI 0]) ∧ Ext _ w2) from (get_in _ v b (hr.keep hE) 1 (by omega)).mono fun e w2 ⟨h1, h2⟩ => by subst h2; subst h1; rw [hd]; exact ⟨rfl, Ext.refl _⟩)).mono ?_)))))))
   rintro e w543 ⟨rfl, hx542⟩
   refine ⟨_, rfl, ?_⟩
   have hE := hE.trans hx542
   have hr5 := hr5.keep hx542
   refine oM rfl (oS rfl (Yk.extract (vs := [NI n, NI (1 + k), NI 0]) (vr (.tuple #[NI n, NI (1 + k), NI 0]) rfl) (show _ = some (NI n : Value) from rfl) (oS rfl (Yk.extract (vs := [NI n, NI (1 + k), NI 0]) (vr (.tuple #[NI n, NI (1 + k), NI 0]) rfl) (show _ = some (NI (1 + k) : Value) from rfl) (oS rfl (Yk.extract (vs := [NI n, NI (1 + k), NI 0]) (vr (.tuple #[NI n, NI (1 + k), NI 0]) rfl) (show _ = some (NI 0 : Value) from rfl) (oA rfl (oA rfl (oA rfl (oZ (tN (hK541 _ _ (sk fun K544 hK544 => (wt (oM rfl (oS rfl (Yk.atRB (l := b) (i := 0) pk20_ty24 pk20_sz5 (RB.of (hr.keep hE) T0) (vr (NI 0) rfl) (by omega) fun v545 hp546 => (oS rfl (Yk.loadC pk20_ty5 rfl (PCell.of hp546 (vr v545 rfl)) (oS rfl (Yk.eqI (a := ((b.getD (0) 0).toNat : Nat)) (b := (80 : Nat)) rfl rfl (k_eql _ _ _ _) (oM rfl ?_))))))))))))))))))))))
   refine oY (d := 41) rfl rfl (vr (.bool (true)) (congrArg Value.bool (decide_eq_true (h80)))) (Yk.move (vr (NI 0) rfl) (oY (d := 41) rfl rfl (vr (.bool (true)) (congrArg Value.bool (decide_eq_true (h80)))) (Yk.eqI (a := (0 : Nat)) (b := (0 : Nat)) rfl rfl (k_eql _ _ _ _) (oS rfl (Yk.pickT (vr (.bool (true)) (congrArg Value.bool (decide_eq_true (h80)))) (vr (.bool (true)) (congrArg Value.bool (decide_eq_true (rfl)))) (oM rfl (oY (d := 45) rfl rfl (vr (.bool (true)) rfl) (Yk.move (vr (NI f) rfl) (oY (d := 45) rfl rfl (vr (.bool (true)) rfl) (Yk.move (vr (NI (1 + k)) rfl) (oY (d := 45) rfl rfl (vr (.bool (true)) rfl) (Yk.eqI (a := (f : Nat)) (b := (1 + k : Nat)) rfl rfl (k_geq _ _ _ _) (oS rfl (Yk.pickT (vr (.bool (true)) rfl) (vr (.bool (true)) (congrArg Value.bool (decide_eq_true (q1)))) (oM rfl (oY (d := 50) rfl rfl (vr (.bool (true)) rfl) (Yk.move (vr (NI f) rfl) (oY (d := 50) rfl rfl (vr (.bool (true)) rfl) (Yk.move (vr (NI ((b.length) - (36))) rfl) (oY (d := 50) rfl rfl (vr (.bool (true)) rfl) (Yk.eqI (a := (f : Nat)) (b := ((b.length) - (36) : Nat)) rfl rfl (k_leq _ _ _ _) (oS rfl (Yk.pickT (vr (.bool (true)) rfl) (vr (.bool (false)) (congrArg Value.bool (decide_eq_false (q2)))) (oM rfl (oN (d := 55) rfl rfl rfl (vr (.bool (false)) rfl) rfl (oN (d := 55) rfl rfl rfl (vr (.bool (false)) rfl) rfl ?_))))))))))))))))))))))))))
   refine oN (d := 55) rfl rfl rfl (vr (.bool (false)) rfl) rfl (oS rfl (Yk.pickF (vr (.bool (false)) rfl) (vr (.bool (false)) rfl) (oP rfl (Yp.callA2 pk20_pl64 (vr (.bool (false)) rfl) (vr (NI 6) rfl) ?_))))
   refine calls_either (need_any _ (false) 6) ?_ ?_
   rotate_left
   ·
    rintro ch w549 ⟨rfl, hb, hx⟩
    refine thenF_panic (postP_panic ?_)
    exact .inr ⟨_, rfl, 6, hP, rfl, hE.trans hx⟩
   rintro v_ w551 ⟨rfl, hb547, hx548⟩
   cases hb547
  have hP : readP b = .error 6 := hP0.trans (if_neg (fun h => by have h1 := h.2; exact q1 h1.1))
  refine tN (hK3 _ _ (sk fun K552 hK552 => (wt (oM rfl (oS rfl (Yk.callA2 pk20_pl63 T0 (vr (NI 1) rfl) (((show Calls _ _ _ _ (fun e w2 => e = .returned (.tuple #[NI n, NI (1 + k), NI 0]) ∧ Ext _ w2) from (get_in _ v b (hr.keep hE) 1 (by omega)).mono fun e w2 ⟨h1, h2⟩ => by subst h2; subst h1; rw [hd]; exact ⟨rfl, Ext.refl _⟩)).mono ?_)))))))
  rintro e w554 ⟨rfl, hx553⟩
  refine ⟨_, rfl, ?_⟩
  have hE := hE.trans hx553
  have hr5 := hr5.keep hx553
  refine oM rfl (oS rfl (Yk.extract (vs := [NI n, NI (1 + k), NI 0]) (vr (.tuple #[NI n, NI (1 + k), NI 0]) rfl) (show _ = some (NI n : Value) from rfl) (oS rfl (Yk.extract (vs := [NI n, NI (1 + k), NI 0]) (vr (.tuple #[NI n, NI (1 + k), NI 0]) rfl) (show _ = some (NI (1 + k) : Value) from rfl) (oS rfl (Yk.extract (vs := [NI n, NI (1 + k), NI 0]) (vr (.tuple #[NI n, NI (1 + k), NI 0]) rfl) (show _ = some (NI 0 : Value) from rfl) (oA rfl (oA rfl (oA rfl (oZ (tN (hK552 _ _ (sk fun K555 hK555 => (wt (oM rfl (oS rfl (Yk.atRB (l := b) (i := 0) pk20_ty24 pk20_sz5 (RB.of (hr.keep hE) T0) (vr (NI 0) rfl) (by omega) fun v556 hp557 => (oS rfl (Yk.loadC pk20_ty5 rfl (PCell.of hp557 (vr v556 rfl)) (oS rfl (Yk.eqI (a := ((b.getD (0) 0).toNat : Nat)) (b := (80 : Nat)) rfl rfl (k_eql _ _ _ _) (oM rfl ?_))))))))))))))))))))))
  refine oY (d := 41) rfl rfl (vr (.bool (true)) (congrArg Value.bool (decide_eq_true (h80)))) (Yk.move (vr (NI 0) rfl) (oY (d := 41) rfl rfl (vr (.bool (true)) (congrArg Value.bool (decide_eq_true (h80)))) (Yk.eqI (a := (0 : Nat)) (b := (0 : Nat)) rfl rfl (k_eql _ _ _ _) (oS rfl (Yk.pickT (vr (.bool (true)) (congrArg Value.bool (decide_eq_true (h80)))) (vr (.bool (true)) (congrArg Value.bool (decide_eq_true (rfl)))) (oM rfl (oY (d := 45) rfl rfl (vr (.bool (true)) rfl) (Yk.move (vr (NI f) rfl) (oY (d := 45) rfl rfl (vr (.bool (true)) rfl) (Yk.move (vr (NI (1 + k)) rfl) (oY (d := 45) rfl rfl (vr (.bool (true)) rfl) (Yk.eqI (a := (f : Nat)) (b := (1 + k : Nat)) rfl rfl (k_geq _ _ _ _) (oS rfl (Yk.pickT (vr (.bool (true)) rfl) (vr (.bool (false)) (congrArg Value.bool (decide_eq_false (q1)))) (oM rfl (oN (d := 50) rfl rfl rfl (vr (.bool (false)) rfl) rfl (oN (d := 50) rfl rfl rfl (vr (.bool (false)) rfl) rfl (oN (d := 50) rfl rfl rfl (vr (.bool (false)) rfl) rfl (oS rfl (Yk.pickF (vr (.bool (false)) rfl) (vr (.bool (false)) rfl) (oM rfl (oN (d := 55) rfl rfl rfl (vr (.bool (false)) rfl) rfl (oN (d := 55) rfl rfl rfl (vr (.bool (false)) rfl) rfl ?_)))))))))))))))))))))))
  refine oN (d := 55) rfl rfl rfl (vr (.bool (false)) rfl) rfl (oS rfl (Yk.pickF (vr (.bool (false)) rfl) (vr (.bool (false)) rfl) (oP rfl (Yp.callA2 pk20_pl64 (vr (.bool (false)) rfl) (vr (NI 6) rfl) ?_))))
  refine calls_either (need_any _ (false) 6) ?_ ?_
  rotate_left
  ·
   rintro ch w560 ⟨rfl, hb, hx⟩
   refine thenF_panic (postP_panic ?_)
   exact .inr ⟨_, rfl, 6, hP, rfl, hE.trans hx⟩
  rintro v_ w562 ⟨rfl, hb558, hx559⟩
  cases hb558
 have hP : readP b = .error 6 := hP0.trans (if_neg (fun h => h80 (by rw [h.1]; rfl)))
 refine tN (hK3 _ _ (sk fun K563 hK563 => (wt (oM rfl (oS rfl (Yk.callA2 pk20_pl63 T0 (vr (NI 1) rfl) (((show Calls _ _ _ _ (fun e w2 => e = .returned (.tuple #[NI n, NI (1 + k), NI 0]) ∧ Ext _ w2) from (get_in _ v b (hr.keep hE) 1 (by omega)).mono fun e w2 ⟨h1, h2⟩ => by subst h2; subst h1; rw [hd]; exact ⟨rfl, Ext.refl _⟩)).mono ?_)))))))
 rintro e w565 ⟨rfl, hx564⟩
 refine ⟨_, rfl, ?_⟩
 have hE := hE.trans hx564
 have hr5 := hr5.keep hx564
 refine oM rfl (oS rfl (Yk.extract (vs := [NI n, NI (1 + k), NI 0]) (vr (.tuple #[NI n, NI (1 + k), NI 0]) rfl) (show _ = some (NI n : Value) from rfl) (oS rfl (Yk.extract (vs := [NI n, NI (1 + k), NI 0]) (vr (.tuple #[NI n, NI (1 + k), NI 0]) rfl) (show _ = some (NI (1 + k) : Value) from rfl) (oS rfl (Yk.extract (vs := [NI n, NI (1 + k), NI 0]) (vr (.tuple #[NI n, NI (1 + k), NI 0]) rfl) (show _ = some (NI 0 : Value) from rfl) (oA rfl (oA rfl (oA rfl (oZ (tN (hK563 _ _ (sk fun K566 hK566 => (wt (oM rfl (oS rfl (Yk.atRB (l := b) (i := 0) pk20_ty24 pk20_sz5 (RB.of (hr.keep hE) T0) (vr (NI 0) rfl) (by omega) fun v567 hp568 => (oS rfl (Yk.loadC pk20_ty5 rfl (PCell.of hp568 (vr v567 rfl)) (oS rfl (Yk.eqI (a := ((b.getD (0) 0).toNat : Nat)) (b := (80 : Nat)) rfl rfl (k_eql _ _ _ _) (oM rfl ?_))))))))))))))))))))))
 refine oN (d := 41) rfl rfl rfl (vr (.bool (false)) (congrArg Value.bool (decide_eq_false (h80)))) rfl (oN (d := 41) rfl rfl rfl (vr (.bool (false)) (congrArg Value.bool (decide_eq_false (h80)))) rfl (oS rfl (Yk.pickF (vr (.bool (false)) (congrArg Value.bool (decide_eq_false (h80)))) (vr (.bool (false)) rfl) (oM rfl (oN (d := 45) rfl rfl rfl (vr (.bool (false)) rfl) rfl (oN (d := 45) rfl rfl rfl (vr (.bool (false)) rfl) rfl (oN (d := 45) rfl rfl rfl (vr (.bool (false)) rfl) rfl (oS rfl (Yk.pickF (vr (.bool (false)) rfl) (vr (.bool (false)) rfl) (oM rfl (oN (d := 50) rfl rfl rfl (vr (.bool (false)) rfl) rfl (oN (d := 50) rfl rfl rfl (vr (.bool (false)) rfl) rfl (oN (d := 50) rfl rfl rfl (vr (.bool (false)) rfl) rfl (oS rfl (Yk.pickF (vr (.bool (false)) rfl) (vr (.bool (false)) rfl) (oM rfl (oN (d := 55) rfl rfl rfl (vr (.bool (false)) rfl) rfl (oN (d := 55) rfl rfl rfl (vr (.bool (false)) rfl) rfl ?_))))))))))))))))))
 refine oN (d := 55) rfl rfl rfl (vr (.bool (false)) rfl) rfl (oS rfl (Yk.pickF (vr (.bool (false)) rfl) (vr (.bool (false)) rfl) (oP rfl (Yp.callA2 pk20_pl64 (vr (.bool (false)) rfl) (vr (NI 6) rfl) ?_))))
 refine calls_either (need_any _ (false) 6) ?_ ?_
 rotate_left
 ·
  rintro ch w571 ⟨rfl, hb, hx⟩
  refine thenF_panic (postP_panic ?_)
  exact .inr ⟨_, rfl, 6, hP, rfl, hE.trans hx⟩
 rintro v_ w573 ⟨rfl, hb569, hx570⟩
 cases hb569
open Go.RowKit
structure FitsD (n : Nat) (D : List Deferred) (ρ : Slots) (a : Act) : Prop where
  size : a.tmps.size = n
  defers : a.defers = D
  get : ∀ t, a.tmps.getD t undef = ρ t
theorem FitsD.fits {n : Nat} {D : List Deferred} {ρ : Slots} {a : Act} (h : FitsD n D ρ a) : Fits n ρ { a with defers := [] } := ⟨h.size, rfl, h.get⟩
theorem FitsD.ofFits {n : Nat} {ρ : Slots} {a : Act} (h : Fits n ρ a) : FitsD n [] ρ a := ⟨h.size, h.defers, h.get⟩
theorem FitsD.toFits {n : Nat} {ρ : Slots} {a : Act} (h : FitsD n [] ρ a) : Fits n ρ a := ⟨h.size, h.defers, h.get⟩
theorem FitsD.eval {n : Nat} {D : List Deferred} {ρ : Slots} {a : Act} (h : FitsD n D ρ a) : a.eval = evalR ρ := by
  funext x
  cases x with
  | tmp t => exact h.get t
  | _ => rfl
theorem FitsD.put {n : Nat} {D : List Deferred} {ρ : Slots} {a : Act} (h : FitsD n D ρ a) (d : Option Tmp) (hd : ∀ t, d = some t → t < n) (v : Value) : FitsD n D (updO ρ d v) (a.put d v) := by
  have hf := h.fits.put d hd v
  cases d with
  | none => exact h
  | some d => exact ⟨hf.size, h.defers, hf.get⟩
def wpR (P : Program) (n : Nat) (D : List Deferred) (c : Code) (QQ : Exit → Act → World → Prop) (ρ : Slots) (w : World) : Prop := ∀ a, FitsD n D ρ a → c.wp P QQ a w
def opsR (P : Program) (ops : Array Oper) (n : Nat) (D : List Deferred) (QQ : Exit → Act → World → Prop) (l : List Oper) (ρ : Slots) (w : World) : Prop := ∀ a, FitsD n D ρ a → wpList P ops QQ l a w
section
variable {P : Program} {n : Nat} {D : List Deferred} {QQ : Exit → Act → World → Prop} {ρ : Slots} {w : World}
theorem wpR_seq_k {x y : Code} (QR : PostF) (hq : ∀ e ρ a w, e ≠ .normal → Fits n ρ a → QR e ρ w → QQ e a w) (h : ∀ K : Slots → World → Prop, (∀ ρ w, wpR P n [] y QQ ρ w → K ρ w) → wpF P n x (thenF K QR) ρ w) : wpR P n [] (.seq x y) QQ ρ w := fun a ha =>
  wp_seq (wp_mono (h (fun ρ w => wpR P n [] y QQ ρ w) (fun _ _ h => h) a ha.toFits) fun e a' w' ⟨ρ', hf, hQ⟩ => by
    cases e with
    | normal => exact hQ a' (FitsD.ofFits hf)
    | exit _ => exact hq _ ρ' a' w' (by simp) hf hQ
    | goto _ => exact hq _ ρ' a' w' (by simp) hf hQ
    | ret => exact hq _ ρ' a' w' (by simp) hf hQ
    | panic _ => exact hq _ ρ' a' w' (by simp) hf hQ
    | outgrown => exact hq _ ρ' a' w' (by simp) hf hQ)
theorem wpR_seq_text {id : Nat} {l : List Oper} {y : Code} (h : opsR P l.toArray n D (Exit.then (y.wp P QQ) QQ) l ρ w) : wpR P n D (.seq (.region id l.toArray false) y) QQ ρ w := fun a ha => wp_seq (wp_region_lit (h a ha))
theorem wpR_ret (h : ∀ a, FitsD n D ρ a → QQ .ret a w) : wpR P n D .ret QQ ρ w := fun a ha => wp_ret (h a ha)
theorem opsR_end {ops : Array Oper} {y : Code} (I : Slots → Prop) (hI : I ρ) (h : ∀ ρ', I ρ' → wpR P n D y QQ ρ' w) : opsR P ops n D (Exit.then (y.wp P QQ) QQ) [] ρ w := fun a ha => h ρ hI a ha
theorem opsR_stepP {ops : Array Oper} {rest : List Oper} {dst : Option Tmp} {op : Op} {ty : TypeId} {pos : String} {af : Array Edge} (hd : (match dst with | some d => Nat.blt d n | none => true) = true)
    (h : Yp P (fun v w' => opsR P ops n D QQ rest (updO ρ dst v) w') (fun ch w' => ∀ a, FitsD n D ρ a → QQ (.panic ch) a w') ((execOp (evalR ρ) ⟨dst, op, ty, pos, af, none⟩).run P w)) : opsR P ops n D QQ (⟨dst, op, ty, pos, af, none⟩ :: rest) ρ w := by
  intro a ha
  have hdn : ∀ t, dst = some t → t < n := fun t ht => by subst ht; exact Nat.le_of_ble_eq_true hd
  refine wpList_plain rfl fun K hK => ?_
  unfold Oper.wp Oper.upon
  rw [ha.eval]
  have hput := fun v => ha.put dst hdn v
  revert h
  generalize (execOp (evalR ρ) ⟨dst, op, ty, pos, af, none⟩).run P w = r
  intro h
  match r, h with
  | .ok (.value v) w', h => exact hK _ _ (h _ (hput v))
  | .ok .skip w', h => exact hK _ _ (h _ (hput undef))
  | .halt (.panic v) w', h => exact h a ha
  | .ok (.enter f args) w', h =>
    refine Calls.mono h ?_
    intro e w'' hx
    match e, hx with
    | .returned v, hx => exact hK _ _ (hx _ (hput v))
    | .panicked ch, hx => exact hx a ha
theorem opsR_step {ops : Array Oper} {rest : List Oper} {dst : Option Tmp} {op : Op} {ty : TypeId} {pos : String} {af : Array Edge} (hd : (match dst with | some d => Nat.blt d n | none => true) = true)
    (h : Yk P (fun v w' => opsR P ops n D QQ rest (updO ρ dst v) w') ((execOp (evalR ρ) ⟨dst, op, ty, pos, af, none⟩).run P w)) : opsR P ops n D QQ (⟨dst, op, ty, pos, af, none⟩ :: rest) ρ w :=
  opsR_stepP hd (Yp.ofK h)
theorem opsR_defer {ops : Array Oper} {rest : List Oper} {x : Operand} {ty : TypeId} {pos : String} {af : Array Edge} {fv : Fn} {first cap : Array Value} (hx : evalR ρ x = .func fv first cap)
    (hr : (execOp (evalR ρ) ⟨none, .defer ⟨.value x, #[], #[]⟩, ty, pos, af, none⟩).run P w = .ok (.defer ⟨.fn fv cap, first⟩) w)
    (h : opsR P ops n (⟨.fn fv cap, first⟩ :: D) QQ rest ρ w) : opsR P ops n D QQ (⟨none, .defer ⟨.value x, #[], #[]⟩, ty, pos, af, none⟩ :: rest) ρ w := by
  intro a ha
  refine wpList_plain rfl fun K hK => ?_
  unfold Oper.wp Oper.upon
  rw [ha.eval, hr]
  refine hK _ _ (h _ ⟨ha.size, ?_, ha.get⟩)
  show _ :: a.defers = _
  rw [ha.defers]
theorem postP_bodyD {fn : Func} {R : Ending → World → Prop} : ∀ e ρ a w, e ≠ .normal → Fits n ρ a → postP P fn R e ρ w → bodyPostD P fn R e a w := fun e ρ a w he ha h => by
  cases e with
  | normal => exact absurd rfl he
  | ret =>
    show Leaves P fn a.tmps R a.defers .returning w
    rw [ha.defers]
    exact h a.tmps ha.get
  | panic ch =>
    show Leaves P fn a.tmps R a.defers (.panicking ch) w
    rw [ha.defers]
    exact h
  | exit _ => exact h.elim
  | goto _ => exact h.elim
  | outgrown => exact h.elim
theorem calls_of_wpR {f : FuncId} {fn : Func} {c : Code} {args : List Value} {R : Ending → World → Prop} (hf : P.funcs[f]? = some fn) (hb : fn.body = some c) (m : Nat) (hm : fn.ntmps = m) (hn : args.length ≤ m)
    (h : ∀ ρ, Begun args ρ → wpR P m [] c (bodyPostD P fn R) ρ w) : Calls P f args.toArray w R := by
  subst hm
  refine calls_of_wp_defers hf hb ?_
  have hget : ∀ t, (args.toArray ++ Array.replicate (fn.ntmps - args.toArray.size) undef).getD t undef = args.getD t undef := fun t => by
    simp only [Array.getD_eq_getD_getElem?, List.getD_eq_getElem?_getD, Array.getElem?_append, List.size_toArray, List.getElem?_toArray]
    by_cases ht : t < args.length
    · rw [if_pos ht]
    · rw [if_neg ht, List.getElem?_eq_none (by omega), Array.getElem?_replicate]
      split <;> rfl
  refine h (fun t => args.getD t undef) ⟨fun _ => rfl⟩ _ ⟨?_, rfl, hget⟩
  simp
  omega
end
open Go.RowKit
section
variable {P : Program} {n : Nat}
theorem wp_of_wpF {c : Code} {QF : PostF} {Q : Exit → Act → World → Prop} {ρ : Slots} {a : Act} {w : World} (h : wpF P n c QF ρ w) (ha : Fits n ρ a) (hq : ∀ e ρ' a' w', Fits n ρ' a' → QF e ρ' w' → Q e a' w') : c.wp P Q a w :=
  wp_mono (h a ha) fun e a' w' ⟨ρ', hf, hQ⟩ => hq e ρ' a' w' hf hQ
def askD : FrameMode → Value × FrameMode
  | .panicking ({ v, recovered := false, goexit := false } :: older) => (v, .panicking ({ v, recovered := true } :: older))
  | u => (.nilIface, u)
theorem recover_ask (c₀ : Frame) (cs : List Frame) (u : FrameMode) (hu : c₀.mode = u) (K : Value → List Frame → Prop) (h : K (askD u).1 ({ c₀ with mode := (askD u).2 } :: cs)) :
    match recoverD (c₀ :: cs) with
    | some (v, cs') => K v cs'
    | none => K .nilIface (c₀ :: cs) := by
  subst hu
  obtain ⟨cf, ct, ctodo, cd, cm, ck, cr⟩ := c₀
  match cm, h with
  | .run, h => exact h
  | .returning, h => exact h
  | .panicking [], h => exact h
  | .panicking ({ v, recovered := true, goexit := g } :: older), h => exact h
  | .panicking ({ v, recovered := false, goexit := true } :: older), h => exact h
  | .panicking ({ v, recovered := false, goexit := false } :: older), h => exact h
theorem callsD_of_rest {f : FuncId} {fn : Func} {c : Code} {args : List Value} {u : FrameMode} {w : World} {R : Ending → World → Prop} {id : Nat} {d0 d1 : Tmp} {ty0 ty1 : TypeId} {p0 p1 : String} {af0 af1 : Array Edge}
    (hf : P.funcs[f]? = some fn) (hb : fn.body = some (.seq (.region id #[⟨some d0, .call ⟨.builtin .recover, #[], #[]⟩, ty0, p0, af0, none⟩, ⟨some d1, .assign (.tmp d0), ty1, p1, af1, none⟩] false) c)) (m : Nat) (hm : fn.ntmps = m) (hn : args.length ≤ m) (h0 : Nat.blt d0 m = true) (h1 : Nat.blt d1 m = true)
    (h : ∀ ρ0, Begun args ρ0 → wpF P m c (postP P fn R) (updO (updO ρ0 (some d0) (askD u).1) (some d1) (askD u).1) w) :
    CallsD P f args.toArray u w fun e u' w' => u' = (askD u).2 ∧ R e w' := by
  subst hm
  refine callsD_of_wpS hf hb fun c₀ cs hu => ?_
  have hget : ∀ t, (args.toArray ++ Array.replicate (fn.ntmps - args.toArray.size) undef).getD t undef = args.getD t undef := fun t => by
    simp only [Array.getD_eq_getD_getElem?, List.getD_eq_getElem?_getD, Array.getElem?_append, List.size_toArray, List.getElem?_toArray]
    by_cases ht : t < args.length
    · rw [if_pos ht]
    · rw [if_neg ht, List.getElem?_eq_none (by omega), Array.getElem?_replicate]
      split <;> rfl
  have hF : Fits fn.ntmps (fun t => args.getD t undef) { tmps := args.toArray ++ Array.replicate (fn.ntmps - args.toArray.size) undef, defers := [] } := ⟨by simp; omega, rfl, hget⟩
  generalize ({ tmps := args.toArray ++ Array.replicate (fn.ntmps - args.toArray.size) undef, defers := [] } : Act) = a at hF ⊢
  have hd0 : ∀ t, some d0 = some t → t < fn.ntmps := fun t ht => by cases ht; exact Nat.le_of_ble_eq_true h0
  have hd1 : ∀ t, some d1 = some t → t < fn.ntmps := fun t ht => by cases ht; exact Nat.le_of_ble_eq_true h1
  have hF1 := hF.put (some d0) hd0 (askD u).1
  have hF2 := hF1.put (some d1) hd1 (askD u).1
  apply wpS_seq
  apply wpS_region
  have hr0 : (execOp a.eval (⟨some d0, .call ⟨.builtin .recover, #[], #[]⟩, ty0, p0, af0, none⟩ : Oper)).run P w = .ok .recover w := by
    simp [execOp, resolve, invoke, builtin, go_sem]
  have hkey : ∀ (v : Value) (cs' : List Frame), v = (askD u).1 → cs' = { c₀ with mode := (askD u).2 } :: cs → wpOpsS P #[⟨some d0, .call ⟨.builtin .recover, #[], #[]⟩, ty0, p0, af0, none⟩, ⟨some d1, .assign (.tmp d0), ty1, p1, af1, none⟩] (Exit.thenS (c.wpS P (bodyPostS P fn c₀ cs fun e u' w' => u' = (askD u).2 ∧ R e w')) (bodyPostS P fn c₀ cs fun e u' w' => u' = (askD u).2 ∧ R e w')) [1] (a.put (some d0) v) cs' w := by
    rintro v cs' rfl rfl
    have hv : (a.put (some d0) (askD u).1).eval (.tmp d0) = (askD u).1 := by
      rw [hF1.eval]
      show (bif Nat.beq d0 d0 then _ else _) = _
      rw [Nat.beq_refl]
      rfl
    have hr1 : (execOp (a.put (some d0) (askD u).1).eval (⟨some d1, .assign (.tmp d0), ty1, p1, af1, none⟩ : Oper)).run P w = .ok (.value (askD u).1) w := by
      simp [execOp, hv]
    simp only [wpOpsS, List.getElem?_toArray, List.getElem?_cons_succ, List.getElem?_cons_zero, Region.wanted, hr1, Oper.upon, if_true]
    refine wpS_of_wp (wp_of_wpF (h _ ⟨fun _ => rfl⟩) hF2 fun e ρ' a' w' hf' hQ => ?_)
    cases e with
    | normal => obtain ⟨v, hv, hR⟩ := hQ a'.tmps hf'.get; exact ⟨hf'.defers, _, rfl, v, hv, rfl, hR⟩
    | ret => obtain ⟨v, hv, hR⟩ := hQ a'.tmps hf'.get; exact ⟨hf'.defers, _, rfl, v, hv, rfl, hR⟩
    | panic ch => exact ⟨hf'.defers, _, rfl, rfl, hQ⟩
    | exit _ => exact hQ.elim
    | goto _ => exact hQ.elim
    | outgrown => exact hQ.elim
  show wpOpsS P _ _ [0, 1] a (c₀ :: cs) w
  unfold wpOpsS
  simp only [List.getElem?_toArray, List.getElem?_cons_zero, Region.wanted, if_true, hr0]
  exact recover_ask c₀ cs u hu (fun v cs' => wpOpsS P _ _ [1] (a.put (some d0) v) cs' w) (hkey _ _ rfl rfl)
end
open Go.RowKit
section
variable {P : Program} {K : Value → World → Prop} {ρ : Slots} {w : World} {d : Option Tmp} {ty : TypeId} {pos : String} {af : Array Edge} {gd : Option (Nat × Bool)} {t ty2 : TypeId}
theorem Yk.assertOk {x : Operand} {u : TypeId} {v : Value} {fs} (hu : P.underlying u = some (.struct fs)) (hx : evalR ρ x = .iface u v) (hk : K (.tuple #[v, .bool true]) w) : Yk P K ((execOp (evalR ρ) ⟨d, .typeAssert x t u true, ty, pos, af, gd⟩).run P w) := by
  refine Yk.value (v := .tuple #[v, .bool true]) (w' := w) ?_ hk
  unfold execOp
  simp [Instr.typeAssert, hx, run_underlying hu, Result.andThen]
theorem Yk.neqNilN {x : Operand} (he : (Op.equal t .nilIface .nilIface).run P w = .ok true w) (hx : evalR ρ x = .nilIface) (hk : K (.bool false) w) : Yk P K ((execOp (evalR ρ) ⟨d, .binOp .neq t x (.const .nilIface) ty2, ty, pos, af, gd⟩).run P w) := by
  have hy : evalR ρ (.const .nilIface) = .nilIface := rfl
  refine Yk.value (v := .bool false) (w' := w) ?_ hk
  unfold execOp
  simp only [hx, hy]
  simp [eqGuard, Go.binOp, he, Result.andThen]
theorem Yk.neqNilS {x : Operand} {u : TypeId} {v : Value} (he : (Op.equal t (.iface u v) .nilIface).run P w = .ok false w) (hx : evalR ρ x = .iface u v) (hk : K (.bool true) w) : Yk P K ((execOp (evalR ρ) ⟨d, .binOp .neq t x (.const .nilIface) ty2, ty, pos, af, gd⟩).run P w) := by
  have hy : evalR ρ (.const .nilIface) = .nilIface := rfl
  refine Yk.value (v := .bool true) (w' := w) ?_ hk
  unfold execOp
  simp only [hx, hy]
  simp [eqGuard, Go.binOp, he, Result.andThen]
theorem deferOk {x : Operand} {fv : Fn} {first cap : Array Value} (hx : evalR ρ x = .func fv first cap) : (execOp (evalR ρ) ⟨none, .defer ⟨.value x, #[], #[]⟩, ty, pos, af, none⟩).run P w = .ok (.defer ⟨.fn fv cap, first⟩) w := by
  unfold execOp
  simp [resolve, hx, Deferred.ofValue, Result.andThen]
theorem ResF.cell1 {p : Tmp} {ty : TypeId} {g : Nat} {t : TypeId} {v : Value} {fr : Nat × Nat} {d : TypeDesc} (hp : ρ p = .pointer (some ⟨g, 0, none⟩)) (hg : w.heap[g]? = some (.cells ([v]).toArray t fr))
    (hu : P.underlying ty = some d) (hd : (match d with | .struct _ | .array _ _ => false | _ => true) = true) : ResF P ρ w (.cell p ty) v := by
  refine ⟨_, hp, ?_⟩
  have hc : w.cell? ⟨g, 0, none⟩ = some v := cellAt hg rfl
  have hagg : (isAgg ty).run P w = .ok false w := by
    unfold isAgg
    cases d <;> first | (simp at hd; done) | simp [run_underlying hu, Result.andThen]
  simp [loadVar, hagg, hc]
theorem leaves_nil {fn : Func} {tmps : Array Value} {R : Ending → World → Prop} (rs : List ResultVar) (hrs : fn.results = rs.toArray) (vs : List Value) (v : Value) (hv : tupled vs = v) (ht : ∀ t, tmps.getD t undef = ρ t) (h : ResAll P ρ w rs vs) (hR : R (.returned v) w) : Leaves P fn tmps R [] .returning w :=
  ⟨_, results_fn hrs ht h, by rw [hv]; exact hR⟩
end
open Go.RowKit
section
variable {P : Program} {n : Nat} {ρ : Slots} {w : World} {Q : PostF}
theorem wpF_draw_one {l r : List Oper} (kS k0 : Nat) (S : World → World → Prop) (Φs : List Fact) {id : Nat} (hm : P.follows .mixedOrders = true) (ds : List Tmp) (hg : goodB l n = true) (hn : tailB l k0 = true) (hk0 : Nat.ble Φs.length k0 = true) (hds : slotsW l = ds) (hr : (l.drop k0) = r) (hlt : Nat.blt k0 l.length = true)
    (hS0 : Nat.blt kS k0 = true) (hgS : (l[kS]?.bind (·.guard)) = none) (hst : AllStab (fun a b => a = b ∨ S w.drew b) Φs)
    (hs : StepsFC P l k0 (fun m w1 => bif Nat.beq m kS then w1 = w.drew else (w1 = w.drew ∨ S w.drew w1)) (fun m a b => bif Nat.beq m kS then S w.drew b else a = b) (facts Φs) ρ 0 l)
    (hQ : ∀ (ρ' : Slots) w1, S w.drew w1 → EndF ds ρ ρ' → EndFacts l (fun _ => []) (facts Φs) ρ' w1 ds → opsF P l.toArray n Q r ρ' w1) : wpF P n (.region id l.toArray true) Q ρ w := by
  have bf : ∀ {a b : Nat}, a ≠ b → Nat.beq a b = false := fun h => by rw [← Bool.not_eq_true, Nat.beq_eq]; exact h
  refine wpF_draw_cutG k0 (fun _ => []) _ _ (fun listed w1 => On listed kS → S w.drew w1) Φs hm ds hg hn hk0 (by unfold killB; simp) hds hr (fun i m _ _ hne' hbit a b hc hr => ?_) (fun i j _ _ _ _ _ v a b h hr => ?_) (fun i listed a b _ hsz hno hcl he hr => ?_) (fun h => ?_) (fun i o a ho hgo => ?_) (fun m _ => ?_) hs hlt (fun ρ' w1 listed hon he hc h2 h3 => ?_)
  · by_cases hmS : m = kS
    · subst hmS
      rw [Nat.beq_refl] at hc ⊢
      rw [bf hne'] at hr
      simp only [cond_true, cond_false] at hc hr ⊢
      rw [← hr]; exact hc
    · rw [bf hmS] at hc ⊢
      simp only [cond_false] at hc ⊢
      by_cases hiS : i = kS
      · subst hiS
        rw [Nat.beq_refl] at hr
        exact .inr hr
      · rw [bf hiS] at hr
        simp only [cond_false] at hr
        rw [← hr]; exact hc
  · refine hst.get Φs j v a b h ?_
    by_cases hiS : i = kS
    · subst hiS
      rw [Nat.beq_refl] at hr
      exact .inr hr
    · rw [bf hiS] at hr
      exact .inl hr
  · intro hon
    by_cases hiS : i = kS
    · subst hiS
      rw [Nat.beq_refl] at hr
      exact hr
    · have hon' : On listed kS := by
        rcases (on_set (by omega)).1 hon with h1 | h1
        · exact absurd h1.symm hiS
        · exact h1
      rw [bf hiS] at hr
      simp only [cond_false] at hr
      rw [← hr]; exact he hon'
  · exact absurd h On.not_replicate
  · have hiS : i ≠ kS := fun e => by rw [e] at ho; rw [ho] at hgS; simp only [Option.bind_some] at hgS; rw [hgS] at hgo; cases hgo
    rw [bf hiS]
    rfl
  · by_cases hmS : m = kS
    · subst hmS; rw [Nat.beq_refl]; rfl
    · rw [bf hmS]; exact .inl rfl
  · exact hQ ρ' w1 (he ((hon kS).2 (Nat.le_of_ble_eq_true hS0))) h2 h3
end
open Go.RowKit
set_option maxRecDepth 100000
theorem anyNilN (w : World) : (Op.equal 20 .nilIface .nilIface).run Tryd.prog w = .ok true w := by kernel_rfl
theorem anyNilS (u : TypeId) (v : Value) (w : World) : (Op.equal 20 (.iface u v) .nilIface).run Tryd.prog w = .ok false w := by kernel_rfl
theorem pk21_isz69 : (Tryd.prog.info? 69).map (·.size) = some 1 := by kernel_rfl
theorem pk21_ty69 : ∃ fs, Tryd.prog.underlying 69 = some (.struct fs) := struct_of (by kernel_rfl)
theorem pk21_al69 {d : Option Tmp} {ty : TypeId} {pos : String} {af : Array Edge} {gd : Option (Nat × Bool)} (σ : Operand → Value) (w : World) : (execOp σ ⟨d, .alloc 69, ty, pos, af, gd⟩).run Tryd.prog w = .ok (.value (PQ w.heap.size 0)) (w.alloc (.cells ([NI 0]).toArray 69)) := by kernel_rfl
theorem pk21_fo69_0 : FieldOff Tryd.prog 69 0 0 := fun b o w => by simp [go_sem]
theorem pk21_ty25 : Tryd.prog.underlying 25 = some (.int .i64) := by kernel_rfl
theorem pk21_isz33 : (Tryd.prog.info? 33).map (·.size) = some 1 := by kernel_rfl
theorem pk21_isz25 : (Tryd.prog.info? 25).map (·.size) = some 1 := by kernel_rfl
theorem open1_idle (b2 b3 : Nat) (w : World) : CallsD Tryd.prog 36 #[PQ b2 0, PQ b3 0] (.returning) w fun e u' w' => u' = (askD (.returning)).2 ∧ (e = .returned (.tuple #[]) ∧ Ext w w') := by
 have hE := Ext.refl w
 refine callsD_of_rest (u := .returning) (args := [PQ b2 0, PQ b3 0]) Tryd.func36 rfl 18 rfl (Nat.le_of_ble_eq_true rfl) rfl rfl (R := fun e w' => e = .returned (.tuple #[]) ∧ Ext w w') ?_
 intro ρz hb
 have T0 : (updO (updO ρz (some 5) (askD (.returning)).1) (some 2) (askD (.returning)).1) 0 = (PQ b2 0 : Value) := hb.get 0
 have T1 : (updO (updO ρz (some 5) (askD (.returning)).1) (some 2) (askD (.returning)).1) 1 = (PQ b3 0 : Value) := hb.get 1
 have T2 : (updO (updO ρz (some 5) (askD (.returning)).1) (some 2) (askD (.returning)).1) 2 = (.nilIface : Value) := rfl
 generalize updO (updO ρz (some 5) (askD (.returning)).1) (some 2) (askD (.returning)).1 = ρ0 at T0 T1 T2 ⊢
 clear hb
 refine sk fun K1 hK1 => (wt (oM rfl (oS rfl (Yk.neqNilN (anyNilN _) T2 (oZ (tN (hK1 _ _ (wpF_false (vr (.bool (false)) rfl) (wpF_skip (postP_end (fn := Tryd.f36) [] rfl [] (.tuple #[]) rfl trivial ?_))))))))))
 exact ⟨rfl, hE⟩

theorem open1_stop (w0 : World) (b2 b3 c : Nat) (v2 v3 : Value) (w : World) (h0 : Ext w0 w) (l2 : w0.heap.size ≤ b2) (l3 : w0.heap.size ≤ b3) (hne : b2 ≠ b3) (h2 : w.heap[b2]? = some (.cells ([v2]).toArray 33 (0, 0))) (h3 : w.heap[b3]? = some (.cells ([v3]).toArray 25 (0, 0))) : CallsD Tryd.prog 36 #[PQ b2 0, PQ b3 0] (.panicking [stopE c]) w fun e u' w' => u' = (askD (.panicking [stopE c])).2 ∧ (e = .returned (.tuple #[]) ∧ w'.heap[b2]? = some (.cells ([.pointer none]).toArray 33 (0, 0)) ∧ w'.heap[b3]? = some (.cells ([NI c]).toArray 25 (0, 0)) ∧ Ext w0 w') := by
 have hl2_ := (bl h2)
 have hl3_ := (bl h3)
 refine callsD_of_rest (u := .panicking [stopE c]) (args := [PQ b2 0, PQ b3 0]) Tryd.func36 rfl 18 rfl (Nat.le_of_ble_eq_true rfl) rfl rfl (R := fun e w' => e = .returned (.tuple #[]) ∧ w'.heap[b2]? = some (.cells ([.pointer none]).toArray 33 (0, 0)) ∧ w'.heap[b3]? = some (.cells ([NI c]).toArray 25 (0, 0)) ∧ Ext w0 w') ?_
 intro ρz hb
 have T0 : (updO (updO ρz (some 5) (askD (.panicking [stopE c])).1) (some 2) (askD (.panicking [stopE c])).1) 0 = (PQ b2 0 : Value) := hb.get 0
 have T1 : (updO (updO ρz (some 5) (askD (.panicking [stopE c])).1) (some 2) (askD (.panicking [stopE c])).1) 1 = (PQ b3 0 : Value) := hb.get 1
 have T2 : (updO (updO ρz (some 5) (askD (.panicking [stopE c])).1) (some 2) (askD (.panicking [stopE c])).1) 2 = ((.iface 69 (.agg ([NI c]).toArray)) : Value) := rfl
 generalize updO (updO ρz (some 5) (askD (.panicking [stopE c])).1) (some 2) (askD (.panicking [stopE c])).1 = ρ0 at T0 T1 T2 ⊢
 clear hb
 refine sk fun K1 hK1 => (wt (oM rfl (oS rfl (Yk.neqNilS (anyNilS _ _ _) T2 (oZ (tN (hK1 _ _ (wpF_true (vr (.bool (true)) rfl) (sk fun K2 hK2 => (wt (oM rfl (oS rfl (Yk.assertOk (pk21_ty69).choose_spec T2 (oM rfl (oS rfl (Yk.extract (vs := [.agg ([NI c] : List Value).toArray, .bool (true)]) (vr (.tuple #[.agg ([NI c] : List Value).toArray, .bool (true)]) rfl) (show _ = some (.agg ([NI c] : List Value).toArray : Value) from rfl) (oS rfl (Yk.extract (vs := [.agg ([NI c] : List Value).toArray, .bool (true)]) (vr (.tuple #[.agg ([NI c] : List Value).toArray, .bool (true)]) rfl) (show _ = some (.bool (true) : Value) from rfl) (oS rfl (Yk.alloc (cs := ([NI 0]).toArray) pk21_al69 fun n3 w4 hn5 hb6 hx7 hs8 => ?_))))))))))))))))))))
 have hA9 := Ext.refl w
 have hea10 := h0
 have hz11 := h0.size
 have hlt12 := lte (bl h2) hn5
 have hlt13 := lte (bl h3) hn5
 have h0 := h0.trans hx7
 have h2 := eb hx7 h2
 have h3 := eb hx7 h3
 have hA9 := hA9.trans hx7
 have hb14 := hb6; clear hb6
 have hl15 : n3 < w4.heap.size := by omega
 refine oS rfl (Yk.storeAll (vr (PQ n3 0) rfl) (vr (.agg ([NI c] : List Value).toArray) rfl) hb14 (rfl) ((show (Tryd.prog.info? 69).map (·.size) = some 1 from pk21_isz69)) ((by intro u hu; simp only [List.mem_cons, List.not_mem_nil, or_false] at hu; subst hu; rfl)) fun w16 hb17 hg18 hs19 => ?_)
 have h0 := row_fresh h0 hg18 (Nat.le_trans hz11 (by omega))
 have h2 := kb hg18 h2 (by omega)
 have h3 := kb hg18 h3 (by omega)
 have hA9 := row_fresh hA9 hg18 (Nat.le_trans (Nat.le_refl _) (by omega))
 clear hb14
 have hb14 := hb17; clear hb17
 have hl20 := bl hb14
 refine oA rfl (oZ (tN (hK2 _ _ (sk fun K21 hK21 => (sk fun K22 hK22 => (wt (oM rfl (oS rfl (Yk.notB (vr (.bool (true)) rfl) (oZ (tN (hK22 _ _ (wpF_false (vr (.bool (false)) rfl) (wpF_skip (tN (hK21 _ _ ?_))))))))))))))))
 refine wpF_draw_one 2 3 (fun (a_ b_ : World) => b_.heap[b2]? = some (.cells ([.pointer none]).toArray 33 (0, 0)) ∧ a_.grownBy b_ (some b2) ∧ b_.heap.size = a_.heap.size) [Is (PQ n3 0), Is (NI c), (fun _ _ => True)] (by kernel_rfl) [16, 17] (by kernel_rfl) (by kernel_rfl) (by kernel_rfl) (by kernel_rfl) rfl rfl rfl rfl (si2 ⟨Stab.any, trivial⟩) ?hs1005 ?hQ1005
 case hs1005 =>
  refine ⟨?_, ?_, ?_, ?_, trivial⟩
  ·refine stepFC (stepN rfl fun σ w1 hC h => ?_)
   have hq : w1 = World.drew w16 ∨ (fun (a_ b_ : World) => b_.heap[b2]? = some (.cells ([.pointer none]).toArray 33 (0, 0)) ∧ a_.grownBy b_ (some b2) ∧ b_.heap.size = a_.heap.size) (World.drew w16) w1 := hC
   have hC : BX w16.heap.size (some b2) w16 w1 := by rcases hq with hq | hq; (rw [hq]; exact BX.ofExt ((Below.refl _ _).drew) (Nat.le_refl _)); exact (BX.ofExt ((Below.refl _ _).drew) (Nat.le_refl _)).trans (BX.ofGrown hq.2.1 (Nat.le_refl _) (fun k hk => .inl hk))
   have e3 : σ 3 = PQ n3 0 := (eqo (h 3 (by decide))).trans rfl
   exact Yk.fieldAt pk21_fo69_0 e3 ⟨rfl, rfl⟩
  ·refine stepFC (stepN rfl fun σ w1 hC h => ?_)
   have hq : w1 = World.drew w16 ∨ (fun (a_ b_ : World) => b_.heap[b2]? = some (.cells ([.pointer none]).toArray 33 (0, 0)) ∧ a_.grownBy b_ (some b2) ∧ b_.heap.size = a_.heap.size) (World.drew w16) w1 := hC
   have hC : BX w16.heap.size (some b2) w16 w1 := by rcases hq with hq | hq; (rw [hq]; exact BX.ofExt ((Below.refl _ _).drew) (Nat.le_refl _)); exact (BX.ofExt ((Below.refl _ _).drew) (Nat.le_refl _)).trans (BX.ofGrown hq.2.1 (Nat.le_refl _) (fun k hk => .inl hk))
   have e16 := eqo (h 16 (by decide))
   exact Yk.cell1 pk21_ty25 rfl e16 (cellAt (BX.blk hC hb14 (some_ne (by omega))) (show _ = some (NI c : Value) from rfl)) ⟨rfl, rfl⟩
  ·refine stepFC (stepN rfl fun σ w1 hC h => ?_)
   have hq : w1 = World.drew w16 := hC
   subst hq
   have hC : BX w16.heap.size (some b2) w16 (World.drew w16) := BX.ofExt ((Below.refl _ _).drew) (Nat.le_refl _)
   have e0 := (eqo (h 0 (by decide))).trans T0
   exact Yk.storeC (i := 0) (v := .pointer none) e0 (vr (.pointer none) rfl) (eb ((Below.refl _ _).drew) h2) (Nat.le_of_ble_eq_true rfl) pk21_isz33 rfl rfl fun w2 h1 h2 h3 => ⟨⟨h1, h2, h3⟩, trivial⟩
  ·exact trivial
 intro ρ27 w28 hS30 he hf
 obtain ⟨-, k17, -⟩ := hf
 obtain ⟨T0, T1, T2, T3, T4, T7, T14, -⟩ := he.hold [(0, _), (1, _), (2, _), (3, PQ n3 0), (4, .bool (true)), (7, .bool (true)), (14, .bool (false))] ⟨T0, T1, T2, rfl, rfl, rfl, rfl, trivial⟩ rfl
 clear he
 have hx31 : Ext w16 (World.drew w16) := (Below.refl _ _).drew
 obtain ⟨hb32, hg33, hs34⟩ := hS30
 have h0 := h0.trans hx31
 have h2 := eb hx31 h2
 have h3 := eb hx31 h3
 have hA9 := hA9.trans hx31
 have hb14 := eb hx31 hb14
 have h0 := row_fresh h0 hg33 (Nat.le_trans (Nat.le_refl _) (by omega))
 clear h2
 have h3 := kb hg33 h3 (by omega)
 clear hA9
 have hb14 := kb hg33 hb14 (by omega)
 have h2 := hb32; clear hb32
 have T17 : ρ27 17 = NI c := k17
 clear k17
 refine oS rfl (Yk.storeC (i := 0) (v := NI c) T1 T17 h3 (Nat.le_of_ble_eq_true rfl) pk21_isz25 rfl rfl fun w35 hb36 hg37 hs38 => ?_)
 have h0 := row_fresh h0 hg37 (Nat.le_trans (Nat.le_refl _) (by omega))
 clear h3
 have hb14 := kb hg37 hb14 (by omega)
 have h2 := kb hg37 h2 (by omega)
 have h3 := hb36; clear hb36
 have hl39 := bl h3
 refine oZ (postP_end (fn := Tryd.f36) [] rfl [] (.tuple #[]) rfl trivial ?_)
 exact ⟨rfl, h2, h3, h0⟩
open Go.RowKit
theorem Reads.keepN {w w' : World} {b z n : Nat} {v : Value} {xs : List Value} (h : Reads w z v n xs) (hb : ∀ u ∈ xs, ∃ x, u = B8 x) (hm : NoB8 w b) (hg : w.grownBy w' (some b)) : Reads w' z v n xs := by
  obtain ⟨h1, ao, cap, rfl, h2, h3, h4, h5⟩ := h
  refine ⟨h1, ao, cap, rfl, h2, h3, h4, fun a ha j u hu => ?_⟩
  have hc := h5 a ha j u hu
  have hlt := World.block_lt_of_cell? w _ hc
  have hsp := World.cell?_spot hc
  generalize a.add j = q at hc hlt hsp ⊢
  obtain ⟨q1, q2, q3⟩ := q
  simp only at hsp hlt
  subst hsp
  by_cases e : q1 = b
  · exfalso
    obtain ⟨x, rfl⟩ := hb u (List.mem_of_getElem? hu)
    rw [e] at hc
    exact hm _ _ hc
  · have := hg.block q1 hlt (fun e' => e (Option.some.inj e'))
    unfold World.cell? at hc ⊢
    rw [this]
    exact hc
theorem RG.keepN {w w' : World} {b : Nat} {v : Value} {l : List Bs} (h : RG 32 Lib.byteCells w v l) (hm : NoB8 w b) (hg : w.grownBy w' (some b)) : RG 32 Lib.byteCells w' v l :=
  ⟨h.1, h.2.keepN (fun u hu => by
    obtain ⟨x, -, hx⟩ := List.mem_flatMap.1 hu
    obtain ⟨c, -, rfl⟩ := List.mem_map.1 hx
    exact ⟨c, rfl⟩) hm hg⟩
theorem one_noB8 {w : World} {g : Nat} {v : Value} {T : TypeId} {fr : Nat × Nat} (hb : w.heap[g]? = some (.cells ([v]).toArray T fr)) (hv : ∀ x, v ≠ B8 x) : NoB8 w g := fun j x hc => by
  unfold World.cell? at hc
  rw [hb] at hc
  match j, hc with
  | 0, hc => simp at hc; exact hv x hc
  | j + 1, hc => simp at hc
end Go.Proofs.YtcegdjpdnlaleaaDoor
