/- Part 4 of what stands behind these statements: laws and walks of the functions that are reached. Conditions: those that each theorem names. -/
import Derived.Test.YtmonlobfofkbdaaDoorL3
set_option linter.unusedVariables false
set_option linter.unusedSimpArgs false
namespace Go.Proofs.YtmonlobfofkbdaaDoor
open Go.RowKit
section
variable {P : Program} {l : List Oper} {kill : Nat → List Nat} {C : Nat → World → Prop} {R : Nat → World → World → Prop} {Φ : Nat → Fact} {a0 : Act}
theorem tail_anyW {z : Nat} (g : Good l z) {k : Nat} (ht : ∀ i, k ≤ i → i < l.length → ∀ m, k ≤ m → m < i → ((masks l []).getD i 0).testBit m = true) {Q : Exit → Act → World → Prop} :
    ∀ (fuel m : Nat) (listed : Array Bool) (a : Act) (w : World), listed.size = l.length → (∀ i, On listed i ↔ i < m) → k ≤ m → m ≤ l.length → l.length ≤ m + fuel → wpList P l.toArray Q (l.drop m) a w → wpAny P .any l.toArray Q fuel listed a w := by
  have noReady : ∀ (m : Nat) (listed : Array Bool), listed.size = l.length → (∀ i, On listed i ↔ i < m) → l.length ≤ m → Region.ready .any l.toArray listed = [] := by
    intro m listed hsz hon hm
    cases hr : Region.ready .any l.toArray listed with
    | nil => rfl
    | cons x xs =>
      exfalso
      have hmem : x ∈ Region.ready .any l.toArray listed := by rw [hr]; simp
      obtain ⟨h1, o, ho, _⟩ := mem_ready.1 hmem
      have hx : x < l.length := by simpa using (Array.getElem?_eq_some_iff.1 ho).1
      have h2 := (hon x).2 (by omega)
      have hx' : x < listed.size := h2.lt
      unfold On at h2
      simp [hx'] at h1 h2
      rw [h1] at h2
      cases h2
  intro fuel
  induction fuel with
  | zero =>
    intro m listed a w hsz hon hk hm hf hw
    rw [List.drop_of_length_le (by omega)] at hw
    exact ⟨noReady m listed hsz hon (by omega), hw⟩
  | succ fuel ih =>
    intro m listed a w hsz hon hk hm hf hw
    by_cases hml : m = l.length
    · have hr := noReady m listed hsz hon (by omega)
      rw [List.drop_of_length_le (by omega)] at hw
      exact ⟨fun _ => hw, fun i hi => by rw [hr] at hi; cases hi⟩
    · have hlt : m < l.length := by omega
      have hoff : ¬ On listed m := fun x => by have := (hon m).1 x; omega
      have hI : Inv l (fun _ => []) (fun _ _ => True) (fun _ _ => True) (fun _ _ _ => True) a listed a w :=
        ⟨hsz, fun i o ho hi e he hb => (hon _).2 (by have := g.back i o ho e he hb; have := (hon i).1 hi; omega), rfl, rfl, fun _ _ _ => trivial, trivial, fun _ _ => rfl, fun _ _ _ _ _ _ _ _ => trivial⟩
      refine ⟨fun hr => ?_, fun i hi => ?_⟩
      · exfalso
        have ho : l[m]? = some l[m] := List.getElem?_eq_getElem hlt
        have : m ∈ Region.ready .any l.toArray listed := by
          refine mem_ready.2 ⟨?_, l[m], by rw [List.getElem?_toArray]; exact ho, fun e he hb => (hon _).2 (g.back m _ ho e he hb)⟩
          have hm' : m < listed.size := by omega
          unfold On at hoff
          simp [hm'] at hoff ⊢
          exact hoff
        rw [hr] at this
        cases this
      · obtain ⟨h1, o, ho, hall⟩ := mem_ready.1 hi
        have ho' : l[i]? = some o := by simpa using ho
        have hil : i < l.length := (List.getElem?_eq_some_iff.1 ho').1
        have hno : ¬ On listed i := fun x => by
          have hx : i < listed.size := by omega
          unfold On at x
          simp [hx] at h1 x
          rw [h1] at x
          cases x
        have him : i = m := by
          by_cases h2 : i < m
          · exact absurd ((hon i).2 h2) hno
          · by_cases h3 : i = m
            · exact h3
            · exact absurd (hI.maskReady ho' (fun e he hb => hall e he hb) (ht i (by omega) hil m hk (by omega))) hoff
        subst him
        rw [List.drop_eq_getElem_cons hlt] at hw
        obtain rfl : l[i] = o := by rw [List.getElem?_eq_getElem hlt] at ho'; exact Option.some.inj ho'
        have nxt : ∀ a' w', wpList P l.toArray Q (l.drop (i + 1)) a' w' → wpAny P .any l.toArray Q fuel (listed.setIfInBounds i true) a' w' := fun a' w' hw' =>
          ih (i + 1) _ a' w' (by simpa using hsz) (fun j => by rw [on_set (by omega), hon j]; omega) (by omega) (by omega) (by omega) hw'
        unfold wpOp
        simp only [List.getElem?_toArray, ho']
        unfold wpList at hw
        split at hw
        · rename_i hwt
          rw [if_pos hwt]
          exact hw.imp (fun h => Oper.wp_mono nxt h) (fun h => h)
        · rename_i hwt
          rw [if_neg hwt]
          exact nxt _ _ hw
end
def freeE (l : List Oper) (oe : Oper) (e : Nat) : Bool :=
  (List.range l.length).all fun j => match l[j]? with
    | some o => Nat.beq j e || (o.after.any (fun x => Region.binds .any x && x.on == e) || (oe.apart l.toArray o || ((masks l []).getD e 0).testBit j))
    | none => true
def tailE (l : List Oper) (k e : Nat) : Bool := Nat.blt e k && (List.range l.length).all fun i => Nat.blt i k || (List.range i).all fun m => Nat.beq m e || ((masks l []).getD i 0).testBit m
theorem tailE_iff {l : List Oper} {k e : Nat} (h : tailE l k e = true) : e < k ∧ ∀ i, k ≤ i → i < l.length → ∀ m, m < i → m ≠ e → ((masks l []).getD i 0).testBit m = true := by
  unfold tailE at h
  rw [Bool.and_eq_true] at h
  refine ⟨Nat.le_of_ble_eq_true h.1, fun i hi hl m hm hne => ?_⟩
  have h1 := List.all_eq_true.1 h.2 i (by simpa using hl)
  rcases Bool.or_eq_true _ _ ▸ h1 with h2 | h2
  · have := Nat.le_of_ble_eq_true h2
    omega
  · have h3 := List.all_eq_true.1 h2 m (by simpa using hm)
    rcases Bool.or_eq_true _ _ ▸ h3 with h4 | h4
    · exact absurd (Nat.eq_of_beq_eq_true h4) hne
    · exact h4
section
variable {P : Program} {l : List Oper} {Φ : Nat → Fact} {a0 : Act} {w0 : World} {Q : Exit → Act → World → Prop} {e k : Nat} {oe : Oper}
theorem extract_yields {dst : Option Tmp} {t : Tmp} {n : Nat} {ty : TypeId} {pos : String} {af : Array Edge} (he : l[e]? = some ⟨dst, .extract (.tmp t) n, ty, pos, af, none⟩) {K : Act → World → Prop} {a : Act} {w : World}
    (h : wpOp P l.toArray (fun _ _ _ => False) e K a w) : ∃ x, Yields P l.toArray ⟨dst, .extract (.tmp t) n, ty, pos, af, none⟩ x a ∧ K (a.put dst x) w := by
  unfold wpOp at h
  simp only [List.getElem?_toArray, he, Region.wanted, if_true] at h
  rcases h with h | ⟨-, -, -, h⟩
  · unfold Oper.wp at h
    have hr : ∀ v : Value, (∃ x, ∀ w : World, (Instr.extract v n).run P w = .ok x w) ∨ ∀ w : World, ∃ s, (Instr.extract v n).run P w = .halt (.stuck s) w := by
      intro v
      cases v with
      | tuple vs =>
        cases hx : vs[n]? with
        | some x => exact .inl ⟨x, fun w => by simp [Instr.extract, hx]⟩
        | none => exact .inr fun w => ⟨_, by simp only [Instr.extract, hx]; rfl⟩
      | _ => exact .inr fun w => ⟨_, by simp only [Instr.extract]; rfl⟩
    rcases hr (a.eval (.tmp t)) with ⟨x, hx⟩ | hx
    · have he : ∀ w : World, (execOp a.eval ⟨dst, .extract (.tmp t) n, ty, pos, af, none⟩).run P w = .ok (.value x) w := fun w => by
        unfold execOp
        simp only [Sem.run_bind, hx, Result.andThen_ok, Sem.run_pure]
      rw [he] at h
      exact ⟨x, .inl ⟨rfl, he⟩, h⟩
    · obtain ⟨s, hs⟩ := hx w
      have he : (execOp a.eval ⟨dst, .extract (.tmp t) n, ty, pos, af, none⟩).run P w = .halt (.stuck s) w := by
        unfold execOp
        simp only [Sem.run_bind, hs]
        rfl
      rw [he] at h
      exact h.elim
  · exact h.elim
theorem anyInvE (g : Good l a0.tmps.size) (hsel : Region.noSelect l.toArray = true) {d t : Tmp} {n : Nat} {ty : TypeId} {pos : String} {af : Array Edge} (he : l[e]? = some ⟨some d, .extract (.tmp t) n, ty, pos, af, none⟩)
    (hte : tailE l k e = true) (hfr : freeE l ⟨some d, .extract (.tmp t) n, ty, pos, af, none⟩ e = true) (hk : k ≤ l.length) (hst : ∀ i, Stab Ext (Φ i))
    (hs : ∀ i o, l[i]? = some o → i < k → StepOk P l (fun _ => Ext w0) (fun _ => Ext) Φ a0.tmps i o) (hQp : ∀ v c a w, Q (.panic c) (a.put (some d) v) w → Q (.panic c) a w)
    (hQ : ∀ listed a' w', (∀ i, On listed i ↔ i < k) → Inv l (fun _ => []) (fun _ => Ext w0) (fun _ _ => True) Φ a0 listed a' w' → wpList P l.toArray Q (l.drop k) a' w') :
    ∀ (fuel : Nat) (listed : Array Bool) (a : Act) (w : World), (listed.toList.filter (!·)).length = fuel → (∀ i, On listed i → i < k) → e ∉ Region.ready .any l.toArray listed → Inv l (fun _ => []) (fun _ => Ext w0) (fun _ _ => True) Φ a0 listed a w → wpAny P .any l.toArray Q fuel listed a w := by
  obtain ⟨hek, hte⟩ := tailE_iff hte
  have ht : ∀ i, k ≤ i → i < l.length → ∀ m, k ≤ m → m < i → ((masks l []).getD i 0).testBit m = true := fun i hi hl m hkm hm => hte i hi hl m hm (by omega)
  have hkl : killB l (fun _ => []) = true := by unfold killB; simp
  have hC : ∀ n m, n < l.length → m < l.length → n ≠ m → ((masks l []).getD n 0).testBit m = false → ∀ w w', Ext w0 w → Ext w w' → Ext w0 w' := fun _ _ _ _ _ _ _ _ hc hr => hc.trans hr
  have hE : ∀ n listed (w w' : World), n < l.length → listed.size = l.length → ¬ On listed n → (∀ i k, On listed i ∨ i = n → ((masks l []).getD i 0).testBit k = true → On listed k) → True → Ext w w' → True := fun _ _ _ _ _ _ _ _ _ _ => trivial
  have hΦ : ∀ n i, n < l.length → i < l.length → i ∉ ([] : List Nat) → i ≠ n → ((masks l []).getD i 0).testBit n = false → ∀ v w w', Φ i v w → Ext w w' → Φ i v w' := fun _ i _ _ _ _ _ v w w' => hst i v w w'
  have hRr : ∀ (n : Nat) o (w : World), l[n]? = some o → o.guard.isSome = true → Ext w w := fun _ _ w _ _ => Ext.refl w
  intro fuel
  induction fuel using Nat.strongRecOn with
  | _ fuel ih =>
  intro listed a w hf hoff hre h
  by_cases hfull : ∀ i, i < k → On listed i
  · have hon : ∀ i, On listed i ↔ i < k := fun i => ⟨hoff i, hfull i⟩
    refine tail_anyW g ht fuel k listed a w h.size hon (Nat.le_refl _) hk ?_ (hQ listed a w hon h)
    have e1 := List.take_append_drop k listed.toList
    rw [← e1, List.filter_append, List.length_append] at hf
    have e2 : (listed.toList.drop k).filter (!·) = listed.toList.drop k := List.filter_eq_self.2 fun b hb => by
      obtain ⟨j, hj, rfl⟩ := List.getElem_of_mem hb
      rw [List.getElem_drop]
      have hno : ¬ On listed (k + j) := fun x => by have := hoff _ x; omega
      rw [List.length_drop] at hj
      have hlt : k + j < listed.size := by rw [← Array.length_toList]; omega
      unfold On at hno
      simp [hlt] at hno
      simp [hno]
    rw [e2, List.length_drop] at hf
    have hz : listed.toList.length = l.length := by rw [Array.length_toList]; exact h.size
    omega
  · have hunl : ∀ i, i < l.length → ¬ On listed i → listed.getD i true = false := fun i hi hno => by
      have hi' : i < listed.size := by rw [h.size]; exact hi
      unfold On at hno
      simp [hi'] at hno ⊢
      exact hno
    have hlow : ∃ j, j < k ∧ j ≠ e ∧ ¬ On listed j := by
      refine Classical.byContradiction fun hn => hfull fun i hi => Classical.byContradiction fun hx => ?_
      have hall : ∀ j, j < k → j ≠ e → On listed j := fun j hj hje => Classical.byContradiction fun hx => hn ⟨j, hj, hje, hx⟩
      have hie : i = e := Classical.byContradiction fun hne => hx (hall i hi hne)
      subst hie
      refine hre (mem_ready.2 ⟨hunl i (by omega) hx, _, by rw [List.getElem?_toArray]; exact he, fun x hxm hb => ?_⟩)
      have := g.back i _ he x hxm hb
      exact hall x.on (by omega) (by omega)
    obtain ⟨j0, hj0, hj0e, hoff0⟩ := hlow
    have hpos : ∀ (L : Array Bool) i, L.size = l.length → i < l.length → L.getD i true = false → ∃ m, (L.toList.filter (!·)).length = m + 1 ∧ ((L.setIfInBounds i true).toList.filter (!·)).length = m := fun L i hL hi hx => by
      have hi' : i < L.size := by omega
      have := count_set L.toList i (by simp [hi'] at hx; simp [hi', hx])
      exact ⟨_, this.symm, by rw [Array.toList_setIfInBounds]⟩
    obtain ⟨f0, hf0, -⟩ := hpos listed j0 h.size (by omega) (hunl j0 (by omega) hoff0)
    obtain rfl : fuel = f0 + 1 := by omega
    refine ⟨fun hr => ?_, fun i hi => ?_⟩
    · exfalso
      have full : ∀ i, i < l.length → On listed i := by
        intro i
        induction i using Nat.strongRecOn with
        | _ i ih2 =>
          intro hi
          refine Classical.byContradiction fun hno => ?_
          have ho : l[i]? = some l[i] := List.getElem?_eq_getElem hi
          have : i ∈ Region.ready .any l.toArray listed := mem_ready.2 ⟨hunl i hi hno, l[i], by rw [List.getElem?_toArray]; exact ho, fun x hx hb => by
            have hlt := g.back i _ ho x hx hb
            exact ih2 x.on hlt (by omega)⟩
          rw [hr] at this
          cases this
      exact hoff0 (full j0 (by omega))
    · have hie : i ≠ e := fun x => hre (x ▸ hi)
      obtain ⟨h1, o, ho, hall0⟩ := mem_ready.1 hi
      have ho' : l[i]? = some o := by simpa using ho
      have hilt : i < l.length := (List.getElem?_eq_some_iff.1 ho').1
      have hil : i < listed.size := by rw [h.size]; exact hilt
      have hno : ¬ On listed i := by
        unfold On
        simp [hil] at h1 ⊢
        exact h1
      have hall : ∀ x ∈ o.after, Region.binds .any x = true → On listed x.on := fun x hx hb => hall0 x hx hb
      have hik : i < k := by
        by_cases h2 : i < k
        · exact h2
        · exact absurd (h.maskReady ho' hall (hte i (by omega) hilt j0 (by omega) hj0e)) hoff0
      obtain ⟨f1, hf1, hcnt⟩ := hpos listed i h.size hilt h1
      obtain rfl : f1 = f0 := by omega
      refine h.step g hkl hC hE hΦ hRr ho' hno hall (hs i o ho' hik) fun a' w' h' => ?_
      have hoff' : ∀ j, On (listed.setIfInBounds i true) j → j < k := fun j hx => by
        rcases (on_set hil).1 hx with rfl | h3
        · exact hik
        · exact hoff j h3
      by_cases hre' : e ∈ Region.ready .any l.toArray (listed.setIfInBounds i true)
      · obtain ⟨q1, oe', hoe, hq⟩ := mem_ready.1 hre'
        have hoe' : l[e]? = some oe' := by simpa using hoe
        obtain rfl := Option.some.inj (he.symm.trans hoe')
        have helt : e < l.length := by omega
        have hel : e < (listed.setIfInBounds i true).size := by rw [h'.size]; exact helt
        have hnoe : ¬ On (listed.setIfInBounds i true) e := by
          unfold On
          rw [Array.getD_eq_getD_getElem?] at q1 ⊢
          rw [Array.getElem?_eq_getElem hel] at q1 ⊢
          simp only [Option.getD_some] at q1 ⊢
          rw [q1]
          decide
        have hw := h'.step g hkl hC hE hΦ hRr he hnoe (fun x hx hb => hq x hx hb) (hs e _ he hek) (K := fun a2 w2 => Inv l (fun _ => []) (fun _ => Ext w0) (fun _ _ => True) Φ a0 ((listed.setIfInBounds i true).setIfInBounds e true) a2 w2) (Q := fun _ _ _ => False) (fun _ _ hx => hx)
        obtain ⟨x, hy, hK⟩ := extract_yields he hw
        obtain ⟨f2, hf2, hcnt2⟩ := hpos _ e h'.size helt q1
        obtain rfl : f1 = f2 + 1 := by omega
        refine wpAny_first hoe (Region.noSelect_spec hsel) (hQp x) f2 _ a' w' (fun j oj hoj hje hjun hjno => ?_) hre' hy (ih f2 (by omega) _ _ _ hcnt2 (fun j hx => ?_) (fun hx => ?_) hK)
        · have hoj' : l[j]? = some oj := by simpa using hoj
          have hjl : j < l.length := (List.getElem?_eq_some_iff.1 hoj').1
          have hfj := List.all_eq_true.1 hfr j (by simpa using hjl)
          rw [hoj'] at hfj
          simp only [Bool.or_eq_true] at hfj
          rcases hfj with h3 | h3 | h3 | h3
          · exact absurd (Nat.eq_of_beq_eq_true h3) hje
          · obtain ⟨y, hy1, hy2⟩ := Array.any_eq_true'.1 h3
            simp only [Bool.and_eq_true, beq_iff_eq] at hy2
            exact absurd hy2.2 (hjno y hy1 hy2.1)
          · exact h3
          · have hon := h'.maskReady he (fun x hx hb => hq x hx hb) h3
            have hjl' := hon.lt
            unfold On at hon
            rw [Array.getD_eq_getD_getElem?, Array.getElem?_eq_getElem hjl'] at hon hjun
            simp only [Option.getD_some] at hon hjun
            rw [hon] at hjun
            cases hjun
        · rcases (on_set hel).1 hx with rfl | h3
          · exact hek
          · exact hoff' j h3
        · have := (mem_ready.1 hx).1
          simp [hel] at this
      · exact ih f1 (by omega) _ _ _ hcnt hoff' hre' h'
end
section
variable {P : Program} {n : Nat} {ρ : Slots} {w : World} {Q : PostF}
theorem wpF_draw_late {l r : List Oper} (e k0 : Nat) (Φs : List Fact) {id : Nat} (hm : P.follows .mixedOrders = true) (ds : List Tmp) (hg : goodB l n = true) {d t : Tmp} {m : Nat} {ty : TypeId} {pos : String} {af : Array Edge} (he : l[e]? = some ⟨some d, .extract (.tmp t) m, ty, pos, af, none⟩) (hsel : Region.noSelect l.toArray = true)
    (hn : tailE l k0 e = true) (hfr : freeE l ⟨some d, .extract (.tmp t) m, ty, pos, af, none⟩ e = true) (haf : af.any (fun x => Region.binds .any x) = true) (hk0 : Nat.ble Φs.length k0 = true) (hds : slotsW l = ds) (hr : (l.drop k0) = r) (hlt : Nat.blt k0 l.length = true) (hst : AllStab Ext Φs)
    (hQp : ∀ c ρ ρ' w, Q (.panic c) ρ w → Q (.panic c) ρ' w)
    (hs : StepsFC P l k0 (fun _ => Ext w) (fun _ => Ext) (facts Φs) ρ 0 l)
    (hQ : ∀ (ρ' : Slots) w1, Ext w w1 → EndF ds ρ ρ' → EndFacts l (fun _ => []) (facts Φs) ρ' w1 ds → opsF P l.toArray n Q r ρ' w1) : wpF P n (.region id l.toArray true) Q ρ w := by
  intro a ha
  obtain ⟨T, df⟩ := a
  have hz : T.size = n := ha.size
  subst hz
  have hk1 : k0 < l.length := Nat.le_of_ble_eq_true hlt
  have g := good_of hg
  have hno0 : ∀ i, ¬ On (Array.replicate l.toArray.size false) i := fun i h => by
    unfold On at h
    rw [Array.getD_eq_getD_getElem?, Array.getElem?_replicate] at h
    split at h <;> simp at h
  refine wp_region_any hm (anyInvE (a0 := { tmps := T, defers := df }) (w0 := w) (Φ := facts Φs) g hsel he hn hfr (Nat.le_of_lt hk1) (fun i => hst.get Φs i) (fun i o ho hi => ?_) (fun v c a' w' hx => ?_) (fun listed a' w' hon h => ?_) _ _ _ _ (by simp) (fun i h => absurd h (hno0 i)) ?_ ?_)
  · have hst := StepsFC.get l 0 hs i o ho (by omega)
    rw [Nat.zero_add] at hst
    have h2 := StepsF.ok (P := P) (l := l) (C := fun _ => Ext w) (R := fun _ => Ext) (Φ := facts Φs) (T := T) ha.get [o] i ⟨hst, trivial⟩
    exact h2.1
  · obtain ⟨ρ', hf, hq⟩ := hx
    exact ⟨fun t => a'.tmps.getD t undef, ⟨by have := hf.size; simpa [Act.put] using this, by have := hf.defers; simpa [Act.put] using this, fun _ => rfl⟩, hQp _ _ _ _ hq⟩
  · have hw : ∀ d k, writer l d l.length = some k → (List.range l.length).all (fun n => !([] : List Nat).contains k) = true → facts Φs k (a'.tmps.getD d undef) w' := fun d k hk hall => by
      obtain ⟨h1, ⟨o, ho, hd'⟩, h3⟩ := writer_some _ hk
      by_cases hkL : k0 ≤ k
      · have e : facts Φs k = fun _ _ => True := by
          have := Nat.le_of_ble_eq_true hk0
          unfold facts
          rw [List.getD_eq_getElem?_getD, List.getElem?_eq_none (by omega)]
          rfl
        rw [e]
        trivial
      exact h.new d k o ho hd' ((hon k).2 (by omega)) (fun k' o' hkk ho' hd'' _ => h3 k' o' hkk (List.getElem?_eq_some_iff.1 ho').1 ho' hd'') (fun n hn => by simp)
    have hget : ∀ t, a'.tmps.getD t undef = if t ∈ ds then a'.tmps.getD t undef else ρ t := fun t => by
      by_cases hn : t ∈ ds
      · rw [if_pos hn]
      · rw [if_neg hn, ← ha.get]
        exact h.old t fun k o ho hd _ => hn (by
          rw [← hds]
          unfold slotsW
          rw [List.mem_eraseDups, List.mem_filterMap]
          exact ⟨o, List.mem_of_getElem? ho, hd⟩)
    have hcl := h.cls k0 hk1 (fun x => by have := (hon k0).1 x; omega)
    have hend : EndF ds ρ (fun t => a'.tmps.getD t undef) := ⟨fun t ht => by rw [hget t, if_neg (by simpa using ht)]⟩
    have := hQ (fun t => a'.tmps.getD t undef) w' hcl hend (endFacts_of hw ds)
    rw [hr]
    exact this a' ⟨h.tmps, h.defers.trans ha.defers, fun t => rfl⟩
  · intro hx
    obtain ⟨-, o, ho, hall⟩ := mem_ready.1 hx
    obtain rfl := Option.some.inj (he.symm.trans (by simpa using ho))
    obtain ⟨x, hx1, hx2⟩ := Array.any_eq_true'.1 haf
    exact hno0 _ (hall x hx1 hx2)
  · exact ⟨Array.size_replicate, fun i o _ h => absurd h (hno0 i), rfl, rfl, fun n hn _ => (Below.refl _ _).drew, trivial, fun t _ => rfl, fun t k o _ _ h => absurd h (hno0 k)⟩
end
open Go.RowKit
set_option maxRecDepth 100000
theorem apply_to {w : World} {z : RefsV} {lv : Value} {l : List Upd} {note : Bs} {R : Refs} {n : Nat} (hA : applyP z.1 l note = (n, R)) (hm : RefsAt w z) (hL : RefsLt z.1) (hr : RG 66 updC w lv l) (hl : l.length ≤ 1000) (hln : ∀ u ∈ l, u.name.length ≤ 9223372036854775807) :
  Calls Tryd.prog 26 #[.agg (refsC z).toArray, lv, St note] w fun e w' => ∃ v, e = .returned (.tuple #[.agg (refsC (R, v)).toArray, NI n]) ∧ RefsOw w.heap.size w' (R, v) ∧ Ext w w' := by
 have h := apply20_any w z hm hL lv l hr hl hln note
 rw [hA] at h
 exact h
theorem look_to {w : World} {z : RefsV} {i : Id32} {n : Nat} (hA : look0P z.1 = (i, n)) (hm : RefsAt w z) (hL : RefsLt z.1) :
  Calls Tryd.prog 39 #[.agg (refsC z).toArray, St []] w fun e w' => e = .returned (.tuple #[AB i.1, NI n]) ∧ Ext w w' := by
 have h := look0_any w z hm hL
 rw [hA] at h
 exact h
theorem begin_lt : RefsLt beginV.1 := ⟨by decide, by decide, by decide, by decide, by decide, by decide⟩
theorem r1_lt : RefsLt r1 := ⟨by decide, by decide, by decide, by decide, by decide, by decide⟩
theorem wr37_bs67_0_1_3h (z0 : Int) (z1 : ByteArray) (c3_0 c3_1 c3_2 c3_3 c3_4 c3_5 c3_6 c3_7 c3_8 c3_9 c3_10 c3_11 c3_12 c3_13 c3_14 c3_15 c3_16 c3_17 c3_18 c3_19 c3_20 c3_21 c3_22 c3_23 c3_24 c3_25 c3_26 c3_27 c3_28 c3_29 c3_30 c3_31 : Value) (w : World) : (Instr.build 67 #[(0, .int .u8 z0), (1, .string z1), (3, .agg #[c3_0, c3_1, c3_2, c3_3, c3_4, c3_5, c3_6, c3_7, c3_8, c3_9, c3_10, c3_11, c3_12, c3_13, c3_14, c3_15, c3_16, c3_17, c3_18, c3_19, c3_20, c3_21, c3_22, c3_23, c3_24, c3_25, c3_26, c3_27, c3_28, c3_29, c3_30, c3_31])]).run Tryd.prog w = .ok (.agg #[.int .u8 z0, .string z1, .int .u8 0, .int .u8 0, .int .u8 0, .int .u8 0, .int .u8 0, .int .u8 0, .int .u8 0, .int .u8 0, .int .u8 0, .int .u8 0, .int .u8 0, .int .u8 0, .int .u8 0, .int .u8 0, .int .u8 0, .int .u8 0, .int .u8 0, .int .u8 0, .int .u8 0, .int .u8 0, .int .u8 0, .int .u8 0, .int .u8 0, .int .u8 0, .int .u8 0, .int .u8 0, .int .u8 0, .int .u8 0, .int .u8 0, .int .u8 0, .int .u8 0, .int .u8 0, c3_0, c3_1, c3_2, c3_3, c3_4, c3_5, c3_6, c3_7, c3_8, c3_9, c3_10, c3_11, c3_12, c3_13, c3_14, c3_15, c3_16, c3_17, c3_18, c3_19, c3_20, c3_21, c3_22, c3_23, c3_24, c3_25, c3_26, c3_27, c3_28, c3_29, c3_30, c3_31]) w := by kernel_rfl
theorem wr37_bs67_0_1_3 (z0 : UInt8) (z1 : List UInt8) (z3 : Id32) (w : World) : (Instr.build 67 #[(0, B8 z0), (1, St z1), (3, AB z3.1)]).run Tryd.prog w = .ok (.agg (B8 (z0) :: (St (z1) :: (Lib.byteCells zid.1 ++ (Lib.byteCells z3.1)))).toArray) w := by
 obtain ⟨z3, k3⟩ := z3
 obtain ⟨a3_0, a3_1, a3_2, a3_3, a3_4, a3_5, a3_6, a3_7, a3_8, a3_9, a3_10, a3_11, a3_12, a3_13, a3_14, a3_15, a3_16, a3_17, a3_18, a3_19, a3_20, a3_21, a3_22, a3_23, a3_24, a3_25, a3_26, a3_27, a3_28, a3_29, a3_30, a3_31, rfl⟩ := list32 k3
 exact wr37_bs67_0_1_3h _ _ _ _ _ _ _ _ _ _ _ _ _ _ _ _ _ _ _ _ _ _ _ _ _ _ _ _ _ _ _ _ _ _ w
theorem wr37_al67 {d : Option Tmp} {ty : TypeId} {pos : String} {af : Array Edge} {gd : Option (Nat × Bool)} (σ : Operand → Value) (w : World) : (execOp σ ⟨d, .alloc 67, ty, pos, af, gd⟩).run Tryd.prog w = .ok (.value (PQ w.heap.size 0)) (w.alloc (.cells (updC (⟨0, [], zid, zid⟩ : Upd)).toArray 67)) := by kernel_rfl
theorem wr37_isz67 : (Tryd.prog.info? 67).map (·.size) = some 66 := by kernel_rfl
theorem wr37_pl33 : Plain Tryd.prog 33 := fun _ _ => by kernel_rfl
theorem wr37_ty67 : ∃ fs, Tryd.prog.underlying 67 = some (.struct fs) := struct_of (by kernel_rfl)
theorem wr37_lh22 (c0 c1 c2 c3 c4 c5 c6 c7 c8 c9 c10 c11 c12 c13 c14 c15 c16 c17 c18 c19 c20 c21 c22 c23 c24 c25 c26 c27 c28 c29 c30 c31 c32 c33 c34 c35 c36 c37 c38 c39 c40 c41 c42 c43 c44 c45 c46 c47 c48 c49 c50 c51 c52 c53 c54 c55 c56 c57 c58 c59 c60 c61 c62 c63 c64 c65 : Value) (w : World) : (Instr.buildSlice 22 1 #[(0, .agg #[c0, c1, c2, c3, c4, c5, c6, c7, c8, c9, c10, c11, c12, c13, c14, c15, c16, c17, c18, c19, c20, c21, c22, c23, c24, c25, c26, c27, c28, c29, c30, c31, c32, c33, c34, c35, c36, c37, c38, c39, c40, c41, c42, c43, c44, c45, c46, c47, c48, c49, c50, c51, c52, c53, c54, c55, c56, c57, c58, c59, c60, c61, c62, c63, c64, c65])]).run Tryd.prog w = .ok (.slice (some ⟨w.heap.size, 0, none⟩) 1 1) (w.alloc (.cells #[c0, c1, c2, c3, c4, c5, c6, c7, c8, c9, c10, c11, c12, c13, c14, c15, c16, c17, c18, c19, c20, c21, c22, c23, c24, c25, c26, c27, c28, c29, c30, c31, c32, c33, c34, c35, c36, c37, c38, c39, c40, c41, c42, c43, c44, c45, c46, c47, c48, c49, c50, c51, c52, c53, c54, c55, c56, c57, c58, c59, c60, c61, c62, c63, c64, c65] 67)) := by kernel_rfl
theorem wr37_lg22 : ∀ (cs : Array Value), cs.size = 66 → ∀ w : World, (Instr.buildSlice 22 1 #[(0, .agg cs)]).run Tryd.prog w = .ok (.slice (some ⟨w.heap.size, 0, none⟩) 1 1) (w.alloc (.cells cs 67))
 | ⟨c0 :: c1 :: c2 :: c3 :: c4 :: c5 :: c6 :: c7 :: c8 :: c9 :: c10 :: c11 :: c12 :: c13 :: c14 :: c15 :: c16 :: c17 :: c18 :: c19 :: c20 :: c21 :: c22 :: c23 :: c24 :: c25 :: c26 :: c27 :: c28 :: c29 :: c30 :: c31 :: c32 :: c33 :: c34 :: c35 :: c36 :: c37 :: c38 :: c39 :: c40 :: c41 :: c42 :: c43 :: c44 :: c45 :: c46 :: c47 :: c48 :: c49 :: c50 :: c51 :: c52 :: c53 :: c54 :: c55 :: c56 :: c57 :: c58 :: c59 :: c60 :: c61 :: c62 :: c63 :: c64 :: c65 :: []⟩, _, w => wr37_lh22 c0 c1 c2 c3 c4 c5 c6 c7 c8 c9 c10 c11 c12 c13 c14 c15 c16 c17 c18 c19 c20 c21 c22 c23 c24 c25 c26 c27 c28 c29 c30 c31 c32 c33 c34 c35 c36 c37 c38 c39 c40 c41 c42 c43 c44 c45 c46 c47 c48 c49 c50 c51 c52 c53 c54 c55 c56 c57 c58 c59 c60 c61 c62 c63 c64 c65 w
theorem wr37_pl26 : Plain Tryd.prog 26 := fun _ _ => by kernel_rfl
theorem wr37_al53 {d : Option Tmp} {ty : TypeId} {pos : String} {af : Array Edge} {gd : Option (Nat × Bool)} (σ : Operand → Value) (w : World) : (execOp σ ⟨d, .alloc 53, ty, pos, af, gd⟩).run Tryd.prog w = .ok (.value (PQ w.heap.size 0)) (w.alloc (.cells (refsC ((⟨[], [], [], zid, []⟩, ⟨.slice none 0 0, .slice none 0 0, .slice none 0 0⟩) : RefsV)).toArray 53)) := by kernel_rfl
theorem wr37_isz53 : (Tryd.prog.info? 53).map (·.size) = some 36 := by kernel_rfl
theorem wr37_ty53 : ∃ fs, Tryd.prog.underlying 53 = some (.struct fs) := struct_of (by kernel_rfl)
theorem wr37_pl39 : Plain Tryd.prog 39 := fun _ _ => by kernel_rfl
theorem wr37_al25 {d : Option Tmp} {ty : TypeId} {pos : String} {af : Array Edge} {gd : Option (Nat × Bool)} (σ : Operand → Value) (w : World) : (execOp σ ⟨d, .alloc 25, ty, pos, af, gd⟩).run Tryd.prog w = .ok (.value (PQ w.heap.size 0)) (w.alloc (.cells (Lib.byteCells (List.replicate 32 0)).toArray 25)) := by kernel_rfl
theorem wr37_bs67_0_1_2h (z0 : Int) (z1 : ByteArray) (c2_0 c2_1 c2_2 c2_3 c2_4 c2_5 c2_6 c2_7 c2_8 c2_9 c2_10 c2_11 c2_12 c2_13 c2_14 c2_15 c2_16 c2_17 c2_18 c2_19 c2_20 c2_21 c2_22 c2_23 c2_24 c2_25 c2_26 c2_27 c2_28 c2_29 c2_30 c2_31 : Value) (w : World) : (Instr.build 67 #[(0, .int .u8 z0), (1, .string z1), (2, .agg #[c2_0, c2_1, c2_2, c2_3, c2_4, c2_5, c2_6, c2_7, c2_8, c2_9, c2_10, c2_11, c2_12, c2_13, c2_14, c2_15, c2_16, c2_17, c2_18, c2_19, c2_20, c2_21, c2_22, c2_23, c2_24, c2_25, c2_26, c2_27, c2_28, c2_29, c2_30, c2_31])]).run Tryd.prog w = .ok (.agg #[.int .u8 z0, .string z1, c2_0, c2_1, c2_2, c2_3, c2_4, c2_5, c2_6, c2_7, c2_8, c2_9, c2_10, c2_11, c2_12, c2_13, c2_14, c2_15, c2_16, c2_17, c2_18, c2_19, c2_20, c2_21, c2_22, c2_23, c2_24, c2_25, c2_26, c2_27, c2_28, c2_29, c2_30, c2_31, .int .u8 0, .int .u8 0, .int .u8 0, .int .u8 0, .int .u8 0, .int .u8 0, .int .u8 0, .int .u8 0, .int .u8 0, .int .u8 0, .int .u8 0, .int .u8 0, .int .u8 0, .int .u8 0, .int .u8 0, .int .u8 0, .int .u8 0, .int .u8 0, .int .u8 0, .int .u8 0, .int .u8 0, .int .u8 0, .int .u8 0, .int .u8 0, .int .u8 0, .int .u8 0, .int .u8 0, .int .u8 0, .int .u8 0, .int .u8 0, .int .u8 0, .int .u8 0]) w := by kernel_rfl
theorem wr37_bs67_0_1_2 (z0 : UInt8) (z1 : List UInt8) (z2 : Id32) (w : World) : (Instr.build 67 #[(0, B8 z0), (1, St z1), (2, AB z2.1)]).run Tryd.prog w = .ok (.agg (B8 (z0) :: (St (z1) :: (Lib.byteCells z2.1 ++ (Lib.byteCells zid.1)))).toArray) w := by
 obtain ⟨z2, k2⟩ := z2
 obtain ⟨a2_0, a2_1, a2_2, a2_3, a2_4, a2_5, a2_6, a2_7, a2_8, a2_9, a2_10, a2_11, a2_12, a2_13, a2_14, a2_15, a2_16, a2_17, a2_18, a2_19, a2_20, a2_21, a2_22, a2_23, a2_24, a2_25, a2_26, a2_27, a2_28, a2_29, a2_30, a2_31, rfl⟩ := list32 k2
 exact wr37_bs67_0_1_2h _ _ _ _ _ _ _ _ _ _ _ _ _ _ _ _ _ _ _ _ _ _ _ _ _ _ _ _ _ _ _ _ _ _ w
theorem wr37_ty25 : Tryd.prog.underlying 25 = some (.array 32 5) := by kernel_rfl
theorem wr37_eg25 : Tryd.prog.eqGuardType Tryd.prog.depth 25 = false := by kernel_rfl
theorem wr37_ty5 : Tryd.prog.underlying 5 = some (.int .u8) := by kernel_rfl
theorem wr37_sz5 : ∀ w' : World, (sizeOf 5).run Tryd.prog w' = .ok 1 w' := fun _ => by kernel_rfl
theorem wr37_fo53_4 : FieldOff Tryd.prog 53 4 35 := fun b o w => by simp [go_sem]
theorem wr37_ty47 : Tryd.prog.underlying 47 = some (.slice 122) := by kernel_rfl
set_option maxHeartbeats 1600000
theorem awake20 (w : World) :
  Calls Tryd.prog 35 #[] w fun e w' => e = .returned (.bool true) ∧ Ext w w' := by
 refine calls_of_wpF (args := []) Tryd.func35 rfl 64 rfl (Nat.le_of_ble_eq_true rfl) ?_
 intro ρ0 hb
 clear hb
 have hE := Ext.refl w
 refine sk fun K1 hK1 => (wt (oA rfl (oZ (tN (hK1 _ _ (sk fun K2 hK2 => (wt (oS rfl (Yk.run (v := AB id1.1) (by kernel_rfl) (oS rfl (Yk.build3 (vr (B8 (1)) rfl) (vr (St (([109, 97, 105, 110] : List UInt8))) rfl) (vr (AB id1.1) rfl) (fun w => wr37_bs67_0_1_3 1 ([109, 97, 105, 110] : List UInt8) id1 w) (oS rfl (Yk.alloc (cs := (updC (⟨0, [], zid, zid⟩ : Upd)).toArray) wr37_al67 fun n3 w4 hn5 hb6 hx7 hs8 => ?_)))))))))))))
 have hE := hE.trans hx7
 have hb9 := hb6; clear hb6
 have hl10 : n3 < w4.heap.size := by omega
 refine oS rfl (Yk.storeAll (vr (PQ n3 0) rfl) (vr (.agg (updC (⟨1, ([109, 97, 105, 110] : List UInt8), zid, id1⟩ : Upd)).toArray) rfl) hb9 (by simp only [List.size_toArray, upd_len]) (st_isz (upd_len _) wr37_isz67) (upd_one (x := (⟨1, ([109, 97, 105, 110] : List UInt8), zid, id1⟩ : Upd))) fun w11 hb12 hg13 hs14 => ?_)
 have hE := row_fresh hE hg13 (Nat.le_trans (Nat.le_refl _) (by omega))
 clear hb9
 have hb9 : w11.heap[n3]? = some (.cells (updC (⟨1, ([109, 97, 105, 110] : List UInt8), zid, id1⟩ : Upd)).toArray 67 (0, 0)) := hb12; clear hb12
 have hl15 := bl hb9
 refine oZ (tN (hK2 _ _ (sk fun K16 hK16 => ?_)))
 have hA17 := Ext.refl w11
 have hea18 := hE
 have hz19 := hE.size
 have hlt20 : n3 < w11.heap.size := (bl hb9)
 refine wpF_draw_late 6 8 [Is (.agg (refsC beginV).toArray), Is (.agg (updC (⟨1, ([109, 97, 105, 110] : List UInt8), zid, id1⟩ : Upd)).toArray), fun x w' => RG 66 (updC) w' x ([(⟨1, ([109, 97, 105, 110] : List UInt8), zid, id1⟩ : Upd)]), fun x w' => ∃ v, x = .tuple #[.agg (refsC (r1, v)).toArray, NI 0] ∧ RefsOw 0 w' (r1, v), fun x w' => ∃ v, x = .tuple #[.agg (refsC (r1, v)).toArray, NI 0] ∧ RefsOw 0 w' (r1, v), fun x w' => ∃ v, x = .agg (refsC (r1, v)).toArray ∧ RefsOw 0 w' (r1, v), Is (NI 0), fun x w' => ∃ g, x = PQ g 0 ∧ w'.heap[g]? = some (.cells (refsC ((⟨[], [], [], zid, []⟩, ⟨.slice none 0 0, .slice none 0 0, .slice none 0 0⟩) : RefsV)).toArray 53 (0, 0)) ∧ w11.heap.size ≤ g] (by kernel_rfl) [13, 14, 15, 16, 12, 17, 18, 2, 3] (by kernel_rfl) rfl (by kernel_rfl) (by kernel_rfl) (by kernel_rfl) (by kernel_rfl) (by kernel_rfl) (by kernel_rfl) rfl rfl (si2 ⟨(fun _ _ _ h k => RG.keep h k), (fun _ _ _ ⟨v, h1, h2⟩ k => ⟨v, h1, h2.keep k⟩), (fun _ _ _ ⟨v, h1, h2⟩ k => ⟨v, h1, h2.keep k⟩), (fun _ _ _ ⟨v, h1, h2⟩ k => ⟨v, h1, h2.keep k⟩), Stab.is _, (fun _ _ _ ⟨g, h1, h2, h3⟩ k => ⟨g, h1, eb k h2, h3⟩), trivial⟩) (fun _ _ _ _ h => h) ?hs1002 ?hQ1002
 case hs1002 =>
  refine ⟨?_, ?_, ?_, ?_, ?_, ?_, ?_, ?_, ?_, ?_, trivial⟩
  ·refine stepFC (stepN rfl fun σ w1 hC h => (Yk.callA0 wr37_pl33  ((begin_any _).mono ?_)))
   rintro e w2 ⟨rfl, hx⟩
   exact ⟨_, rfl, hx, rfl⟩
  ·refine stepFC (stepN rfl fun σ w1 hC h => ?_)
   have e1 : σ 1 = PQ n3 0 := (eqo (h 1 (by decide))).trans rfl
   exact Yk.loadAll e1 (eb hC hb9) (wr37_ty67).choose_spec rfl (st_isz (upd_len (⟨1, ([109, 97, 105, 110] : List UInt8), zid, id1⟩ : Upd)) wr37_isz67) ⟨Ext.refl _, rfl⟩
  ·refine stepFC (stepN rfl fun σ w1 hC h => ?_)
   have e14 := eqo (h 14 (by decide))
   exact Yk.lit1G (a := (⟨1, ([109, 97, 105, 110] : List UInt8), zid, id1⟩ : Upd)) (enc := updC) e14 (upd_len _) wr37_lg22 fun v w2 h hx => ⟨hx, h⟩
  ·refine stepFC (stepN rfl fun σ w1 hC h => ?_)
   have e13 := eqo (h 13 (by decide))
   have e15 : (fun x w' => RG 66 (updC) w' x ([(⟨1, ([109, 97, 105, 110] : List UInt8), zid, id1⟩ : Upd)])) (σ 15) w1 := h 15 (by decide)
   refine Yk.callA3 wr37_pl26 e13 rfl (vr (St (([102, 105, 114, 115, 116] : List UInt8))) rfl) ((apply_to apply_1 (lv := σ 15) (z := beginV) ⟨RG.nil _ _ _, RG.nil _ _ _, RG.nil _ _ _⟩ begin_lt e15 (by decide) (by decide)).mono ?_)
   rintro e w2 ⟨v, rfl, hR, hx⟩
   exact ⟨_, rfl, hx, v, rfl, hR.zero⟩
  ·refine stepFC (stepN rfl fun σ w1 hC h => ?_)
   have e16 : (fun x w' => ∃ v, x = .tuple #[.agg (refsC (r1, v)).toArray, NI 0] ∧ RefsOw 0 w' (r1, v)) (σ 16) w1 := h 16 (by decide)
   exact Yk.move rfl ⟨Ext.refl _, e16⟩
  ·refine stepFC (stepN rfl fun σ w1 hC h => ?_)
   have e12 : (fun x w' => ∃ v, x = .tuple #[.agg (refsC (r1, v)).toArray, NI 0] ∧ RefsOw 0 w' (r1, v)) (σ 12) w1 := h 12 (by decide)
   obtain ⟨v0, h1_, h2_⟩ := e12
   exact Yk.extract (vs := [.agg (refsC (r1, v0)).toArray, NI 0]) h1_ (show _ = some (Value.agg (refsC (r1, v0)).toArray) from rfl) ⟨Ext.refl _, v0, rfl, h2_⟩
  ·refine stepFC (stepN rfl fun σ w1 hC h => ?_)
   have e12 : (fun x w' => ∃ v, x = .tuple #[.agg (refsC (r1, v)).toArray, NI 0] ∧ RefsOw 0 w' (r1, v)) (σ 12) w1 := h 12 (by decide)
   obtain ⟨v0, h1_, h2_⟩ := e12
   exact Yk.extract (vs := [.agg (refsC (r1, v0)).toArray, NI 0]) h1_ (show _ = some (NI 0 : Value) from rfl) ⟨Ext.refl _, rfl⟩
  ·refine stepFC (stepN rfl fun σ w1 hC h => ?_)
   exact Yk.alloc (cs := (refsC ((⟨[], [], [], zid, []⟩, ⟨.slice none 0 0, .slice none 0 0, .slice none 0 0⟩) : RefsV)).toArray) wr37_al53 fun g w2 hn hb hx hs => ⟨hx, g, rfl, hb, Nat.le_trans (show Ext w11 w1 from hC).size (Nat.le_of_eq hn)⟩
  ·exact trivial
  ·exact trivial
 intro ρ21 w22 hx23 he hf
 obtain ⟨-, -, -, -, -, k17, k18, k2, -⟩ := hf
 obtain ⟨T0, T1, -⟩ := he.hold [(0, .bool (false)), (1, PQ n3 0)] ⟨rfl, rfl, trivial⟩ rfl
 clear he
 have hE := hE.trans hx23
 have hb9 := eb hx23 hb9
 have hA17 := hA17.trans hx23
 have k17 : (fun x w' => ∃ v, x = .agg (refsC (r1, v)).toArray ∧ RefsOw 0 w' (r1, v)) (ρ21 17) w22 := k17
 obtain ⟨v24, T17⟩ : ∃ v, ρ21 17 = v := ⟨_, rfl⟩
 rw [T17] at k17
 have hk25 := k17; clear k17
 obtain ⟨v26, hq_, hR27⟩ := hk25
 rw [hq_] at T17; clear hq_
 have ho28 : OG 0 70 33 nmdC w22 v26.branches r1.branches := OG.low hR27.br (Nat.zero_le _)
 have hap29 := OG.off ho28 hb9 (by decide)
 have ho30 : OG 0 70 33 nmdC w22 v26.tags r1.tags := OG.low hR27.tg (Nat.zero_le _)
 have hap31 := OG.off ho30 hb9 (by decide)
 have ho32 : OG 0 122 67 entC w22 v26.log r1.log := OG.low hR27.lg (Nat.zero_le _)
 have hap33 := OG.off ho32 hb9 (by decide)
 have T18 : ρ21 18 = NI 0 := k18
 have k2 : (fun x w' => ∃ g, x = PQ g 0 ∧ w'.heap[g]? = some (.cells (refsC ((⟨[], [], [], zid, []⟩, ⟨.slice none 0 0, .slice none 0 0, .slice none 0 0⟩) : RefsV)).toArray 53 (0, 0)) ∧ w11.heap.size ≤ g) (ρ21 2) w22 := k2
 obtain ⟨v34, T2⟩ : ∃ v, ρ21 2 = v := ⟨_, rfl⟩
 rw [T2] at k2
 have hk35 := k2; clear k2
 obtain ⟨n36, rfl, hb37, hn38⟩ := hk35
 have hl39 := bl hb37
 clear k18
 have hap40 := OG.off ho28 hb37 (by decide)
 have hap41 := OG.off ho30 hb37 (by decide)
 have hap42 := OG.off ho32 hb37 (by decide)
 refine oS rfl (Yk.storeAll T2 T17 hb37 (by simp only [List.size_toArray, refs_len]) (st_isz (refs_len _) wr37_isz53) (refs_one (x := (r1, v26)) (RG.one (RG.ofOwn ho28)).2 (RG.one (RG.ofOwn ho30)).2 (RG.one (RG.ofOwn ho32)).2) fun w43 hb44 hg45 hs46 => ?_)
 have hE := row_fresh hE hg45 (Nat.le_trans hz19 (by omega))
 have hb9 := kb hg45 hb9 (by omega)
 have hA17 := row_fresh hA17 hg45 (Nat.le_trans (Nat.le_refl _) (by omega))
 have ho28 := OG.kept ho28 hg45 hap40
 have ho30 := OG.kept ho30 hg45 hap41
 have ho32 := OG.kept ho32 hg45 hap42
 clear hb37
 have hb37 : w43.heap[n36]? = some (.cells (refsC (r1, v26)).toArray 53 (0, 0)) := hb44; clear hb44
 have hl47 := bl hb37
 refine oA rfl (oZ (tN (hK16 _ _ (sk fun K48 hK48 => (wt (oS rfl (Yk.loadAll T2 hb37 (wr37_ty53).choose_spec rfl (st_isz (refs_len (r1, v26)) wr37_isz53) (oS rfl (Yk.callA2 wr37_pl39 (vr (.agg (refsC (r1, v26)).toArray) rfl) (vr (St (([] : List UInt8))) rfl) ((look_to look_1 ⟨RG.ofOwn ho28, RG.ofOwn ho30, RG.ofOwn ho32⟩ r1_lt).mono ?_))))))))))
 rintro e w50 ⟨rfl, hx49⟩
 refine ⟨_, rfl, ?_⟩
 have hE := hE.trans hx49
 have hb9 := eb hx49 hb9
 have hA17 := hA17.trans hx49
 have ho28 := ho28.keep hx49
 have ho30 := ho30.keep hx49
 have ho32 := ho32.keep hx49
 have hb37 := eb hx49 hb37
 refine oM rfl (oS rfl (Yk.extract (vs := [AB id1.1, NI 0]) (vr (.tuple #[AB id1.1, NI 0]) rfl) (show _ = some (AB id1.1 : Value) from rfl) (oS rfl (Yk.extract (vs := [AB id1.1, NI 0]) (vr (.tuple #[AB id1.1, NI 0]) rfl) (show _ = some (NI 0 : Value) from rfl) (oS rfl (Yk.alloc (cs := (Lib.byteCells (List.replicate 32 0)).toArray) wr37_al25 fun n51 w52 hn53 hb54 hx55 hs56 => ?_))))))
 have hA57 := Ext.refl w50
 have hea58 := hE
 have hea59 := hA17
 have hz60 := hE.size
 have hz61 := hA17.size
 have hlt62 := lte (bl hb9) hn53
 have hlt63 := lte (bl hb37) hn53
 have hap64 : OB v26.branches n51 := own_newer ho28.2 (by omega)
 have hap65 : OB v26.tags n51 := own_newer ho30.2 (by omega)
 have hap66 : OB v26.log n51 := own_newer ho32.2 (by omega)
 have hE := hE.trans hx55
 have hb9 := eb hx55 hb9
 have hA17 := hA17.trans hx55
 have ho28 := ho28.keep hx55
 have ho30 := ho30.keep hx55
 have ho32 := ho32.keep hx55
 have hb37 := eb hx55 hb37
 have hA57 := hA57.trans hx55
 have hb67 := hb54; clear hb54
 have hl68 : n51 < w52.heap.size := by omega
 refine oS rfl (Yk.storeAll (vr (PQ n51 0) rfl) (vr (AB id1.1) rfl) hb67 (by exact idsize id1.2 List.length_replicate) (by exact sizeId_of id1.2) (byteCells_one _) fun w69 hb70 hg71 hs72 => ?_)
 have hE := row_fresh hE hg71 (Nat.le_trans hz60 (by omega))
 have hb9 := kb hg71 hb9 (by omega)
 have hA17 := row_fresh hA17 hg71 (Nat.le_trans hz61 (by omega))
 have ho28 := OG.kept ho28 hg71 hap64
 have ho30 := OG.kept ho30 hg71 hap65
 have ho32 := OG.kept ho32 hg71 hap66
 have hb37 := kb hg71 hb37 (by omega)
 have hA57 := row_fresh hA57 hg71 (Nat.le_trans (Nat.le_refl _) (by omega))
 clear hb67
 have hb67 := hb70; clear hb70
 have hl73 := bl hb67
 refine oA rfl (oZ (tN (hK48 _ _ (sk fun K74 hK74 => (wt (oS rfl (Yk.loadAll T2 hb37 (wr37_ty53).choose_spec rfl (st_isz (refs_len (r1, v26)) wr37_isz53) (oS rfl (Yk.loadAll T1 hb9 (wr37_ty67).choose_spec rfl (st_isz (upd_len (⟨1, ([109, 97, 105, 110] : List UInt8), zid, id1⟩ : Upd)) wr37_isz67) (oS rfl (Yk.lit1G (a := (⟨1, ([109, 97, 105, 110] : List UInt8), zid, id1⟩ : Upd)) (enc := updC) (vr (.agg (updC (⟨1, ([109, 97, 105, 110] : List UInt8), zid, id1⟩ : Upd)).toArray) rfl) (upd_len _) wr37_lg22 fun v75 w76 hr77 hx78 => ?_)))))))))))
 have hE := hE.trans hx78
 have hb9 := eb hx78 hb9
 have hA17 := hA17.trans hx78
 have ho28 := ho28.keep hx78
 have ho30 := ho30.keep hx78
 have ho32 := ho32.keep hx78
 have hb37 := eb hx78 hb37
 have hA57 := hA57.trans hx78
 have hb67 := eb hx78 hb67
 refine oS rfl (Yk.callA3 wr37_pl26 (vr (.agg (refsC (r1, v26)).toArray) rfl) (vr v75 rfl) (vr (St (([97, 103, 97, 105, 110] : List UInt8))) rfl) ((apply_to apply_2 ⟨RG.ofOwn ho28, RG.ofOwn ho30, RG.ofOwn ho32⟩ r1_lt hr77 (by decide) (by decide)).mono ?_))
 rintro e w82 ⟨v79, rfl, hR80, hx81⟩
 refine ⟨_, rfl, ?_⟩
 have hE := hE.trans hx81
 have hb9 := eb hx81 hb9
 have hA17 := hA17.trans hx81
 have ho28 := ho28.keep hx81
 have ho30 := ho30.keep hx81
 have ho32 := ho32.keep hx81
 have hb37 := eb hx81 hb37
 have hA57 := hA57.trans hx81
 have hb67 := eb hx81 hb67
 have hr77 := hr77.keep hx81
 have ho83 : OG 0 70 33 nmdC w82 v79.branches zeroR.branches := OG.low hR80.br (Nat.zero_le _)
 have hap84 := OG.off ho83 hb9 (by decide)
 have hap85 := OG.off ho83 hb37 (by decide)
 have hap86 := OG.off ho83 hb67 (by decide)
 have ho87 : OG 0 70 33 nmdC w82 v79.tags zeroR.tags := OG.low hR80.tg (Nat.zero_le _)
 have hap88 := OG.off ho87 hb9 (by decide)
 have hap89 := OG.off ho87 hb37 (by decide)
 have hap90 := OG.off ho87 hb67 (by decide)
 have ho91 : OG 0 122 67 entC w82 v79.log zeroR.log := OG.low hR80.lg (Nat.zero_le _)
 have hap92 := OG.off ho91 hb9 (by decide)
 have hap93 := OG.off ho91 hb37 (by decide)
 have hap94 := OG.off ho91 hb67 (by decide)
 refine oM rfl (oS rfl (Yk.extract (vs := [.agg (refsC (zeroR, v79)).toArray, NI 15]) (vr (.tuple #[.agg (refsC (zeroR, v79)).toArray, NI 15]) rfl) (show _ = some (.agg (refsC (zeroR, v79)).toArray : Value) from rfl) (oS rfl (Yk.extract (vs := [.agg (refsC (zeroR, v79)).toArray, NI 15]) (vr (.tuple #[.agg (refsC (zeroR, v79)).toArray, NI 15]) rfl) (show _ = some (NI 15 : Value) from rfl) (oS rfl (Yk.alloc (cs := (refsC ((⟨[], [], [], zid, []⟩, ⟨.slice none 0 0, .slice none 0 0, .slice none 0 0⟩) : RefsV)).toArray) wr37_al53 fun n95 w96 hn97 hb98 hx99 hs100 => ?_))))))
 have hA101 := Ext.refl w82
 have hea102 := hE
 have hea103 := hA17
 have hea104 := hA57
 have hz105 := hE.size
 have hz106 := hA17.size
 have hz107 := hA57.size
 have hlt108 := lte (bl hb9) hn97
 have hlt109 := lte (bl hb37) hn97
 have hlt110 := lte (bl hb67) hn97
 have hap111 : OB v26.branches n95 := own_newer ho28.2 (by omega)
 have hap112 : OB v26.tags n95 := own_newer ho30.2 (by omega)
 have hap113 : OB v26.log n95 := own_newer ho32.2 (by omega)
 have hap114 : OB v79.branches n95 := own_newer ho83.2 (by omega)
 have hap115 : OB v79.tags n95 := own_newer ho87.2 (by omega)
 have hap116 : OB v79.log n95 := own_newer ho91.2 (by omega)
 have hE := hE.trans hx99
 have hb9 := eb hx99 hb9
 have hA17 := hA17.trans hx99
 have ho28 := ho28.keep hx99
 have ho30 := ho30.keep hx99
 have ho32 := ho32.keep hx99
 have hb37 := eb hx99 hb37
 have hA57 := hA57.trans hx99
 have hb67 := eb hx99 hb67
 have ho83 := ho83.keep hx99
 have ho87 := ho87.keep hx99
 have ho91 := ho91.keep hx99
 have hA101 := hA101.trans hx99
 have hb117 := hb98; clear hb98
 have hl118 : n95 < w96.heap.size := by omega
 refine oS rfl (Yk.storeAll (vr (PQ n95 0) rfl) (vr (.agg (refsC (zeroR, v79)).toArray) rfl) hb117 (by simp only [List.size_toArray, refs_len]) (st_isz (refs_len _) wr37_isz53) (refs_one (x := (zeroR, v79)) (RG.one (RG.ofOwn ho83)).2 (RG.one (RG.ofOwn ho87)).2 (RG.one (RG.ofOwn ho91)).2) fun w119 hb120 hg121 hs122 => ?_)
 have hE := row_fresh hE hg121 (Nat.le_trans hz105 (by omega))
 have hb9 := kb hg121 hb9 (by omega)
 have hA17 := row_fresh hA17 hg121 (Nat.le_trans hz106 (by omega))
 have ho28 := OG.kept ho28 hg121 hap111
 have ho30 := OG.kept ho30 hg121 hap112
 have ho32 := OG.kept ho32 hg121 hap113
 have hb37 := kb hg121 hb37 (by omega)
 have hA57 := row_fresh hA57 hg121 (Nat.le_trans hz107 (by omega))
 have hb67 := kb hg121 hb67 (by omega)
 have ho83 := OG.kept ho83 hg121 hap114
 have ho87 := OG.kept ho87 hg121 hap115
 have ho91 := OG.kept ho91 hg121 hap116
 have hA101 := row_fresh hA101 hg121 (Nat.le_trans (Nat.le_refl _) (by omega))
 clear hb117
 have hb117 : w119.heap[n95]? = some (.cells (refsC (zeroR, v79)).toArray 53 (0, 0)) := hb120; clear hb120
 have hl123 := bl hb117
 refine oA rfl (oZ (tN (hK74 _ _ (sk fun K124 hK124 => (wt (oS rfl (Yk.loadAll T2 hb37 (wr37_ty53).choose_spec rfl (st_isz (refs_len (r1, v26)) wr37_isz53) (oS rfl (Yk.run (v := AB id1.1) (by kernel_rfl) (oS rfl (Yk.build3 (vr (B8 (1)) rfl) (vr (St (([109, 97, 105, 110] : List UInt8))) rfl) (vr (AB id1.1) rfl) (fun w => wr37_bs67_0_1_2 1 ([109, 97, 105, 110] : List UInt8) id1 w) (oS rfl (Yk.lit1G (a := (⟨1, ([109, 97, 105, 110] : List UInt8), id1, zid⟩ : Upd)) (enc := updC) (vr (.agg (updC (⟨1, ([109, 97, 105, 110] : List UInt8), id1, zid⟩ : Upd)).toArray) rfl) (upd_len _) wr37_lg22 fun v125 w126 hr127 hx128 => ?_)))))))))))))
 have hE := hE.trans hx128
 have hb9 := eb hx128 hb9
 have hA17 := hA17.trans hx128
 have ho28 := ho28.keep hx128
 have ho30 := ho30.keep hx128
 have ho32 := ho32.keep hx128
 have hb37 := eb hx128 hb37
 have hA57 := hA57.trans hx128
 have hb67 := eb hx128 hb67
 have ho83 := ho83.keep hx128
 have ho87 := ho87.keep hx128
 have ho91 := ho91.keep hx128
 have hA101 := hA101.trans hx128
 have hb117 := eb hx128 hb117
 refine oS rfl (Yk.callA3 wr37_pl26 (vr (.agg (refsC (r1, v26)).toArray) rfl) (vr v125 rfl) (vr (St (([] : List UInt8))) rfl) ((apply_to apply_3 ⟨RG.ofOwn ho28, RG.ofOwn ho30, RG.ofOwn ho32⟩ r1_lt hr127 (by decide) (by decide)).mono ?_))
 rintro e w132 ⟨v129, rfl, hR130, hx131⟩
 refine ⟨_, rfl, ?_⟩
 have hE := hE.trans hx131
 have hb9 := eb hx131 hb9
 have hA17 := hA17.trans hx131
 have ho28 := ho28.keep hx131
 have ho30 := ho30.keep hx131
 have ho32 := ho32.keep hx131
 have hb37 := eb hx131 hb37
 have hA57 := hA57.trans hx131
 have hb67 := eb hx131 hb67
 have ho83 := ho83.keep hx131
 have ho87 := ho87.keep hx131
 have ho91 := ho91.keep hx131
 have hA101 := hA101.trans hx131
 have hb117 := eb hx131 hb117
 have hr127 := hr127.keep hx131
 have ho133 : OG 0 70 33 nmdC w132 v129.branches zeroR.branches := OG.low hR130.br (Nat.zero_le _)
 have hap134 := OG.off ho133 hb9 (by decide)
 have hap135 := OG.off ho133 hb37 (by decide)
 have hap136 := OG.off ho133 hb67 (by decide)
 have hap137 := OG.off ho133 hb117 (by decide)
 have ho138 : OG 0 70 33 nmdC w132 v129.tags zeroR.tags := OG.low hR130.tg (Nat.zero_le _)
 have hap139 := OG.off ho138 hb9 (by decide)
 have hap140 := OG.off ho138 hb37 (by decide)
 have hap141 := OG.off ho138 hb67 (by decide)
 have hap142 := OG.off ho138 hb117 (by decide)
 have ho143 : OG 0 122 67 entC w132 v129.log zeroR.log := OG.low hR130.lg (Nat.zero_le _)
 have hap144 := OG.off ho143 hb9 (by decide)
 have hap145 := OG.off ho143 hb37 (by decide)
 have hap146 := OG.off ho143 hb67 (by decide)
 have hap147 := OG.off ho143 hb117 (by decide)
 refine oM rfl (oS rfl (Yk.extract (vs := [.agg (refsC (zeroR, v129)).toArray, NI 16]) (vr (.tuple #[.agg (refsC (zeroR, v129)).toArray, NI 16]) rfl) (show _ = some (.agg (refsC (zeroR, v129)).toArray : Value) from rfl) (oS rfl (Yk.extract (vs := [.agg (refsC (zeroR, v129)).toArray, NI 16]) (vr (.tuple #[.agg (refsC (zeroR, v129)).toArray, NI 16]) rfl) (show _ = some (NI 16 : Value) from rfl) (oS rfl (Yk.alloc (cs := (refsC ((⟨[], [], [], zid, []⟩, ⟨.slice none 0 0, .slice none 0 0, .slice none 0 0⟩) : RefsV)).toArray) wr37_al53 fun n148 w149 hn150 hb151 hx152 hs153 => ?_))))))
 have hA154 := Ext.refl w132
 have hea155 := hE
 have hea156 := hA17
 have hea157 := hA57
 have hea158 := hA101
 have hz159 := hE.size
 have hz160 := hA17.size
 have hz161 := hA57.size
 have hz162 := hA101.size
 have hlt163 := lte (bl hb9) hn150
 have hlt164 := lte (bl hb37) hn150
 have hlt165 := lte (bl hb67) hn150
 have hlt166 := lte (bl hb117) hn150
 have hap167 : OB v26.branches n148 := own_newer ho28.2 (by omega)
 have hap168 : OB v26.tags n148 := own_newer ho30.2 (by omega)
 have hap169 : OB v26.log n148 := own_newer ho32.2 (by omega)
 have hap170 : OB v79.branches n148 := own_newer ho83.2 (by omega)
 have hap171 : OB v79.tags n148 := own_newer ho87.2 (by omega)
 have hap172 : OB v79.log n148 := own_newer ho91.2 (by omega)
 have hap173 : OB v129.branches n148 := own_newer ho133.2 (by omega)
 have hap174 : OB v129.tags n148 := own_newer ho138.2 (by omega)
 have hap175 : OB v129.log n148 := own_newer ho143.2 (by omega)
 have hE := hE.trans hx152
 have hb9 := eb hx152 hb9
 have hA17 := hA17.trans hx152
 have ho28 := ho28.keep hx152
 have ho30 := ho30.keep hx152
 have ho32 := ho32.keep hx152
 have hb37 := eb hx152 hb37
 have hA57 := hA57.trans hx152
 have hb67 := eb hx152 hb67
 have ho83 := ho83.keep hx152
 have ho87 := ho87.keep hx152
 have ho91 := ho91.keep hx152
 have hA101 := hA101.trans hx152
 have hb117 := eb hx152 hb117
 have ho133 := ho133.keep hx152
 have ho138 := ho138.keep hx152
 have ho143 := ho143.keep hx152
 have hA154 := hA154.trans hx152
 have hb176 := hb151; clear hb151
 have hl177 : n148 < w149.heap.size := by omega
 refine oS rfl (Yk.storeAll (vr (PQ n148 0) rfl) (vr (.agg (refsC (zeroR, v129)).toArray) rfl) hb176 (by simp only [List.size_toArray, refs_len]) (st_isz (refs_len _) wr37_isz53) (refs_one (x := (zeroR, v129)) (RG.one (RG.ofOwn ho133)).2 (RG.one (RG.ofOwn ho138)).2 (RG.one (RG.ofOwn ho143)).2) fun w178 hb179 hg180 hs181 => ?_)
 have hE := row_fresh hE hg180 (Nat.le_trans hz159 (by omega))
 have hb9 := kb hg180 hb9 (by omega)
 have hA17 := row_fresh hA17 hg180 (Nat.le_trans hz160 (by omega))
 have ho28 := OG.kept ho28 hg180 hap167
 have ho30 := OG.kept ho30 hg180 hap168
 have ho32 := OG.kept ho32 hg180 hap169
 have hb37 := kb hg180 hb37 (by omega)
 have hA57 := row_fresh hA57 hg180 (Nat.le_trans hz161 (by omega))
 have hb67 := kb hg180 hb67 (by omega)
 have ho83 := OG.kept ho83 hg180 hap170
 have ho87 := OG.kept ho87 hg180 hap171
 have ho91 := OG.kept ho91 hg180 hap172
 have hA101 := row_fresh hA101 hg180 (Nat.le_trans hz162 (by omega))
 have hb117 := kb hg180 hb117 (by omega)
 have ho133 := OG.kept ho133 hg180 hap173
 have ho138 := OG.kept ho138 hg180 hap174
 have ho143 := OG.kept ho143 hg180 hap175
 have hA154 := row_fresh hA154 hg180 (Nat.le_trans (Nat.le_refl _) (by omega))
 clear hb176
 have hb176 : w178.heap[n148]? = some (.cells (refsC (zeroR, v129)).toArray 53 (0, 0)) := hb179; clear hb179
 have hl182 := bl hb176
 refine oA rfl (oZ (tN (hK124 _ _ (sk fun K183 hK183 => (wt (oM rfl (oS rfl (Yk.eqI (a := (0 : Nat)) (b := (0 : Nat)) T18 rfl (k_eql _ _ _ _) (oM rfl (opsF_mayV (NI 0) rfl rfl (gT (vr (.bool (decide ((0 : Nat) = (0)))) rfl)) (fun hG184 => Yk.move (vr (NI 0) rfl) ⟨rfl, rfl⟩) (opsF_mayV (.bool (decide ((0 : Nat) = (0)))) rfl rfl (gT (vr (.bool (decide ((0 : Nat) = (0)))) rfl)) (fun hG185 => Yk.eqI (a := ((0 : Nat) : Int)) (b := ((0 : Nat) : Int)) (mayT (vr (cond ((decide ((0 : Nat) = (0)))) (NI 0) undef) rfl) hG185) (vr (NI 0) rfl) (k_eql _ .i64 (0) (0)) ⟨rfl, rfl⟩) (oS rfl (Yk.pickAndN (vr (.bool (decide ((0 : Nat) = (0)))) rfl) (fun hA => (mayT (vr (cond ((decide ((0 : Nat) = (0)))) (.bool (decide ((0 : Nat) = (0)))) undef) rfl) hA)) (vr (.bool (false)) rfl) fun bb186 hbb187 => (oM rfl (opsF_mayV (AB id1.1) rfl rfl (gT (vr (.bool (bb186)) rfl)) (fun hG188 => Yk.loadAll (vr (PQ n51 0) rfl) hb67 wr37_ty25 rfl (by exact sizeId_of id1.2) ⟨rfl, rfl⟩) (opsF_mayV (AB id1.1) rfl rfl (gT (vr (.bool (bb186)) rfl)) (fun hG189 => Yk.run (v := AB id1.1) (by kernel_rfl) ⟨rfl, rfl⟩) (opsF_mayV (.bool (decide (id1.1 = id1.1))) rfl rfl (gT (vr (.bool (bb186)) rfl)) (fun hG190 => Yk.eqArr (l1 := id1.1) (l2 := id1.1) wr37_ty25 wr37_ty5 wr37_sz5 wr37_eg25 (mayT (vr (cond (bb186) (AB id1.1) undef) rfl) hG190) (mayT (vr (cond (bb186) (AB id1.1) undef) rfl) hG190) (id1.2) (id1.2) ⟨rfl, rfl⟩) (oS rfl (Yk.pickAndN (vr (.bool (bb186)) rfl) (fun hA => (mayT (vr (cond (bb186) (.bool (decide (id1.1 = id1.1))) undef) rfl) hA)) (vr (.bool (false)) rfl) fun bb191 hbb192 => ?_)))))))))))))))))))
 refine oM rfl (opsF_mayV (NI 15) rfl rfl (gT (vr (.bool (bb191)) rfl)) (fun hG193 => Yk.move (vr (NI 15) rfl) ⟨rfl, rfl⟩) (opsF_mayV (.bool (decide ((15 : Nat) = (15)))) rfl rfl (gT (vr (.bool (bb191)) rfl)) (fun hG194 => Yk.eqI (a := ((15 : Nat) : Int)) (b := ((15 : Nat) : Int)) (mayT (vr (cond (bb191) (NI 15) undef) rfl) hG194) (vr (NI 15) rfl) (k_eql _ .i64 (15) (15)) ⟨rfl, rfl⟩) (oS rfl (Yk.pickAndN (vr (.bool (bb191)) rfl) (fun hA => (mayT (vr (cond (bb191) (.bool (decide ((15 : Nat) = (15)))) undef) rfl) hA)) (vr (.bool (false)) rfl) fun bb195 hbb196 => (oM rfl (opsF_mayV (NI 16) rfl rfl (gT (vr (.bool (bb195)) rfl)) (fun hG197 => Yk.move (vr (NI 16) rfl) ⟨rfl, rfl⟩) (opsF_mayV (.bool (decide ((16 : Nat) = (16)))) rfl rfl (gT (vr (.bool (bb195)) rfl)) (fun hG198 => Yk.eqI (a := ((16 : Nat) : Int)) (b := ((16 : Nat) : Int)) (mayT (vr (cond (bb195) (NI 16) undef) rfl) hG198) (vr (NI 16) rfl) (k_eql _ .i64 (16) (16)) ⟨rfl, rfl⟩) (oS rfl (Yk.pickAndN (vr (.bool (bb195)) rfl) (fun hA => (mayT (vr (cond (bb195) (.bool (decide ((16 : Nat) = (16)))) undef) rfl) hA)) (vr (.bool (false)) rfl) fun bb199 hbb200 => (oM rfl (opsF_mayV (PQ n36 35) rfl rfl (gT (vr (.bool (bb199)) rfl)) (fun hG201 => Yk.fieldAt wr37_fo53_4 T2 ⟨rfl, rfl⟩) (opsF_mayV (((r1, v26)).2.log) rfl rfl (gT (vr (.bool (bb199)) rfl)) (fun hG202 => Yk.cell1 wr37_ty47 rfl (mayT (vr (cond (bb199) (PQ n36 35) undef) rfl) hG202) (cellAt hb37 (show (refsC (r1, v26))[35]? = some (((r1, v26)).2.log : Value) from refs_g4 (r1, v26))) ⟨rfl, rfl⟩) (opsF_mayV (NI ((r1.log).length)) rfl rfl (gT (vr (.bool (bb199)) rfl)) (fun hG203 => Yk.lenRG wr37_ty47 (RG.of (RG.ofOwn ho32) (mayT (vr (cond (bb199) (((r1, v26)).2.log) undef) rfl) hG203)) ⟨rfl, rfl⟩) (opsF_mayV (.bool (decide (((r1.log).length : Nat) = (1)))) rfl rfl (gT (vr (.bool (bb199)) rfl)) (fun hG204 => Yk.eqI (a := (((r1.log).length : Nat) : Int)) (b := ((1 : Nat) : Int)) (mayT (vr (cond (bb199) (NI ((r1.log).length)) undef) rfl) hG204) (vr (NI 1) rfl) (k_eql _ .i64 ((r1.log).length) (1)) ⟨rfl, rfl⟩) (oS rfl (Yk.pickAndN (vr (.bool (bb199)) rfl) (fun hA => (mayT (vr (cond (bb199) (.bool (decide (((r1.log).length : Nat) = (1)))) undef) rfl) hA)) (vr (.bool (false)) rfl) fun bb205 hbb206 => (oA rfl (oL_ [(0, .bool (bb205)), (1, PQ n3 0), (2, PQ n36 0), (3, NI 0), (4, PQ n51 0), (5, NI 0), (7, NI 15), (9, NI 16)] ⟨rfl, T1, T2, T18, rfl, rfl, rfl, rfl, trivial⟩ fun ρ207 ⟨T0, T1, T2, T3, T4, T5, T7, T9, _⟩ => ?_))))))))))))))))))
 refine tN (hK183 _ _ (wpF_ret (postF_ret (fn := Tryd.f35) _ rfl [.bool (bb205)] (.bool (bb205)) rfl ⟨T0, trivial⟩ ?_)))
 subst hbb187 hbb192 hbb196 hbb200 hbb206
 exact ⟨by first | rfl | decide | simp, hE⟩
open Go.RowKit
set_option maxRecDepth 100000
theorem wr28_al53 {d : Option Tmp} {ty : TypeId} {pos : String} {af : Array Edge} {gd : Option (Nat × Bool)} (σ : Operand → Value) (w : World) : (execOp σ ⟨d, .alloc 53, ty, pos, af, gd⟩).run Tryd.prog w = .ok (.value (PQ w.heap.size 0)) (w.alloc (.cells (refsC ((⟨[], [], [], zid, []⟩, ⟨.slice none 0 0, .slice none 0 0, .slice none 0 0⟩) : RefsV)).toArray 53)) := by kernel_rfl
theorem wr28_fo49_0 : FieldOff Tryd.prog 49 0 0 := fun b o w => by simp [go_sem]
theorem wr28_ty46 : Tryd.prog.underlying 46 = some (.slice 69) := by kernel_rfl
theorem wr28_fo53_0 : FieldOff Tryd.prog 53 0 0 := fun b o w => by simp [go_sem]
theorem wr28_ty51 : Tryd.prog.underlying 51 = some (.slice 70) := by kernel_rfl
theorem wr28_szg69 : ∀ w' : World, (sizeOf 69).run Tryd.prog w' = .ok 33 w' := fun _ => by kernel_rfl
theorem wr28_fo69_0 : FieldOff Tryd.prog 69 0 0 := fun b o w => by simp [go_sem]
theorem wr28_ty9 : Tryd.prog.underlying 9 = some (.string) := by kernel_rfl
theorem wr28_fo69_1 : FieldOff Tryd.prog 69 1 1 := fun b o w => by simp [go_sem]
theorem wr28_ty25 : Tryd.prog.underlying 25 = some (.array 32 5) := by kernel_rfl
theorem wr28_isz25 : (Tryd.prog.info? 25).map (·.size) = some 32 := by kernel_rfl
theorem wr28_bs70_0_1h (z0 : ByteArray) (c1_0 c1_1 c1_2 c1_3 c1_4 c1_5 c1_6 c1_7 c1_8 c1_9 c1_10 c1_11 c1_12 c1_13 c1_14 c1_15 c1_16 c1_17 c1_18 c1_19 c1_20 c1_21 c1_22 c1_23 c1_24 c1_25 c1_26 c1_27 c1_28 c1_29 c1_30 c1_31 : Value) (w : World) : (Instr.build 70 #[(0, .string z0), (1, .agg #[c1_0, c1_1, c1_2, c1_3, c1_4, c1_5, c1_6, c1_7, c1_8, c1_9, c1_10, c1_11, c1_12, c1_13, c1_14, c1_15, c1_16, c1_17, c1_18, c1_19, c1_20, c1_21, c1_22, c1_23, c1_24, c1_25, c1_26, c1_27, c1_28, c1_29, c1_30, c1_31])]).run Tryd.prog w = .ok (.agg #[.string z0, c1_0, c1_1, c1_2, c1_3, c1_4, c1_5, c1_6, c1_7, c1_8, c1_9, c1_10, c1_11, c1_12, c1_13, c1_14, c1_15, c1_16, c1_17, c1_18, c1_19, c1_20, c1_21, c1_22, c1_23, c1_24, c1_25, c1_26, c1_27, c1_28, c1_29, c1_30, c1_31]) w := by kernel_rfl
theorem wr28_bs70_0_1 (z0 : List UInt8) (z1 : Id32) (w : World) : (Instr.build 70 #[(0, St z0), (1, AB z1.1)]).run Tryd.prog w = .ok (.agg (St (z0) :: (Lib.byteCells z1.1)).toArray) w := by
 obtain ⟨z1, k1⟩ := z1
 obtain ⟨a1_0, a1_1, a1_2, a1_3, a1_4, a1_5, a1_6, a1_7, a1_8, a1_9, a1_10, a1_11, a1_12, a1_13, a1_14, a1_15, a1_16, a1_17, a1_18, a1_19, a1_20, a1_21, a1_22, a1_23, a1_24, a1_25, a1_26, a1_27, a1_28, a1_29, a1_30, a1_31, rfl⟩ := list32 k1
 exact wr28_bs70_0_1h _ _ _ _ _ _ _ _ _ _ _ _ _ _ _ _ _ _ _ _ _ _ _ _ _ _ _ _ _ _ _ _ _ w
theorem wr28_lh51 (c0 c1 c2 c3 c4 c5 c6 c7 c8 c9 c10 c11 c12 c13 c14 c15 c16 c17 c18 c19 c20 c21 c22 c23 c24 c25 c26 c27 c28 c29 c30 c31 c32 : Value) (w : World) : (Instr.buildSlice 51 1 #[(0, .agg #[c0, c1, c2, c3, c4, c5, c6, c7, c8, c9, c10, c11, c12, c13, c14, c15, c16, c17, c18, c19, c20, c21, c22, c23, c24, c25, c26, c27, c28, c29, c30, c31, c32])]).run Tryd.prog w = .ok (.slice (some ⟨w.heap.size, 0, none⟩) 1 1) (w.alloc (.cells #[c0, c1, c2, c3, c4, c5, c6, c7, c8, c9, c10, c11, c12, c13, c14, c15, c16, c17, c18, c19, c20, c21, c22, c23, c24, c25, c26, c27, c28, c29, c30, c31, c32] 70)) := by kernel_rfl
theorem wr28_lg51 : ∀ (cs : Array Value), cs.size = 33 → ∀ w : World, (Instr.buildSlice 51 1 #[(0, .agg cs)]).run Tryd.prog w = .ok (.slice (some ⟨w.heap.size, 0, none⟩) 1 1) (w.alloc (.cells cs 70))
 | ⟨c0 :: c1 :: c2 :: c3 :: c4 :: c5 :: c6 :: c7 :: c8 :: c9 :: c10 :: c11 :: c12 :: c13 :: c14 :: c15 :: c16 :: c17 :: c18 :: c19 :: c20 :: c21 :: c22 :: c23 :: c24 :: c25 :: c26 :: c27 :: c28 :: c29 :: c30 :: c31 :: c32 :: []⟩, _, w => wr28_lh51 c0 c1 c2 c3 c4 c5 c6 c7 c8 c9 c10 c11 c12 c13 c14 c15 c16 c17 c18 c19 c20 c21 c22 c23 c24 c25 c26 c27 c28 c29 c30 c31 c32 w
theorem wr28_ig70 : ∃ z, (Tryd.prog.info? 70).map (fun i => (i.zero, i.size, i.bytes)) = some (some z, 33, 48) ∧ z.cells.size = 33 := info_ex (by kernel_rfl)
theorem wr28_isz51 : (Tryd.prog.info? 51).map (·.size) = some 1 := by kernel_rfl
theorem wr28_fo49_1 : FieldOff Tryd.prog 49 1 1 := fun b o w => by simp [go_sem]
theorem wr28_fo53_1 : FieldOff Tryd.prog 53 1 1 := fun b o w => by simp [go_sem]
theorem wr28_fo49_2 : FieldOff Tryd.prog 49 2 2 := fun b o w => by simp [go_sem]
theorem wr28_fo49_3 : FieldOff Tryd.prog 49 3 3 := fun b o w => by simp [go_sem]
theorem wr28_fo53_2 : FieldOff Tryd.prog 53 2 2 := fun b o w => by simp [go_sem]
theorem wr28_fo53_3 : FieldOff Tryd.prog 53 3 3 := fun b o w => by simp [go_sem]
theorem wr28_isz9 : (Tryd.prog.info? 9).map (·.size) = some 1 := by kernel_rfl
theorem wr28_fo53_4 : FieldOff Tryd.prog 53 4 35 := fun b o w => by simp [go_sem]
theorem wr28_ty47 : Tryd.prog.underlying 47 = some (.slice 122) := by kernel_rfl
theorem wr28_fo49_4 : FieldOff Tryd.prog 49 4 35 := fun b o w => by simp [go_sem]
theorem wr28_ig122 : ∃ z, (Tryd.prog.info? 122).map (fun i => (i.zero, i.size, i.bytes)) = some (some z, 67, 104) ∧ z.cells.size = 67 := info_ex (by kernel_rfl)
theorem wr28_isz47 : (Tryd.prog.info? 47).map (·.size) = some 1 := by kernel_rfl
theorem wr28_ty53 : ∃ fs, Tryd.prog.underlying 53 = some (.struct fs) := struct_of (by kernel_rfl)
theorem wr28_isz53 : (Tryd.prog.info? 53).map (·.size) = some 36 := by kernel_rfl
set_option maxHeartbeats 1600000
theorem told20_any (w : World) (y : RefsV) (hm : RefsAt w y) (hc : y.1.branches.length ≤ 80 ∧ y.1.tags.length ≤ 80 ∧ y.1.log.length ≤ 80) :
  Calls Tryd.prog 27 #[.agg (refsC y).toArray] w fun e w' => ∃ z, e = .returned (.agg (refsC (y.1, z)).toArray) ∧ RefsAt w' (y.1, z) ∧ Ext w w' := by
 have hmt := hm.branches
 have hmg := hm.tags
 have hml := hm.log
 obtain ⟨hc1, hc2, hc3⟩ := hc
 refine calls_of_wpF (args := [.agg (refsC y).toArray]) Tryd.func27 rfl 69 rfl (Nat.le_of_ble_eq_true rfl) ?_
 intro ρ0 hb
 have T0 : ρ0 0 = (.agg (refsC y).toArray : Value) := hb.get 0
 clear hb
 have hE := Ext.refl w
 refine sk fun K1 hK1 => (wt (oS rfl (Yk.box (cs := (refsC y : List Value).toArray) T0 fun n2 w3 hn4 hb5 hx6 hs7 => ?_)))
 have hE := hE.trans hx6
 have hb8 := hb5; clear hb5
 have hl9 : n2 < w3.heap.size := by omega
 refine oS rfl (Yk.alloc (cs := (refsC ((⟨[], [], [], zid, []⟩, ⟨.slice none 0 0, .slice none 0 0, .slice none 0 0⟩) : RefsV)).toArray) wr28_al53 fun n10 w11 hn12 hb13 hx14 hs15 => ?_)
 have hA16 := Ext.refl w3
 have hea17 := hE
 have hz18 := hE.size
 have hlt19 := lte (bl hb8) hn12
 have hE := hE.trans hx14
 have hb8 := eb hx14 hb8
 have hA16 := hA16.trans hx14
 have hb20 := hb13; clear hb13
 have hl21 : n10 < w11.heap.size := by omega
 refine oZ (tN (hK1 _ _ (sk fun K22 hK22 => (wt (oS rfl (Yk.alloc (cs := (refsC ((⟨[], [], [], zid, []⟩, ⟨.slice none 0 0, .slice none 0 0, .slice none 0 0⟩) : RefsV)).toArray) wr28_al53 fun n23 w24 hn25 hb26 hx27 hs28 => ?_))))))
 have hA29 := Ext.refl w11
 have hea30 := hE
 have hea31 := hA16
 have hz32 := hE.size
 have hz33 := hA16.size
 have hlt34 := lte (bl hb8) hn25
 have hlt35 := lte (bl hb20) hn25
 have hE := hE.trans hx27
 have hb8 := eb hx27 hb8
 have hA16 := hA16.trans hx27
 have hb20 := eb hx27 hb20
 have hA29 := hA29.trans hx27
 have hb36 := hb26; clear hb26
 have hl37 : n23 < w24.heap.size := by omega
 refine oZ (tN (hK22 _ _ (sk fun K38 hK38 => (sk fun K39 hK39 => (wt (oA rfl (oL_ [(0, .agg (refsC y).toArray), (1, PQ n2 0), (2, PQ n10 0), (3, PQ n23 0), (4, NI 0)] ⟨T0, rfl, rfl, rfl, rfl, trivial⟩ fun ρ40 ⟨T0, T1, T2, T3, T4, _⟩ => (tN (hK39 _ _ (wpF_block (wpF_loop (fun (ρ : Slots) (wz : World) => ∃ i1 : Nat, ∃ vb1 : Value, ρ 0 = (.agg (refsC y).toArray : Value) ∧ ρ 1 = (PQ n2 0 : Value) ∧ ρ 2 = (PQ n10 0 : Value) ∧ ρ 3 = (PQ n23 0 : Value) ∧ ρ 4 = (NI i1 : Value) ∧ Ext w wz ∧ wz.heap[n2]? = some (.cells (refsC y).toArray 49 (0, 0)) ∧ wz.heap[n10]? = some (.cells (refsC ((⟨[], [], [], zid, []⟩, ⟨.slice none 0 0, .slice none 0 0, .slice none 0 0⟩) : RefsV)).toArray 53 (0, 0)) ∧ wz.heap[n23]? = some (.cells (refsC ((⟨(y.1.branches.take i1), [], (((⟨[], [], [], zid, []⟩, ⟨.slice none 0 0, .slice none 0 0, .slice none 0 0⟩) : RefsV)).1.head, (((⟨[], [], [], zid, []⟩, ⟨.slice none 0 0, .slice none 0 0, .slice none 0 0⟩) : RefsV)).1.at_, []⟩, ⟨vb1, (Value.slice none 0 0), (Value.slice none 0 0)⟩) : RefsV)).toArray 53 (0, 0)) ∧ OG w.heap.size 70 33 (nmdC) wz vb1 (y.1.branches.take i1) ∧ (i1 ≤ y.1.branches.length) ∧ (OB vb1 n2) ∧ (OB vb1 n10) ∧ (OB vb1 n23) ∧ True) (fun ρ _ => y.1.branches.length - (intOf (ρ 4)).toNat) ⟨0, (Value.slice none 0 0), T0, T1, T2, T3, T4, hE, hb8, hb20, hb36, OG.nil _ _ _ _ _, Nat.zero_le _, (fun h => by cases h), (fun h => by cases h), (fun h => by cases h), trivial⟩ ?_)))))))))))
 clear hA16
 clear hA29
 clear hb36
 clear hE hb8 hb20
 rintro ρ41 w42 ⟨i1, vb1, T0, T1, T2, T3, T4, hE, hb8, hb20, hm1, ho1, hi1, hap_vb1_n2, hap_vb1_n10, hap_vb1_n23, -⟩
 have q4 := T4
 have hl43 := (bl hb8)
 have hl44 := (bl hb20)
 have hl45 := (bl hm1)
 refine sk fun K46 hK46 => (sk fun K47 hK47 => (wt (oM rfl (oS rfl (Yk.fieldAt wr28_fo49_0 T1 (oS rfl (Yk.cell1 wr28_ty46 rfl (vr (PQ n2 0) rfl) (cellAt hb8 (show (refsC y)[0]? = some (y.2.branches : Value) from refs_g0 y)) (oS rfl (Yk.lenRG wr28_ty46 (RG.of (hmt.keep hE) (vr y.2.branches rfl)) (oS rfl (Yk.eqI (a := (i1 : Nat)) (b := ((y.1.branches).length : Nat)) T4 rfl (k_lss _ _ _ _) (oZ (tN (hK47 _ _ ?_))))))))))))))
 refine wpF_cond ((i1) < ((y.1.branches).length)) (vr (.bool (decide ((i1) < ((y.1.branches).length)))) rfl) (fun hc0 => ?_) (fun hc0 => ?_)
 ·have hlt1 : i1 < y.1.branches.length := hc0
  refine wpF_skip (tN (hK46 _ _ (sk fun K48 hK48 => (wpF_block ?_))))
  refine wpF_draw_cut 16 [Is (PQ n23 0), Is (vb1), Is (PQ n2 0), Is (y.2.branches), Is (NI i1), fun x w' => PR (nmdC ((y.1.branches).getD (i1) dNmd)) x w', PCell (St (((y.1.branches).getD (i1) dNmd).name)), Is (St (((y.1.branches).getD (i1) dNmd).name)), Is (PQ n2 0), Is (y.2.branches), Is (NI i1), fun x w' => PR (nmdC ((y.1.branches).getD (i1) dNmd)) x w', fun x w' => PR (Lib.byteCells ((y.1.branches).getD (i1) dNmd).id.1) x w', Is (AB (((y.1.branches).getD (i1) dNmd).id.1)), Is (.agg (nmdC (⟨(((y.1.branches).getD (i1) dNmd).name), ((y.1.branches).getD (i1) dNmd).id⟩ : Nmd)).toArray), fun x w' => RG 33 (nmdC) w' x ([(⟨(((y.1.branches).getD (i1) dNmd).name), ((y.1.branches).getD (i1) dNmd).id⟩ : Nmd)])] (by kernel_rfl) [13, 14, 15, 16, 17, 18, 19, 20, 21, 22, 23, 24, 25, 26, 27, 28, 29, 30] (by kernel_rfl) (by kernel_rfl) (by kernel_rfl) (by kernel_rfl) rfl rfl (si5 ⟨(fun _ _ _ h k => PR.keep h k), Stab.pcell _, (si4 ⟨(fun _ _ _ h k => PR.keep h k), (fun _ _ _ h k => PR.keep h k), (si2 ⟨(fun _ _ _ h k => RG.keep h k), trivial⟩)⟩)⟩) ?hs2005 ?hQ2005
  case hs2005 =>
   refine ⟨?_, ?_, ?_, ?_, ?_, ?_, ?_, ?_, ?_, ?_, ?_, ?_, ?_, ?_, ?_, ?_, ?_, ?_, ?_, trivial⟩
   ·refine stepFC (stepN rfl fun σ w1 hC h => ?_)
    have e3 := (eqo (h 3 (by decide))).trans T3
    exact Yk.fieldAt wr28_fo53_0 e3 ⟨Ext.refl _, rfl⟩
   ·refine stepFC (stepN rfl fun σ w1 hC h => ?_)
    have e13 := eqo (h 13 (by decide))
    exact Yk.cell1 wr28_ty51 rfl e13 (cellAt (eb hC hm1) (show (refsC ((⟨(y.1.branches.take i1), [], (((⟨[], [], [], zid, []⟩, ⟨.slice none 0 0, .slice none 0 0, .slice none 0 0⟩) : RefsV)).1.head, (((⟨[], [], [], zid, []⟩, ⟨.slice none 0 0, .slice none 0 0, .slice none 0 0⟩) : RefsV)).1.at_, []⟩, ⟨vb1, (Value.slice none 0 0), (Value.slice none 0 0)⟩) : RefsV))[0]? = some (vb1 : Value) from refs_g0 ((⟨(y.1.branches.take i1), [], (((⟨[], [], [], zid, []⟩, ⟨.slice none 0 0, .slice none 0 0, .slice none 0 0⟩) : RefsV)).1.head, (((⟨[], [], [], zid, []⟩, ⟨.slice none 0 0, .slice none 0 0, .slice none 0 0⟩) : RefsV)).1.at_, []⟩, ⟨vb1, (Value.slice none 0 0), (Value.slice none 0 0)⟩) : RefsV))) ⟨Ext.refl _, rfl⟩
   ·refine stepFC (stepN rfl fun σ w1 hC h => ?_)
    have e1 := (eqo (h 1 (by decide))).trans T1
    exact Yk.fieldAt wr28_fo49_0 e1 ⟨Ext.refl _, rfl⟩
   ·refine stepFC (stepN rfl fun σ w1 hC h => ?_)
    have e15 := eqo (h 15 (by decide))
    exact Yk.cell1 wr28_ty46 rfl e15 (cellAt (eb hC hb8) (show (refsC y)[0]? = some (y.2.branches : Value) from refs_g0 y)) ⟨Ext.refl _, rfl⟩
   ·refine stepFC (stepN rfl fun σ w1 hC h => ?_)
    have e4 := (eqo (h 4 (by decide))).trans T4
    exact Yk.move e4 ⟨Ext.refl _, rfl⟩
   ·refine stepFC (stepN rfl fun σ w1 hC h => ?_)
    have e16 := eqo (h 16 (by decide))
    have e17 := eqo (h 17 (by decide))
    exact Yk.atRG wr28_ty46 wr28_szg69 (by decide) dNmd (RG.of (hmt.keep (hE.trans hC)) e16) e17 (by omega) fun v h => ⟨Ext.refl _, h⟩
   ·refine stepFC (stepN rfl fun σ w1 hC h => ?_)
    have e18 : (fun x w' => PR (nmdC ((y.1.branches).getD (i1) dNmd)) x w') (σ 18) w1 := h 18 (by decide)
    exact Yk.fieldPR (n := 1) wr28_fo69_0 e18 fun v h => ⟨Ext.refl _, PR.pcell (by rw [nmd_f0] at h; exact h)⟩
   ·refine stepFC (stepN rfl fun σ w1 hC h => ?_)
    have e19 : (PCell (St (((y.1.branches).getD (i1) dNmd).name))) (σ 19) w1 := h 19 (by decide)
    exact Yk.loadC wr28_ty9 rfl e19 ⟨Ext.refl _, rfl⟩
   ·refine stepFC (stepN rfl fun σ w1 hC h => ?_)
    have e1 := (eqo (h 1 (by decide))).trans T1
    exact Yk.fieldAt wr28_fo49_0 e1 ⟨Ext.refl _, rfl⟩
   ·refine stepFC (stepN rfl fun σ w1 hC h => ?_)
    have e21 := eqo (h 21 (by decide))
    exact Yk.cell1 wr28_ty46 rfl e21 (cellAt (eb hC hb8) (show (refsC y)[0]? = some (y.2.branches : Value) from refs_g0 y)) ⟨Ext.refl _, rfl⟩
   ·refine stepFC (stepN rfl fun σ w1 hC h => ?_)
    have e4 := (eqo (h 4 (by decide))).trans T4
    exact Yk.move e4 ⟨Ext.refl _, rfl⟩
   ·refine stepFC (stepN rfl fun σ w1 hC h => ?_)
    have e22 := eqo (h 22 (by decide))
    have e23 := eqo (h 23 (by decide))
    exact Yk.atRG wr28_ty46 wr28_szg69 (by decide) dNmd (RG.of (hmt.keep (hE.trans hC)) e22) e23 (by omega) fun v h => ⟨Ext.refl _, h⟩
   ·refine stepFC (stepN rfl fun σ w1 hC h => ?_)
    have e24 : (fun x w' => PR (nmdC ((y.1.branches).getD (i1) dNmd)) x w') (σ 24) w1 := h 24 (by decide)
    exact Yk.fieldPR (n := 32) wr28_fo69_1 e24 fun v h => ⟨Ext.refl _, by rw [nmd_f1] at h; exact h⟩
   ·refine stepFC (stepN rfl fun σ w1 hC h => ?_)
    have e25 : (fun x w' => PR (Lib.byteCells ((y.1.branches).getD (i1) dNmd).id.1) x w') (σ 25) w1 := h 25 (by decide)
    exact Yk.loadPR e25 wr28_ty25 rfl (by rw [Lib.byteCells_length, ((y.1.branches).getD (i1) dNmd).id.2]; exact wr28_isz25) ⟨Ext.refl _, rfl⟩
   ·refine stepFC (stepN rfl fun σ w1 hC h => ?_)
    have e20 := eqo (h 20 (by decide))
    have e26 := eqo (h 26 (by decide))
    exact Yk.build2 e20 e26 (fun w => wr28_bs70_0_1 (((y.1.branches).getD (i1) dNmd).name) (((y.1.branches).getD (i1) dNmd).id) w) ⟨Ext.refl _, rfl⟩
   ·refine stepFC (stepN rfl fun σ w1 hC h => ?_)
    have e27 := eqo (h 27 (by decide))
    exact Yk.lit1G (a := (⟨(((y.1.branches).getD (i1) dNmd).name), ((y.1.branches).getD (i1) dNmd).id⟩ : Nmd)) (enc := nmdC) e27 (nmd_len _) wr28_lg51 fun v w2 h hx => ⟨hx, h⟩
   ·exact trivial
   ·exact trivial
   ·exact trivial
  intro ρ49 w50 hx51 he hf
  obtain ⟨-, k14, -, -, -, -, -, -, -, -, -, -, -, -, -, k28, -⟩ := hf
  obtain ⟨T0, T1, T2, T3, T4, -⟩ := he.hold [(0, _), (1, _), (2, _), (3, _), (4, _)] ⟨T0, T1, T2, T3, T4, trivial⟩ rfl
  clear he
  have hE := hE.trans hx51
  have hb8 := eb hx51 hb8
  have hb20 := eb hx51 hb20
  have hm1 := eb hx51 hm1
  have ho1 := ho1.keep hx51
  have T14 : ρ49 14 = vb1 := k14
  have k28 : (fun x w' => RG 33 (nmdC) w' x ([(⟨(((y.1.branches).getD (i1) dNmd).name), ((y.1.branches).getD (i1) dNmd).id⟩ : Nmd)])) (ρ49 28) w50 := k28
  obtain ⟨v52, T28⟩ : ∃ v, ρ49 28 = v := ⟨_, rfl⟩
  rw [T28] at k28
  have hk53 := k28; clear k28
  clear k14
  refine oS rfl (Yk.appendRG _ _ w.heap.size _ 48 wr28_ty51 wr28_ig70.choose_spec.1 wr28_ig70.choose_spec.2 wr28_ty51 (y.1.branches.take i1) ([(⟨(((y.1.branches).getD (i1) dNmd).name), ((y.1.branches).getD (i1) dNmd).id⟩ : Nmd)]) (OG.of ho1 T14) (RG.of hk53 T28) (fun _ _ => nmd_one) (by simp only [List.length_take, List.length_append, List.length_cons, List.length_nil]; omega) (by simp only [List.length_take, List.length_append, List.length_cons, List.length_nil]; omega) hE.size fun v54 w55 ho56 hg57 => ?_)
  have hg57 : Grew w50 w55 vb1 v54 := .eqv T14 hg57
  have hap58 : OB v54 n2 := apart_grew hg57 hap_vb1_n2 (bl hb8)
  have hap59 : OB v54 n10 := apart_grew hg57 hap_vb1_n10 (bl hb20)
  have hap60 : OB v54 n23 := apart_grew hg57 hap_vb1_n23 (bl hm1)
  have hE := ext_grew hE hg57 ho1.2 (Nat.le_refl _)
  have hb8 := blk_grew hb8 hg57 hap_vb1_n2
  have hb20 := blk_grew hb20 hg57 hap_vb1_n10
  have hm1 := blk_grew hm1 hg57 hap_vb1_n23
  clear ho1
  clear hk53
  refine oS rfl (Yk.fieldAt wr28_fo53_0 T3 (oS rfl (Yk.storeC (i := 0) (v := v54) (vr (PQ n23 0) rfl) (vr v54 rfl) hm1 (by rw [refs_len]; decide) wr28_isz51 (RG.one (RG.ofOwn ho56)).1 (RG.one (RG.ofOwn ho56)).2 fun w61 hb62 hg63 hs64 => ?_)))
  have hE := row_fresh hE hg63 (Nat.le_trans hz32 (by omega))
  have hb8 := kb hg63 hb8 (by omega)
  have hb20 := kb hg63 hb20 (by omega)
  clear hm1
  have ho56 := OG.kept ho56 hg63 hap60
  have hm1 : w61.heap[n23]? = some (.cells (refsC ((⟨(y.1.branches.take i1) ++ [(⟨(((y.1.branches).getD (i1) dNmd).name), ((y.1.branches).getD (i1) dNmd).id⟩ : Nmd)], [], (((⟨[], [], [], zid, []⟩, ⟨.slice none 0 0, .slice none 0 0, .slice none 0 0⟩) : RefsV)).1.head, (((⟨[], [], [], zid, []⟩, ⟨.slice none 0 0, .slice none 0 0, .slice none 0 0⟩) : RefsV)).1.at_, []⟩, ⟨v54, (Value.slice none 0 0), (Value.slice none 0 0)⟩) : RefsV)).toArray 53 (0, 0)) := blk_eq hb62 (refs_s0 ((⟨(y.1.branches.take i1), [], (((⟨[], [], [], zid, []⟩, ⟨.slice none 0 0, .slice none 0 0, .slice none 0 0⟩) : RefsV)).1.head, (((⟨[], [], [], zid, []⟩, ⟨.slice none 0 0, .slice none 0 0, .slice none 0 0⟩) : RefsV)).1.at_, []⟩, ⟨vb1, (Value.slice none 0 0), (Value.slice none 0 0)⟩) : RefsV) v54 ((y.1.branches.take i1) ++ [(⟨(((y.1.branches).getD (i1) dNmd).name), ((y.1.branches).getD (i1) dNmd).id⟩ : Nmd)])); clear hb62
  have hl65 := bl hm1
  refine oZ (bN (tN (hK48 _ _ (wt (oM rfl (oS rfl (Yk.bin (xv := NI i1) (yv := NI 1) T4 rfl rfl (i64_add _ _ _ (by omega)) (oA rfl (oL_ [(0, .agg (refsC y).toArray), (1, PQ n2 0), (2, PQ n10 0), (3, PQ n23 0), (4, NI ((i1) + (1)))] ⟨T0, T1, T2, T3, rfl, trivial⟩ fun ρ66 ⟨T0, T1, T2, T3, T4, _⟩ => (tN (And.intro ⟨i1 + 1, v54, T0, T1, T2, T3, T4, hE, hb8, hb20, hm1, og_eq ho56 (take_snoc hlt1), by omega, hap58, hap59, hap60, trivial⟩ ?_)))))))))))
  show y.1.branches.length - (intOf (ρ66 4)).toNat < y.1.branches.length - (intOf (ρ41 4)).toNat
  rw [T4, q4]
  simp only [intOf, Int.toNat_natCast]; omega
 refine wpF_exit (thenF_exit (thenF_exit (inBlockF_hit (tN (hK38 _ _ (sk fun K67 hK67 => (sk fun K68 hK68 => (wt (oA rfl (oL_ [(0, .agg (refsC y).toArray), (1, PQ n2 0), (2, PQ n10 0), (3, PQ n23 0), (4, NI i1), (5, NI 0)] ⟨T0, T1, T2, T3, T4, rfl, trivial⟩ fun ρ69 ⟨T0, T1, T2, T3, T4, T5, _⟩ => (tN (hK68 _ _ (wpF_block (wpF_loop (fun (ρ : Slots) (wz : World) => ∃ i2 : Nat, ∃ vb2 : Value, ρ 0 = (.agg (refsC y).toArray : Value) ∧ ρ 1 = (PQ n2 0 : Value) ∧ ρ 2 = (PQ n10 0 : Value) ∧ ρ 3 = (PQ n23 0 : Value) ∧ ρ 4 = (NI i1 : Value) ∧ ρ 5 = (NI i2 : Value) ∧ Ext w wz ∧ wz.heap[n2]? = some (.cells (refsC y).toArray 49 (0, 0)) ∧ wz.heap[n10]? = some (.cells (refsC ((⟨[], [], [], zid, []⟩, ⟨.slice none 0 0, .slice none 0 0, .slice none 0 0⟩) : RefsV)).toArray 53 (0, 0)) ∧ OG w.heap.size 70 33 (nmdC) wz vb1 (y.1.branches.take i1) ∧ wz.heap[n23]? = some (.cells (refsC ((⟨(y.1.branches.take i1), (y.1.tags.take i2), (((⟨[], [], [], zid, []⟩, ⟨.slice none 0 0, .slice none 0 0, .slice none 0 0⟩) : RefsV)).1.head, (((⟨[], [], [], zid, []⟩, ⟨.slice none 0 0, .slice none 0 0, .slice none 0 0⟩) : RefsV)).1.at_, []⟩, ⟨vb1, vb2, (Value.slice none 0 0)⟩) : RefsV)).toArray 53 (0, 0)) ∧ OG w.heap.size 70 33 (nmdC) wz vb2 (y.1.tags.take i2) ∧ (i2 ≤ y.1.tags.length) ∧ (OB vb2 n2) ∧ (OB vb2 n10) ∧ (OB vb2 n23) ∧ (ApartV vb2 vb1) ∧ True) (fun ρ _ => y.1.tags.length - (intOf (ρ 5)).toNat) ⟨0, (Value.slice none 0 0), T0, T1, T2, T3, T4, T5, hE, hb8, hb20, ho1, hm1, OG.nil _ _ _ _ _, Nat.zero_le _, (fun h => by cases h), (fun h => by cases h), (fun h => by cases h), (fun k h => by cases h), trivial⟩ ?_))))))))))))))
 clear hm1
 clear hE hb8 hb20 ho1
 rintro ρ70 w71 ⟨i2, vb2, T0, T1, T2, T3, T4, T5, hE, hb8, hb20, ho1, hm2, ho2, hi2, hap_vb2_n2, hap_vb2_n10, hap_vb2_n23, hap_vb2_vb1, -⟩
 have q5 := T5
 have hl72 := (bl hb8)
 have hl73 := (bl hb20)
 have hl74 := (bl hm2)
 refine sk fun K75 hK75 => (sk fun K76 hK76 => (wt (oM rfl (oS rfl (Yk.fieldAt wr28_fo49_1 T1 (oS rfl (Yk.cell1 wr28_ty46 rfl (vr (PQ n2 1) rfl) (cellAt hb8 (show (refsC y)[1]? = some (y.2.tags : Value) from refs_g1 y)) (oS rfl (Yk.lenRG wr28_ty46 (RG.of (hmg.keep hE) (vr y.2.tags rfl)) (oS rfl (Yk.eqI (a := (i2 : Nat)) (b := ((y.1.tags).length : Nat)) T5 rfl (k_lss _ _ _ _) (oZ (tN (hK76 _ _ ?_))))))))))))))
 refine wpF_cond ((i2) < ((y.1.tags).length)) (vr (.bool (decide ((i2) < ((y.1.tags).length)))) rfl) (fun hc1 => ?_) (fun hc1 => ?_)
 ·have hlt2 : i2 < y.1.tags.length := hc1
  refine wpF_skip (tN (hK75 _ _ (sk fun K77 hK77 => (wpF_block ?_))))
  refine wpF_draw_cut 16 [Is (PQ n23 1), Is (vb2), Is (PQ n2 1), Is (y.2.tags), Is (NI i2), fun x w' => PR (nmdC ((y.1.tags).getD (i2) dNmd)) x w', PCell (St (((y.1.tags).getD (i2) dNmd).name)), Is (St (((y.1.tags).getD (i2) dNmd).name)), Is (PQ n2 1), Is (y.2.tags), Is (NI i2), fun x w' => PR (nmdC ((y.1.tags).getD (i2) dNmd)) x w', fun x w' => PR (Lib.byteCells ((y.1.tags).getD (i2) dNmd).id.1) x w', Is (AB (((y.1.tags).getD (i2) dNmd).id.1)), Is (.agg (nmdC (⟨(((y.1.tags).getD (i2) dNmd).name), ((y.1.tags).getD (i2) dNmd).id⟩ : Nmd)).toArray), fun x w' => RG 33 (nmdC) w' x ([(⟨(((y.1.tags).getD (i2) dNmd).name), ((y.1.tags).getD (i2) dNmd).id⟩ : Nmd)])] (by kernel_rfl) [38, 39, 40, 41, 42, 43, 44, 45, 46, 47, 48, 49, 50, 51, 52, 53, 54, 55] (by kernel_rfl) (by kernel_rfl) (by kernel_rfl) (by kernel_rfl) rfl rfl (si5 ⟨(fun _ _ _ h k => PR.keep h k), Stab.pcell _, (si4 ⟨(fun _ _ _ h k => PR.keep h k), (fun _ _ _ h k => PR.keep h k), (si2 ⟨(fun _ _ _ h k => RG.keep h k), trivial⟩)⟩)⟩) ?hs3009 ?hQ3009
  case hs3009 =>
   refine ⟨?_, ?_, ?_, ?_, ?_, ?_, ?_, ?_, ?_, ?_, ?_, ?_, ?_, ?_, ?_, ?_, ?_, ?_, ?_, trivial⟩
   ·refine stepFC (stepN rfl fun σ w1 hC h => ?_)
    have e3 := (eqo (h 3 (by decide))).trans T3
    exact Yk.fieldAt wr28_fo53_1 e3 ⟨Ext.refl _, rfl⟩
   ·refine stepFC (stepN rfl fun σ w1 hC h => ?_)
    have e38 := eqo (h 38 (by decide))
    exact Yk.cell1 wr28_ty51 rfl e38 (cellAt (eb hC hm2) (show (refsC ((⟨(y.1.branches.take i1), (y.1.tags.take i2), (((⟨[], [], [], zid, []⟩, ⟨.slice none 0 0, .slice none 0 0, .slice none 0 0⟩) : RefsV)).1.head, (((⟨[], [], [], zid, []⟩, ⟨.slice none 0 0, .slice none 0 0, .slice none 0 0⟩) : RefsV)).1.at_, []⟩, ⟨vb1, vb2, (Value.slice none 0 0)⟩) : RefsV))[1]? = some (vb2 : Value) from refs_g1 ((⟨(y.1.branches.take i1), (y.1.tags.take i2), (((⟨[], [], [], zid, []⟩, ⟨.slice none 0 0, .slice none 0 0, .slice none 0 0⟩) : RefsV)).1.head, (((⟨[], [], [], zid, []⟩, ⟨.slice none 0 0, .slice none 0 0, .slice none 0 0⟩) : RefsV)).1.at_, []⟩, ⟨vb1, vb2, (Value.slice none 0 0)⟩) : RefsV))) ⟨Ext.refl _, rfl⟩
   ·refine stepFC (stepN rfl fun σ w1 hC h => ?_)
    have e1 := (eqo (h 1 (by decide))).trans T1
    exact Yk.fieldAt wr28_fo49_1 e1 ⟨Ext.refl _, rfl⟩
   ·refine stepFC (stepN rfl fun σ w1 hC h => ?_)
    have e40 := eqo (h 40 (by decide))
    exact Yk.cell1 wr28_ty46 rfl e40 (cellAt (eb hC hb8) (show (refsC y)[1]? = some (y.2.tags : Value) from refs_g1 y)) ⟨Ext.refl _, rfl⟩
   ·refine stepFC (stepN rfl fun σ w1 hC h => ?_)
    have e5 := (eqo (h 5 (by decide))).trans T5
    exact Yk.move e5 ⟨Ext.refl _, rfl⟩
   ·refine stepFC (stepN rfl fun σ w1 hC h => ?_)
    have e41 := eqo (h 41 (by decide))
    have e42 := eqo (h 42 (by decide))
    exact Yk.atRG wr28_ty46 wr28_szg69 (by decide) dNmd (RG.of (hmg.keep (hE.trans hC)) e41) e42 (by omega) fun v h => ⟨Ext.refl _, h⟩
   ·refine stepFC (stepN rfl fun σ w1 hC h => ?_)
    have e43 : (fun x w' => PR (nmdC ((y.1.tags).getD (i2) dNmd)) x w') (σ 43) w1 := h 43 (by decide)
    exact Yk.fieldPR (n := 1) wr28_fo69_0 e43 fun v h => ⟨Ext.refl _, PR.pcell (by rw [nmd_f0] at h; exact h)⟩
   ·refine stepFC (stepN rfl fun σ w1 hC h => ?_)
    have e44 : (PCell (St (((y.1.tags).getD (i2) dNmd).name))) (σ 44) w1 := h 44 (by decide)
    exact Yk.loadC wr28_ty9 rfl e44 ⟨Ext.refl _, rfl⟩
   ·refine stepFC (stepN rfl fun σ w1 hC h => ?_)
    have e1 := (eqo (h 1 (by decide))).trans T1
    exact Yk.fieldAt wr28_fo49_1 e1 ⟨Ext.refl _, rfl⟩
   ·refine stepFC (stepN rfl fun σ w1 hC h => ?_)
    have e46 := eqo (h 46 (by decide))
    exact Yk.cell1 wr28_ty46 rfl e46 (cellAt (eb hC hb8) (show (refsC y)[1]? = some (y.2.tags : Value) from refs_g1 y)) ⟨Ext.refl _, rfl⟩
   ·refine stepFC (stepN rfl fun σ w1 hC h => ?_)
    have e5 := (eqo (h 5 (by decide))).trans T5
    exact Yk.move e5 ⟨Ext.refl _, rfl⟩
   ·refine stepFC (stepN rfl fun σ w1 hC h => ?_)
    have e47 := eqo (h 47 (by decide))
    have e48 := eqo (h 48 (by decide))
    exact Yk.atRG wr28_ty46 wr28_szg69 (by decide) dNmd (RG.of (hmg.keep (hE.trans hC)) e47) e48 (by omega) fun v h => ⟨Ext.refl _, h⟩
   ·refine stepFC (stepN rfl fun σ w1 hC h => ?_)
    have e49 : (fun x w' => PR (nmdC ((y.1.tags).getD (i2) dNmd)) x w') (σ 49) w1 := h 49 (by decide)
    exact Yk.fieldPR (n := 32) wr28_fo69_1 e49 fun v h => ⟨Ext.refl _, by rw [nmd_f1] at h; exact h⟩
   ·refine stepFC (stepN rfl fun σ w1 hC h => ?_)
    have e50 : (fun x w' => PR (Lib.byteCells ((y.1.tags).getD (i2) dNmd).id.1) x w') (σ 50) w1 := h 50 (by decide)
    exact Yk.loadPR e50 wr28_ty25 rfl (by rw [Lib.byteCells_length, ((y.1.tags).getD (i2) dNmd).id.2]; exact wr28_isz25) ⟨Ext.refl _, rfl⟩
   ·refine stepFC (stepN rfl fun σ w1 hC h => ?_)
    have e45 := eqo (h 45 (by decide))
    have e51 := eqo (h 51 (by decide))
    exact Yk.build2 e45 e51 (fun w => wr28_bs70_0_1 (((y.1.tags).getD (i2) dNmd).name) (((y.1.tags).getD (i2) dNmd).id) w) ⟨Ext.refl _, rfl⟩
   ·refine stepFC (stepN rfl fun σ w1 hC h => ?_)
    have e52 := eqo (h 52 (by decide))
    exact Yk.lit1G (a := (⟨(((y.1.tags).getD (i2) dNmd).name), ((y.1.tags).getD (i2) dNmd).id⟩ : Nmd)) (enc := nmdC) e52 (nmd_len _) wr28_lg51 fun v w2 h hx => ⟨hx, h⟩
   ·exact trivial
   ·exact trivial
   ·exact trivial
  intro ρ78 w79 hx80 he hf
  obtain ⟨-, k39, -, -, -, -, -, -, -, -, -, -, -, -, -, k53, -⟩ := hf
  obtain ⟨T0, T1, T2, T3, T4, T5, -⟩ := he.hold [(0, _), (1, _), (2, _), (3, _), (4, _), (5, _)] ⟨T0, T1, T2, T3, T4, T5, trivial⟩ rfl
  clear he
  have hE := hE.trans hx80
  have hb8 := eb hx80 hb8
  have hb20 := eb hx80 hb20
  have ho1 := ho1.keep hx80
  have hm2 := eb hx80 hm2
  have ho2 := ho2.keep hx80
  have T39 : ρ78 39 = vb2 := k39
  have k53 : (fun x w' => RG 33 (nmdC) w' x ([(⟨(((y.1.tags).getD (i2) dNmd).name), ((y.1.tags).getD (i2) dNmd).id⟩ : Nmd)])) (ρ78 53) w79 := k53
  obtain ⟨v81, T53⟩ : ∃ v, ρ78 53 = v := ⟨_, rfl⟩
  rw [T53] at k53
  have hk82 := k53; clear k53
  clear k39
  refine oS rfl (Yk.appendRG _ _ w.heap.size _ 48 wr28_ty51 wr28_ig70.choose_spec.1 wr28_ig70.choose_spec.2 wr28_ty51 (y.1.tags.take i2) ([(⟨(((y.1.tags).getD (i2) dNmd).name), ((y.1.tags).getD (i2) dNmd).id⟩ : Nmd)]) (OG.of ho2 T39) (RG.of hk82 T53) (fun _ _ => nmd_one) (by simp only [List.length_take, List.length_append, List.length_cons, List.length_nil]; omega) (by simp only [List.length_take, List.length_append, List.length_cons, List.length_nil]; omega) hE.size fun v83 w84 ho85 hg86 => ?_)
  have hg86 : Grew w79 w84 vb2 v83 := .eqv T39 hg86
  have hap87 : OB v83 n2 := apart_grew hg86 hap_vb2_n2 (bl hb8)
  have hap88 : OB v83 n10 := apart_grew hg86 hap_vb2_n10 (bl hb20)
  have hap89 : OB v83 n23 := apart_grew hg86 hap_vb2_n23 (bl hm2)
  have hap90 : ApartV v83 vb1 := apartv_grew hg86 hap_vb2_vb1 ho1.2
  have hap91 : ApartV vb1 v83 := fun k h1 h2 => hap90 k h2 h1
  have hE := ext_grew hE hg86 ho2.2 (Nat.le_refl _)
  have hb8 := blk_grew hb8 hg86 hap_vb2_n2
  have hb20 := blk_grew hb20 hg86 hap_vb2_n10
  have ho1 := og_grew ho1 hg86 hap_vb2_vb1
  have hm2 := blk_grew hm2 hg86 hap_vb2_n23
  clear ho2
  clear hk82
  refine oS rfl (Yk.fieldAt wr28_fo53_1 T3 (oS rfl (Yk.storeC (i := 1) (v := v83) (vr (PQ n23 1) rfl) (vr v83 rfl) hm2 (by rw [refs_len]; decide) wr28_isz51 (RG.one (RG.ofOwn ho85)).1 (RG.one (RG.ofOwn ho85)).2 fun w92 hb93 hg94 hs95 => ?_)))
  have hE := row_fresh hE hg94 (Nat.le_trans hz32 (by omega))
  have hb8 := kb hg94 hb8 (by omega)
  have hb20 := kb hg94 hb20 (by omega)
  have ho1 := OG.kept ho1 hg94 hap_vb1_n23
  clear hm2
  have ho85 := OG.kept ho85 hg94 hap89
  have hm2 : w92.heap[n23]? = some (.cells (refsC ((⟨(y.1.branches.take i1), (y.1.tags.take i2) ++ [(⟨(((y.1.tags).getD (i2) dNmd).name), ((y.1.tags).getD (i2) dNmd).id⟩ : Nmd)], (((⟨[], [], [], zid, []⟩, ⟨.slice none 0 0, .slice none 0 0, .slice none 0 0⟩) : RefsV)).1.head, (((⟨[], [], [], zid, []⟩, ⟨.slice none 0 0, .slice none 0 0, .slice none 0 0⟩) : RefsV)).1.at_, []⟩, ⟨vb1, v83, (Value.slice none 0 0)⟩) : RefsV)).toArray 53 (0, 0)) := blk_eq hb93 (refs_s1 ((⟨(y.1.branches.take i1), (y.1.tags.take i2), (((⟨[], [], [], zid, []⟩, ⟨.slice none 0 0, .slice none 0 0, .slice none 0 0⟩) : RefsV)).1.head, (((⟨[], [], [], zid, []⟩, ⟨.slice none 0 0, .slice none 0 0, .slice none 0 0⟩) : RefsV)).1.at_, []⟩, ⟨vb1, vb2, (Value.slice none 0 0)⟩) : RefsV) v83 ((y.1.tags.take i2) ++ [(⟨(((y.1.tags).getD (i2) dNmd).name), ((y.1.tags).getD (i2) dNmd).id⟩ : Nmd)])); clear hb93
  have hl96 := bl hm2
  refine oZ (bN (tN (hK77 _ _ (wt (oM rfl (oS rfl (Yk.bin (xv := NI i2) (yv := NI 1) T5 rfl rfl (i64_add _ _ _ (by omega)) (oA rfl (oL_ [(0, .agg (refsC y).toArray), (1, PQ n2 0), (2, PQ n10 0), (3, PQ n23 0), (4, NI i1), (5, NI ((i2) + (1)))] ⟨T0, T1, T2, T3, T4, rfl, trivial⟩ fun ρ97 ⟨T0, T1, T2, T3, T4, T5, _⟩ => (tN (And.intro ⟨i2 + 1, v83, T0, T1, T2, T3, T4, T5, hE, hb8, hb20, ho1, hm2, og_eq ho85 (take_snoc hlt2), by omega, hap87, hap88, hap89, hap90, trivial⟩ ?_)))))))))))
  show y.1.tags.length - (intOf (ρ97 5)).toNat < y.1.tags.length - (intOf (ρ70 5)).toNat
  rw [T5, q5]
  simp only [intOf, Int.toNat_natCast]; omega
 refine wpF_exit (thenF_exit (thenF_exit (inBlockF_hit (tN (hK67 _ _ (sk fun K98 hK98 => ?_))))))
 have hx99 : Ext w71 (World.drew w71) := (Below.refl _ _).drew
 have hE := hE.trans hx99
 have hb8 := eb hx99 hb8
 have hb20 := eb hx99 hb20
 have ho1 := ho1.keep hx99
 have hm2 := eb hx99 hm2
 have ho2 := ho2.keep hx99
 refine wpF_float [(0, 56, PQ n2 2), (1, 57, St (y.1.head)), (2, 58, PQ n2 3), (3, 59, AB y.1.at_.1), (4, 60, PQ n23 2), (6, 61, PQ n23 3)] [5, 7] (fun wz => Ext w wz ∧ wz.heap[n2]? = some (.cells (refsC y).toArray 49 (0, 0)) ∧ wz.heap[n10]? = some (.cells (refsC ((⟨[], [], [], zid, []⟩, ⟨.slice none 0 0, .slice none 0 0, .slice none 0 0⟩) : RefsV)).toArray 53 (0, 0)) ∧ True) (by kernel_rfl) (by kernel_rfl) (by kernel_rfl) ⟨hE, hb8, hb20, trivial⟩ ⟨fun w100 ⟨hE, hb8, hb20, _⟩ => Yk.fieldAt wr28_fo49_2 T1 ⟨rfl, rfl⟩, fun w100 ⟨hE, hb8, hb20, _⟩ => Yk.cell1 wr28_ty9 rfl (vr (PQ n2 2) rfl) (cellAt hb8 (show (refsC y)[2]? = some (St (y.1.head) : Value) from refs_g2 y)) ⟨rfl, rfl⟩, fun w100 ⟨hE, hb8, hb20, _⟩ => Yk.fieldAt wr28_fo49_3 T1 ⟨rfl, rfl⟩, fun w100 ⟨hE, hb8, hb20, _⟩ => Yk.loadPR (PR.blk hb8 (refs_m3 y) (refs_n3 y) (vr (PQ n2 3) rfl)) wr28_ty25 rfl (sizeId_of y.1.at_.2) ⟨rfl, rfl⟩, fun w100 ⟨hE, hb8, hb20, _⟩ => Yk.fieldAt wr28_fo53_2 T3 ⟨rfl, rfl⟩, fun w100 ⟨hE, hb8, hb20, _⟩ => Yk.fieldAt wr28_fo53_3 T3 ⟨rfl, rfl⟩, trivial⟩ (chF_step rfl (Yk.storeC (i := 2) (v := St (y.1.head)) (vr (PQ n23 2) rfl) (vr (St (y.1.head)) rfl) hm2 (by rw [refs_len]; decide) wr28_isz9 rfl rfl fun w101 hb102 hg103 hs104 => ?_))
 have hE := row_fresh hE hg103 (Nat.le_trans hz32 (by omega))
 have hb8 := kb hg103 hb8 (by omega)
 have hb20 := kb hg103 hb20 (by omega)
 have ho1 := OG.kept ho1 hg103 hap_vb1_n23
 clear hm2
 have ho2 := OG.kept ho2 hg103 hap_vb2_n23
 have hm2 : w101.heap[n23]? = some (.cells (refsC ((⟨(y.1.branches.take i1), (y.1.tags.take i2), y.1.head, (((⟨[], [], [], zid, []⟩, ⟨.slice none 0 0, .slice none 0 0, .slice none 0 0⟩) : RefsV)).1.at_, []⟩, ⟨vb1, vb2, (Value.slice none 0 0)⟩) : RefsV)).toArray 53 (0, 0)) := blk_eq hb102 (refs_s2 ((⟨(y.1.branches.take i1), (y.1.tags.take i2), (((⟨[], [], [], zid, []⟩, ⟨.slice none 0 0, .slice none 0 0, .slice none 0 0⟩) : RefsV)).1.head, (((⟨[], [], [], zid, []⟩, ⟨.slice none 0 0, .slice none 0 0, .slice none 0 0⟩) : RefsV)).1.at_, []⟩, ⟨vb1, vb2, (Value.slice none 0 0)⟩) : RefsV) y.1.head); clear hb102
 have hl105 := bl hm2
 refine ⟨.inr ⟨hE, hb8, hb20, trivial⟩, ?_⟩
 refine chF_step rfl (Yk.storeMid (a := refs_a3 ((⟨(y.1.branches.take i1), (y.1.tags.take i2), y.1.head, (((⟨[], [], [], zid, []⟩, ⟨.slice none 0 0, .slice none 0 0, .slice none 0 0⟩) : RefsV)).1.at_, []⟩, ⟨vb1, vb2, (Value.slice none 0 0)⟩) : RefsV)) (m := Lib.byteCells ((((⟨[], [], [], zid, []⟩, ⟨.slice none 0 0, .slice none 0 0, .slice none 0 0⟩) : RefsV)).1.at_).1) (z := refs_z3 ((⟨(y.1.branches.take i1), (y.1.tags.take i2), y.1.head, (((⟨[], [], [], zid, []⟩, ⟨.slice none 0 0, .slice none 0 0, .slice none 0 0⟩) : RefsV)).1.at_, []⟩, ⟨vb1, vb2, (Value.slice none 0 0)⟩) : RefsV)) (cells := Lib.byteCells y.1.at_.1) (vr (PQ n23 3) rfl) (vr (AB y.1.at_.1) rfl) (refs_m3 ((⟨(y.1.branches.take i1), (y.1.tags.take i2), y.1.head, (((⟨[], [], [], zid, []⟩, ⟨.slice none 0 0, .slice none 0 0, .slice none 0 0⟩) : RefsV)).1.at_, []⟩, ⟨vb1, vb2, (Value.slice none 0 0)⟩) : RefsV) ▸ hm2) (refs_n3 ((⟨(y.1.branches.take i1), (y.1.tags.take i2), y.1.head, (((⟨[], [], [], zid, []⟩, ⟨.slice none 0 0, .slice none 0 0, .slice none 0 0⟩) : RefsV)).1.at_, []⟩, ⟨vb1, vb2, (Value.slice none 0 0)⟩) : RefsV)) (by rw [Lib.byteCells_length, Lib.byteCells_length, ((((⟨[], [], [], zid, []⟩, ⟨.slice none 0 0, .slice none 0 0, .slice none 0 0⟩) : RefsV)).1.at_).2, y.1.at_.2]) (by rw [Lib.byteCells_length, y.1.at_.2]; exact wr28_isz25) (byteCells_one _) fun w106 hb107 hg108 hs109 => ?_)
 have hE := row_fresh hE hg108 (Nat.le_trans hz32 (by omega))
 have hb8 := kb hg108 hb8 (by omega)
 have hb20 := kb hg108 hb20 (by omega)
 have ho1 := OG.kept ho1 hg108 hap_vb1_n23
 have ho2 := OG.kept ho2 hg108 hap_vb2_n23
 clear hm2
 have hm2 : w106.heap[n23]? = some (.cells (refsC ((⟨(y.1.branches.take i1), (y.1.tags.take i2), y.1.head, y.1.at_, []⟩, ⟨vb1, vb2, (Value.slice none 0 0)⟩) : RefsV)).toArray 53 (0, 0)) := blk_eq hb107 (refs_s3 ((⟨(y.1.branches.take i1), (y.1.tags.take i2), y.1.head, (((⟨[], [], [], zid, []⟩, ⟨.slice none 0 0, .slice none 0 0, .slice none 0 0⟩) : RefsV)).1.at_, []⟩, ⟨vb1, vb2, (Value.slice none 0 0)⟩) : RefsV) y.1.at_); clear hb107
 have hl110 := bl hm2
 refine ⟨.inl rfl, ?_⟩
 refine chF_nil (tN (hK98 _ _ (sk fun K111 hK111 => (wt (oS rfl (Yk.fieldAt wr28_fo53_4 T3 (oS rfl (Yk.cell1 wr28_ty47 rfl (vr (PQ n23 35) rfl) (cellAt hm2 (show (refsC ((⟨(y.1.branches.take i1), (y.1.tags.take i2), y.1.head, y.1.at_, []⟩, ⟨vb1, vb2, (Value.slice none 0 0)⟩) : RefsV))[35]? = some ((Value.slice none 0 0) : Value) from refs_g4 ((⟨(y.1.branches.take i1), (y.1.tags.take i2), y.1.head, y.1.at_, []⟩, ⟨vb1, vb2, (Value.slice none 0 0)⟩) : RefsV))) (oS rfl (Yk.fieldAt wr28_fo49_4 T1 (oS rfl (Yk.cell1 wr28_ty47 rfl (vr (PQ n2 35) rfl) (cellAt hb8 (show (refsC y)[35]? = some (y.2.log : Value) from refs_g4 y)) ?_))))))))))))
 have hA112 := Ext.refl w106
 have hea113 := hE
 have hz114 := hE.size
 refine oS rfl (Yk.appendRG _ _ w106.heap.size _ 104 wr28_ty47 wr28_ig122.choose_spec.1 wr28_ig122.choose_spec.2 wr28_ty47 ([]) (y.1.log) (OG.of (OG.nil _ _ _ _ _) (vr (Value.slice none 0 0) rfl)) (RG.of (hml.keep hE) (vr y.2.log rfl)) (fun _ _ => ent_one) (by simp only [List.length_nil]; omega) (by simp only [List.length_nil]; omega) hA112.size fun v115 w116 ho117 hg118 => ?_)
 have hg118 : Grew w106 w116 (.slice none 0 0) v115 := hg118
 have hlt119 := (bl hb8)
 have hlt120 := (bl hb20)
 have hlt121 := (bl hm2)
 have hx_ : Ext w106 w116 := Ext.of (by have := hg118.by_; exact this)
 have hE := hE.trans hx_
 have hb8 := eb hx_ hb8
 have hb20 := eb hx_ hb20
 have ho1 := ho1.keep hx_
 have ho2 := ho2.keep hx_
 have hm2 := eb hx_ hm2
 have hA112 := hA112.trans hx_
 have hap122 : OB v115 n2 := own_older ho117.2 hlt119
 have hap123 : OB v115 n10 := own_older ho117.2 hlt120
 have hap124 : OB v115 n23 := own_older ho117.2 hlt121
 refine oS rfl (Yk.fieldAt wr28_fo53_4 T3 (oS rfl (Yk.storeC (i := 35) (v := v115) (vr (PQ n23 35) rfl) (vr v115 rfl) hm2 (by rw [refs_len]; decide) wr28_isz47 (RG.one (RG.ofOwn ho117)).1 (RG.one (RG.ofOwn ho117)).2 fun w125 hb126 hg127 hs128 => ?_)))
 have hE := row_fresh hE hg127 (Nat.le_trans hz32 (by omega))
 have hb8 := kb hg127 hb8 (by omega)
 have hb20 := kb hg127 hb20 (by omega)
 have ho1 := OG.kept ho1 hg127 hap_vb1_n23
 have ho2 := OG.kept ho2 hg127 hap_vb2_n23
 clear hm2
 clear hA112
 have ho117 := OG.kept ho117 hg127 hap124
 have hm2 : w125.heap[n23]? = some (.cells (refsC ((⟨(y.1.branches.take i1), (y.1.tags.take i2), y.1.head, y.1.at_, ([]) ++ y.1.log⟩, ⟨vb1, vb2, v115⟩) : RefsV)).toArray 53 (0, 0)) := blk_eq hb126 (refs_s4 ((⟨(y.1.branches.take i1), (y.1.tags.take i2), y.1.head, y.1.at_, []⟩, ⟨vb1, vb2, (Value.slice none 0 0)⟩) : RefsV) v115 (([]) ++ y.1.log)); clear hb126
 have hl129 := bl hm2
 refine oZ (tN (hK111 _ _ (sk fun K130 hK130 => (wt (oS rfl (Yk.loadAll T3 hm2 (wr28_ty53).choose_spec rfl (st_isz (refs_len ((⟨(y.1.branches.take i1), (y.1.tags.take i2), y.1.head, y.1.at_, ([]) ++ y.1.log⟩, ⟨vb1, vb2, v115⟩) : RefsV)) wr28_isz53) (oS rfl (Yk.storeAll T2 (vr (.agg (refsC ((⟨(y.1.branches.take i1), (y.1.tags.take i2), y.1.head, y.1.at_, ([]) ++ y.1.log⟩, ⟨vb1, vb2, v115⟩) : RefsV)).toArray) rfl) hb20 (by simp only [List.size_toArray, refs_len]) (st_isz (refs_len _) wr28_isz53) (refs_one (x := ((⟨(y.1.branches.take i1), (y.1.tags.take i2), y.1.head, y.1.at_, ([]) ++ y.1.log⟩, ⟨vb1, vb2, v115⟩) : RefsV)) (RG.one (RG.ofOwn ho1)).2 (RG.one (RG.ofOwn ho2)).2 (RG.one (RG.ofOwn ho117)).2) fun w131 hb132 hg133 hs134 => ?_))))))))
 have hE := row_fresh hE hg133 (Nat.le_trans hz18 (by omega))
 have hb8 := kb hg133 hb8 (by omega)
 clear hb20
 have ho1 := OG.kept ho1 hg133 hap_vb1_n10
 have ho2 := OG.kept ho2 hg133 hap_vb2_n10
 have ho117 := OG.kept ho117 hg133 hap123
 have hm2 := kb hg133 hm2 (by omega)
 have hb20 : w131.heap[n10]? = some (.cells (refsC ((⟨(y.1.branches.take i1), (y.1.tags.take i2), y.1.head, y.1.at_, ([]) ++ y.1.log⟩, ⟨vb1, vb2, v115⟩) : RefsV)).toArray 53 (0, 0)) := hb132; clear hb132
 have hl135 := bl hb20
 refine oZ (tN (hK130 _ _ (wpF_ret (postF_ret (fn := Tryd.f27) _ rfl [.agg (refsC ((⟨(y.1.branches.take i1), (y.1.tags.take i2), y.1.head, y.1.at_, ([]) ++ y.1.log⟩, ⟨vb1, vb2, v115⟩) : RefsV)).toArray] (.agg (refsC ((⟨(y.1.branches.take i1), (y.1.tags.take i2), y.1.head, y.1.at_, ([]) ++ y.1.log⟩, ⟨vb1, vb2, v115⟩) : RefsV)).toArray) rfl ⟨ResF.row T2 hb20 (wr28_ty53).choose_spec rfl (st_isz (refs_len _) wr28_isz53), trivial⟩ ?_))))
 have e1 : y.1.branches.take i1 = y.1.branches := List.take_of_length_le (by omega)
 have e2 : y.1.tags.take i2 = y.1.tags := List.take_of_length_le (by omega)
 refine ⟨⟨_, _, _⟩, ?_, ⟨RG.ofOwn (og_eq ho1 e1), RG.ofOwn (og_eq ho2 e2), RG.ofOwn (og_eq ho117 (by simp))⟩, hE⟩
 rw [e1, e2]; rfl

open Go.RowKit
set_option maxRecDepth 100000
theorem lightR_few {r : Refs} (h : lightR r = true) : r.branches.length ≤ 80 ∧ r.tags.length ≤ 80 ∧ r.log.length ≤ 80 := by
 unfold lightR at h
 simp only [Bool.and_eq_true] at h
 have h1 := h.1
 exact few_of (by simpa using h1)
set_option maxHeartbeats 1600000
open Go.RowKit
set_option maxRecDepth 100000
abbrev noteW : Bs := [110, 111, 116, 101]
theorem right_few {r : Refs} (h : rightF r = true) : r.branches.length ≤ 80 ∧ r.tags.length ≤ 80 ∧ r.log.length ≤ 80 := by
 obtain ⟨h1, h2⟩ := rightF_iff.1 h
 have h3 := (nlistB_iff.1 h1.br).2.2
 have h4 := (nlistB_iff.1 h1.tg).2.2
 omega
set_option maxHeartbeats 1600000
open Go.RowKit
set_option maxRecDepth 100000
theorem wr48_ty49 : ∃ fs, Tryd.prog.underlying 49 = some (.struct fs) := struct_of (by kernel_rfl)
theorem wr48_isz49 : (Tryd.prog.info? 49).map (·.size) = some 36 := by kernel_rfl
theorem wr48_pl25 : Plain Tryd.prog 25 := fun _ _ => by kernel_rfl
theorem wr48_ty22 : Tryd.prog.underlying 22 = some (.slice 67) := by kernel_rfl
theorem wr48_pl27 : Plain Tryd.prog 27 := fun _ _ => by kernel_rfl
theorem wr48_pl26 : Plain Tryd.prog 26 := fun _ _ => by kernel_rfl
theorem wr48_al53 {d : Option Tmp} {ty : TypeId} {pos : String} {af : Array Edge} {gd : Option (Nat × Bool)} (σ : Operand → Value) (w : World) : (execOp σ ⟨d, .alloc 53, ty, pos, af, gd⟩).run Tryd.prog w = .ok (.value (PQ w.heap.size 0)) (w.alloc (.cells (refsC ((⟨[], [], [], zid, []⟩, ⟨.slice none 0 0, .slice none 0 0, .slice none 0 0⟩) : RefsV)).toArray 53)) := by kernel_rfl
theorem wr48_isz53 : (Tryd.prog.info? 53).map (·.size) = some 36 := by kernel_rfl
theorem wr48_fo49_4 : FieldOff Tryd.prog 49 4 35 := fun b o w => by simp [go_sem]
theorem wr48_ty47 : Tryd.prog.underlying 47 = some (.slice 122) := by kernel_rfl
theorem wr48_pl35 : Plain Tryd.prog 35 := fun _ _ => by kernel_rfl
theorem wr48_pl42 : Plain Tryd.prog 42 := fun _ _ => by kernel_rfl
theorem wr48_ty53 : ∃ fs, Tryd.prog.underlying 53 = some (.struct fs) := struct_of (by kernel_rfl)
theorem wr48_pl44 : Plain Tryd.prog 44 := fun _ _ => by kernel_rfl
theorem wr48_ty23 : Tryd.prog.underlying 23 = some (.slice 25) := by kernel_rfl
theorem wr48_szg25 : ∀ w' : World, (sizeOf 25).run Tryd.prog w' = .ok 32 w' := fun _ => by kernel_rfl
theorem wr48_ty25 : Tryd.prog.underlying 25 = some (.array 32 5) := by kernel_rfl
theorem wr48_isz25 : (Tryd.prog.info? 25).map (·.size) = some 32 := by kernel_rfl
theorem wr48_fo49_3 : FieldOff Tryd.prog 49 3 3 := fun b o w => by simp [go_sem]
theorem wr48_eg25 : Tryd.prog.eqGuardType Tryd.prog.depth 25 = false := by kernel_rfl
theorem wr48_ty5 : Tryd.prog.underlying 5 = some (.int .u8) := by kernel_rfl
theorem wr48_sz5 : ∀ w' : World, (sizeOf 5).run Tryd.prog w' = .ok 1 w' := fun _ => by kernel_rfl
set_option maxHeartbeats 1600000
theorem refsKept_walk (w : World) (y : RefsV) (hm : RefsAt w y) (hN : NamesLt y.1) (lv : Value) (l : List Upd) (hl : RG 66 updC w lv l) (hO : ∀ u ∈ l, u.name.length ≤ 9223372036854775807) :
  Calls Tryd.prog 13 #[.agg (refsC y).toArray, lv] w fun e w' => e = .returned (.bool true) ∧ Ext w w' := by
 have hmt := hm.branches
 have hmg := hm.tags
 have hml := hm.log
 refine calls_of_wpF (args := [.agg (refsC y).toArray, lv]) Tryd.func13 rfl 60 rfl (Nat.le_of_ble_eq_true rfl) ?_
 intro ρ0 hb
 have T0 : ρ0 0 = (.agg (refsC y).toArray : Value) := hb.get 0
 have T1 : ρ0 1 = (lv : Value) := hb.get 1
 clear hb
 have hE := Ext.refl w
 refine sk fun K1 hK1 => (wt (oS rfl (Yk.box (cs := (refsC y : List Value).toArray) T0 fun n2 w3 hn4 hb5 hx6 hs7 => ?_)))
 have hE := hE.trans hx6
 have hb8 := hb5; clear hb5
 have hl9 : n2 < w3.heap.size := by omega
 refine oA rfl (oZ (tN (hK1 _ _ (sk fun K10 hK10 => (sk fun K11 hK11 => (wt (oS rfl (Yk.loadAll (vr (PQ n2 0) rfl) hb8 (wr48_ty49).choose_spec rfl (st_isz (refs_len y) wr48_isz49) (oS rfl (Yk.callA1 wr48_pl25 (vr (.agg (refsC y).toArray) rfl) ((light20_any _ y (RefsAt.mk (hmt.keep hE) (hmg.keep hE) (hml.keep hE))).mono ?_)))))))))))
 rintro e w13 ⟨rfl, hx12⟩
 refine ⟨_, rfl, ?_⟩
 have hE := hE.trans hx12
 have hb8 := eb hx12 hb8
 refine oS rfl (Yk.notB (vr (.bool (lightR y.1)) rfl) (oM rfl (opsF_mayV (lv) rfl rfl (gF (vr (.bool (!(lightR y.1))) rfl)) (fun hG14 => Yk.move T1 ⟨rfl, rfl⟩) (opsF_mayV (NI l.length) rfl rfl (gF (vr (.bool (!(lightR y.1))) rfl)) (fun hG15 => Yk.lenRG wr48_ty22 (RG.of (hl.keep hE) (mayT (vr (cond (!(!(lightR y.1))) (lv) undef) rfl) hG15)) ⟨rfl, rfl⟩) (opsF_mayV (.bool (decide ((40) < (l.length)))) rfl rfl (gF (vr (.bool (!(lightR y.1))) rfl)) (fun hG16 => Yk.eqI (a := ((l.length : Nat) : Int)) (b := ((40 : Nat) : Int)) (mayT (vr (cond (!(!(lightR y.1))) (NI l.length) undef) rfl) hG16) (vr (NI 40) rfl) (k_gtr _ .i64 (l.length) (40)) ⟨rfl, rfl⟩) (oS rfl (Yk.pickOrN (vr (.bool (!(lightR y.1))) rfl) (vr (.bool (true)) rfl) (fun hA => (mayT (vr (cond (!(!(lightR y.1))) (.bool (decide ((40) < (l.length)))) undef) rfl) (not_i hA))) fun bb17 hbb18 => (oZ (tN (hK11 _ _ ?_))))))))))
 refine wpF_condB (bb17) (vr (.bool (bb17)) rfl) (fun hc0 => ?_) (fun hc0 => ?_)
 ·refine sk fun K19 hK19 => (wt (oA rfl (oZ (tN (hK19 _ _ (wpF_ret (thenF_ret (postF_ret (fn := Tryd.f13) _ rfl [.bool (true)] (.bool (true)) rfl ⟨rfl, trivial⟩ ?_))))))))
  exact ⟨rfl, hE⟩
 subst hbb18
 have h0 : lightR y.1 = true ∧ l.length ≤ 40 := by simpa using hc0
 have hc := lightR_few h0.1
 have hL : RefsLt y.1 := lt_of hN hc
 have hll := h0.2
 have hyl := hc.2.2
 refine wpF_skip (tN (hK10 _ _ (sk fun K20 hK20 => (wt (oS rfl (Yk.loadAll (vr (PQ n2 0) rfl) hb8 (wr48_ty49).choose_spec rfl (st_isz (refs_len y) wr48_isz49) (oS rfl (Yk.callA1 wr48_pl27 (vr (.agg (refsC y).toArray) rfl) ((told20_any _ y (RefsAt.mk (hmt.keep hE) (hmg.keep hE) (hml.keep hE)) hc).mono ?_)))))))))
 rintro e w24 ⟨v21, rfl, hp22, hx23⟩
 refine ⟨_, rfl, ?_⟩
 have hE := hE.trans hx23
 have hb8 := eb hx23 hb8
 have hr25 : RG 33 nmdC w24 v21.branches y.1.branches := hp22.branches
 have hr26 : RG 33 nmdC w24 v21.tags y.1.tags := hp22.tags
 have hr27 : RG 67 entC w24 v21.log y.1.log := hp22.log
 refine oM rfl (oS rfl (Yk.callA3 wr48_pl26 (vr (.agg (refsC (y.1, v21)).toArray) rfl) T1 (vr (St (([110, 111, 116, 101] : List UInt8))) rfl) ((apply20_any _ (y.1, v21) hp22 hL lv l (hl.keep hE) (by omega) hO noteW).mono ?_)))
 rintro e w31 ⟨v28, rfl, hR29, hx30⟩
 refine ⟨_, rfl, ?_⟩
 have hE := hE.trans hx30
 have hb8 := eb hx30 hb8
 have hp22 := hp22.keep hx30
 have hr25 := hr25.keep hx30
 have hr26 := hr26.keep hx30
 have hr27 := hr27.keep hx30
 have ho32 : OG 0 70 33 nmdC w31 v28.branches (applyP y.1 l noteW).2.branches := OG.low hR29.br (Nat.zero_le _)
 have hap33 := OG.off ho32 hb8 (by decide)
 have ho34 : OG 0 70 33 nmdC w31 v28.tags (applyP y.1 l noteW).2.tags := OG.low hR29.tg (Nat.zero_le _)
 have hap35 := OG.off ho34 hb8 (by decide)
 have ho36 : OG 0 122 67 entC w31 v28.log (applyP y.1 l noteW).2.log := OG.low hR29.lg (Nat.zero_le _)
 have hap37 := OG.off ho36 hb8 (by decide)
 refine oM rfl (oS rfl (Yk.extract (vs := [.agg (refsC ((applyP y.1 l noteW).2, v28)).toArray, NI ((applyP y.1 l noteW).1)]) (vr (.tuple #[.agg (refsC ((applyP y.1 l noteW).2, v28)).toArray, NI ((applyP y.1 l noteW).1)]) rfl) (show _ = some (.agg (refsC ((applyP y.1 l noteW).2, v28)).toArray : Value) from rfl) (oS rfl (Yk.extract (vs := [.agg (refsC ((applyP y.1 l noteW).2, v28)).toArray, NI ((applyP y.1 l noteW).1)]) (vr (.tuple #[.agg (refsC ((applyP y.1 l noteW).2, v28)).toArray, NI ((applyP y.1 l noteW).1)]) rfl) (show _ = some (NI ((applyP y.1 l noteW).1) : Value) from rfl) (oS rfl (Yk.alloc (cs := (refsC ((⟨[], [], [], zid, []⟩, ⟨.slice none 0 0, .slice none 0 0, .slice none 0 0⟩) : RefsV)).toArray) wr48_al53 fun n38 w39 hn40 hb41 hx42 hs43 => ?_))))))
 have hA44 := Ext.refl w31
 have hea45 := hE
 have hz46 := hE.size
 have hlt47 := lte (bl hb8) hn40
 have hap48 : OB v28.branches n38 := own_newer ho32.2 (by omega)
 have hap49 : OB v28.tags n38 := own_newer ho34.2 (by omega)
 have hap50 : OB v28.log n38 := own_newer ho36.2 (by omega)
 have hE := hE.trans hx42
 have hb8 := eb hx42 hb8
 have ho32 := ho32.keep hx42
 have ho34 := ho34.keep hx42
 have ho36 := ho36.keep hx42
 have hA44 := hA44.trans hx42
 have hb51 := hb41; clear hb41
 have hl52 : n38 < w39.heap.size := by omega
 have hap53 := OG.off ho32 hb51 (by decide)
 have hap54 := OG.off ho34 hb51 (by decide)
 have hap55 := OG.off ho36 hb51 (by decide)
 refine oS rfl (Yk.storeAll (vr (PQ n38 0) rfl) (vr (.agg (refsC ((applyP y.1 l noteW).2, v28)).toArray) rfl) hb51 (by simp only [List.size_toArray, refs_len]) (st_isz (refs_len _) wr48_isz53) (refs_one (x := ((applyP y.1 l noteW).2, v28)) (RG.one (RG.ofOwn ho32)).2 (RG.one (RG.ofOwn ho34)).2 (RG.one (RG.ofOwn ho36)).2) fun w56 hb57 hg58 hs59 => ?_)
 have hE := row_fresh hE hg58 (Nat.le_trans hz46 (by omega))
 have hb8 := kb hg58 hb8 (by omega)
 have ho32 := OG.kept ho32 hg58 hap53
 have ho34 := OG.kept ho34 hg58 hap54
 have ho36 := OG.kept ho36 hg58 hap55
 have hA44 := row_fresh hA44 hg58 (Nat.le_trans (Nat.le_refl _) (by omega))
 clear hb51
 have hb51 : w56.heap[n38]? = some (.cells (refsC ((applyP y.1 l noteW).2, v28)).toArray 53 (0, 0)) := hb57; clear hb57
 have hl60 := bl hb51
 refine oA rfl (oZ (tN (hK20 _ _ (sk fun K61 hK61 => (sk fun K62 hK62 => (wt (oM rfl (oS rfl (Yk.eqI (a := ((applyP y.1 l noteW).1 : Nat)) (b := (0 : Nat)) rfl rfl (k_neq _ _ _ _) (oM rfl (opsF_mayV (PQ n2 35) rfl rfl (gF (vr (.bool (decide (((applyP y.1 l noteW).1 : Nat) ≠ (0)))) rfl)) (fun hG63 => Yk.fieldAt wr48_fo49_4 (vr (PQ n2 0) rfl) ⟨rfl, rfl⟩) (opsF_mayV (y.2.log) rfl rfl (gF (vr (.bool (decide (((applyP y.1 l noteW).1 : Nat) ≠ (0)))) rfl)) (fun hG64 => Yk.cell1 wr48_ty47 rfl (mayT (vr (cond (!(decide (((applyP y.1 l noteW).1 : Nat) ≠ (0)))) (PQ n2 35) undef) rfl) hG64) (cellAt hb8 (show (refsC y)[35]? = some (y.2.log : Value) from refs_g4 y)) ⟨rfl, rfl⟩) (opsF_mayV (NI ((y.1.log).length)) rfl rfl (gF (vr (.bool (decide (((applyP y.1 l noteW).1 : Nat) ≠ (0)))) rfl)) (fun hG65 => Yk.lenRG wr48_ty47 (RG.of (hml.keep hE) (mayT (vr (cond (!(decide (((applyP y.1 l noteW).1 : Nat) ≠ (0)))) (y.2.log) undef) rfl) hG65)) ⟨rfl, rfl⟩) (opsF_mayV (lv) rfl rfl (gF (vr (.bool (decide (((applyP y.1 l noteW).1 : Nat) ≠ (0)))) rfl)) (fun hG66 => Yk.move T1 ⟨rfl, rfl⟩) (opsF_mayV (NI l.length) rfl rfl (gF (vr (.bool (decide (((applyP y.1 l noteW).1 : Nat) ≠ (0)))) rfl)) (fun hG67 => Yk.lenRG wr48_ty22 (RG.of (hl.keep hE) (mayT (vr (cond (!(decide (((applyP y.1 l noteW).1 : Nat) ≠ (0)))) (lv) undef) rfl) hG67)) ⟨rfl, rfl⟩) (opsF_mayV (NI (((y.1.log).length) + (l.length))) rfl rfl (gF (vr (.bool (decide (((applyP y.1 l noteW).1 : Nat) ≠ (0)))) rfl)) (fun hG68 => Yk.bin (xv := NI ((y.1.log).length)) (yv := NI l.length) (mayT (vr (cond (!(decide (((applyP y.1 l noteW).1 : Nat) ≠ (0)))) (NI ((y.1.log).length)) undef) rfl) hG68) (mayT (vr (cond (!(decide (((applyP y.1 l noteW).1 : Nat) ≠ (0)))) (NI l.length) undef) rfl) hG68) rfl (i64_add _ ((y.1.log).length) (l.length) (by omega)) ⟨rfl, rfl⟩) (opsF_mayV (.bool (decide ((64) < (((y.1.log).length) + (l.length))))) rfl rfl (gF (vr (.bool (decide (((applyP y.1 l noteW).1 : Nat) ≠ (0)))) rfl)) (fun hG69 => Yk.eqI (a := ((((y.1.log).length) + (l.length) : Nat) : Int)) (b := ((64 : Nat) : Int)) (mayT (vr (cond (!(decide (((applyP y.1 l noteW).1 : Nat) ≠ (0)))) (NI (((y.1.log).length) + (l.length))) undef) rfl) hG69) (vr (NI 64) rfl) (k_gtr _ .i64 (((y.1.log).length) + (l.length)) (64)) ⟨rfl, rfl⟩) ?_)))))))))))))))))
 refine oS rfl (Yk.pickOrN (vr (.bool (decide (((applyP y.1 l noteW).1 : Nat) ≠ (0)))) rfl) (vr (.bool (true)) rfl) (fun hA => (mayT (vr (cond (!(decide (((applyP y.1 l noteW).1 : Nat) ≠ (0)))) (.bool (decide ((64) < (((y.1.log).length) + (l.length))))) undef) rfl) (not_i hA))) fun bb70 hbb71 => (oZ (tN (hK62 _ _ ?_))))
 refine wpF_condB (bb70) (vr (.bool (bb70)) rfl) (fun hc1 => ?_) (fun hc1 => ?_)
 ·refine sk fun K72 hK72 => (wt (oS rfl (Yk.callA0 wr48_pl35  ((awake20 _).mono ?_))))
  rintro e w74 ⟨rfl, hx73⟩
  refine ⟨_, rfl, ?_⟩
  have hE := hE.trans hx73
  have hb8 := eb hx73 hb8
  have ho32 := ho32.keep hx73
  have ho34 := ho34.keep hx73
  have ho36 := ho36.keep hx73
  have hA44 := hA44.trans hx73
  have hb51 := eb hx73 hb51
  refine oA rfl (oZ (tN (hK72 _ _ (wpF_ret (thenF_ret (postF_ret (fn := Tryd.f13) _ rfl [.bool (true)] (.bool (true)) rfl ⟨rfl, trivial⟩ ?_))))))
  exact ⟨rfl, hE⟩
 subst hbb71
 have h1c : (applyP y.1 l noteW).1 = 0 ∧ y.1.log.length + l.length ≤ 64 := by rw [Bool.or_eq_false_iff] at hc1; exact ⟨by simpa using hc1.1, by have := hc1.2; simp at this; omega⟩
 have hcR := right_few (apply_right h1c.1)
 refine wpF_skip (tN (hK61 _ _ (sk fun K75 hK75 => ?_)))
 refine wpF_draw [Is (.agg (refsC y).toArray), fun x w' => ∃ v, x = .agg (refsC (y.1, v)).toArray ∧ RefsAt w' (y.1, v), fun x w' => ∃ o, RG 32 Lib.byteCells w' x o ∧ (∀ q, q ∈ o ↔ q ∈ rootsL y.1 ∧ q ≠ List.replicate 32 0) ∧ o.length ≤ 400, Is (.agg (refsC ((applyP y.1 l noteW).2, v28)).toArray), fun x w' => ∃ o, RG 32 Lib.byteCells w' x o ∧ (∀ q, q ∈ o ↔ q ∈ rootsL ((applyP y.1 l noteW).2) ∧ q ≠ List.replicate 32 0) ∧ o.length ≤ 400, fun x w' => ∃ o, RG 32 Lib.byteCells w' x o ∧ (∀ q, q ∈ o ↔ q ∈ rootsL y.1 ∧ q ≠ List.replicate 32 0) ∧ o.length ≤ 400, fun x w' => ∃ o, RG 32 Lib.byteCells w' x o ∧ (∀ q, q ∈ o ↔ q ∈ rootsL ((applyP y.1 l noteW).2) ∧ q ≠ List.replicate 32 0) ∧ o.length ≤ 400] (by kernel_rfl) [38, 39, 40, 41, 42, 7, 8] (by kernel_rfl) (by kernel_rfl) ⟨Stab.is _, (fun _ _ _ ⟨v, h1, h2⟩ k => ⟨v, h1, h2.keep k⟩), (fun _ _ _ ⟨o, h1, h2⟩ k => ⟨o, h1.keep k, h2⟩), Stab.is _, (fun _ _ _ ⟨o, h1, h2⟩ k => ⟨o, h1.keep k, h2⟩), (fun _ _ _ ⟨o, h1, h2⟩ k => ⟨o, h1.keep k, h2⟩), (fun _ _ _ ⟨o, h1, h2⟩ k => ⟨o, h1.keep k, h2⟩), trivial⟩ ?hs1006 ?hQ1006
 case hs1006 =>
  refine ⟨?_, ?_, ?_, ?_, ?_, ?_, ?_, trivial⟩
  ·refine stepN rfl fun σ w1 hC h => ?_
   have e2 : σ 2 = PQ n2 0 := (eqo (h 2 (by decide))).trans rfl
   exact Yk.loadAll e2 (eb hC hb8) (wr48_ty49).choose_spec rfl (st_isz (refs_len y) wr48_isz49) ⟨Ext.refl _, rfl⟩
  ·refine stepN rfl fun σ w1 hC h => ?_
   have e38 := eqo (h 38 (by decide))
   refine Yk.callA1 wr48_pl27 e38 ((told20_any _ y (RefsAt.mk (hmt.keep (hE.trans hC)) (hmg.keep (hE.trans hC)) (hml.keep (hE.trans hC))) hc).mono ?_)
   rintro e w2 ⟨z, rfl, hz, hx⟩
   exact ⟨_, rfl, hx, z, rfl, hz⟩
  ·refine stepN rfl fun σ w1 hC h => ?_
   have e39 : (fun x w' => ∃ v, x = .agg (refsC (y.1, v)).toArray ∧ RefsAt w' (y.1, v)) (σ 39) w1 := h 39 (by decide)
   obtain ⟨q, hqe, hq⟩ := e39
   refine Yk.callA1 wr48_pl42 hqe ((roots_any _ (y.1, q) hq hc.1 hc.2.1 hc.2.2).mono ?_)
   rintro e w2 ⟨v, o, rfl, ho, hS, hm, hl_, hx⟩
   exact ⟨_, rfl, hx, o, RG.ofOwn ho, hm, Nat.le_trans hl_ (by show 1 + (y.1.branches.length + y.1.tags.length) + 2 * y.1.log.length ≤ 400; omega)⟩
  ·refine stepN rfl fun σ w1 hC h => ?_
   have e5 : σ 5 = PQ n38 0 := (eqo (h 5 (by decide))).trans rfl
   exact Yk.loadAll e5 (eb hC hb51) (wr48_ty53).choose_spec rfl (st_isz (refs_len ((applyP y.1 l noteW).2, v28)) wr48_isz53) ⟨Ext.refl _, rfl⟩
  ·refine stepN rfl fun σ w1 hC h => ?_
   have e41 := eqo (h 41 (by decide))
   refine Yk.callA1 wr48_pl42 e41 ((roots_any _ ((applyP y.1 l noteW).2, v28) (RefsAt.mk (RG.ofOwn (ho32.keep hC)) (RG.ofOwn (ho34.keep hC)) (RG.ofOwn (ho36.keep hC))) hcR.1 hcR.2.1 hcR.2.2).mono ?_)
   rintro e w2 ⟨v, o, rfl, ho, hS, hm, hl_, hx⟩
   exact ⟨_, rfl, hx, o, RG.ofOwn ho, hm, Nat.le_trans hl_ (by show 1 + ((applyP y.1 l noteW).2.branches.length + (applyP y.1 l noteW).2.tags.length) + 2 * (applyP y.1 l noteW).2.log.length ≤ 400; omega)⟩
  ·refine stepN rfl fun σ w1 hC h => ?_
   have e40 : (fun x w' => ∃ o, RG 32 Lib.byteCells w' x o ∧ (∀ q, q ∈ o ↔ q ∈ rootsL y.1 ∧ q ≠ List.replicate 32 0) ∧ o.length ≤ 400) (σ 40) w1 := h 40 (by decide)
   exact Yk.assign rfl ⟨Ext.refl _, e40⟩
  ·refine stepN rfl fun σ w1 hC h => ?_
   have e42 : (fun x w' => ∃ o, RG 32 Lib.byteCells w' x o ∧ (∀ q, q ∈ o ↔ q ∈ rootsL ((applyP y.1 l noteW).2) ∧ q ≠ List.replicate 32 0) ∧ o.length ≤ 400) (σ 42) w1 := h 42 (by decide)
   exact Yk.assign rfl ⟨Ext.refl _, e42⟩
 intro ρ76 w77 hx78 he hf
 obtain ⟨-, -, -, -, -, k7, k8, -⟩ := hf
 obtain ⟨T0, T1, T2, T4, T5, T6, -⟩ := he.hold [(0, _), (1, _), (2, PQ n2 0), (4, .bool (false)), (5, PQ n38 0), (6, NI ((applyP y.1 l noteW).1))] ⟨T0, T1, rfl, rfl, rfl, rfl, trivial⟩ rfl
 clear he
 have hE := hE.trans hx78
 have hb8 := eb hx78 hb8
 have ho32 := ho32.keep hx78
 have ho34 := ho34.keep hx78
 have ho36 := ho36.keep hx78
 have hA44 := hA44.trans hx78
 have hb51 := eb hx78 hb51
 have k7 : (fun x w' => ∃ o, RG 32 Lib.byteCells w' x o ∧ (∀ q, q ∈ o ↔ q ∈ rootsL y.1 ∧ q ≠ List.replicate 32 0) ∧ o.length ≤ 400) (ρ76 7) w77 := k7
 obtain ⟨v79, T7⟩ : ∃ v, ρ76 7 = v := ⟨_, rfl⟩
 rw [T7] at k7
 have hk80 := k7; clear k7
 obtain ⟨v81, hr82, hm83, hn84⟩ := hk80
 have k8 : (fun x w' => ∃ o, RG 32 Lib.byteCells w' x o ∧ (∀ q, q ∈ o ↔ q ∈ rootsL ((applyP y.1 l noteW).2) ∧ q ≠ List.replicate 32 0) ∧ o.length ≤ 400) (ρ76 8) w77 := k8
 obtain ⟨v85, T8⟩ : ∃ v, ρ76 8 = v := ⟨_, rfl⟩
 rw [T8] at k8
 have hk86 := k8; clear k8
 obtain ⟨v87, hr88, hm89, hn90⟩ := hk86
 refine tN (hK75 _ _ (sk fun K91 hK91 => (wt (oM rfl (oM rfl ?_)))))
 have hz_ := hE.size
 refine oS rfl (Yk.callA2 wr48_pl44 T7 T8 ((minus_any _ v79 v85 v81 v87 hr82 hr88 (by omega) (by omega)).mono ?_))
 rintro e w95 ⟨v92, o, rfl, ho93, hS, hmm, hol, hx94⟩
 refine ⟨_, rfl, ?_⟩
 have hE := hE.trans hx94
 have hb8 := eb hx94 hb8
 have ho32 := ho32.keep hx94
 have ho34 := ho34.keep hx94
 have ho36 := ho36.keep hx94
 have hA44 := hA44.trans hx94
 have hb51 := eb hx94 hb51
 have hr82 := hr82.keep hx94
 have hr88 := hr88.keep hx94
 have hlost : ∀ x, x ∈ o → x = y.1.at_.1 := fun x hx => Classical.byContradiction fun hne => ((hmm x).1 hx).2 ((hm89 x).2 ⟨apply_kept h1c.1 h1c.2 ((hm83 x).1 ((hmm x).1 hx).1).1 hne, ((hm83 x).1 ((hmm x).1 hx).1).2⟩)
 have ho93 := OG.low ho93 hz_
 refine oA rfl (oZ (tN (hK91 _ _ (sk fun K96 hK96 => (sk fun K97 hK97 => (wt (oA rfl (oL_ [(0, .agg (refsC y).toArray), (1, lv), (2, PQ n2 0), (4, .bool (false)), (5, PQ n38 0), (6, NI ((applyP y.1 l noteW).1)), (7, v79), (8, v85), (9, v92), (10, NI 0)] ⟨T0, T1, T2, T4, T5, T6, T7, T8, rfl, rfl, trivial⟩ fun ρ98 ⟨T0, T1, T2, T4, T5, T6, T7, T8, T9, T10, _⟩ => (tN (hK97 _ _ (wpF_block (wpF_loop (fun (ρ : Slots) (wz : World) => ∃ i : Nat, ρ 0 = (.agg (refsC y).toArray : Value) ∧ ρ 1 = (lv : Value) ∧ ρ 2 = (PQ n2 0 : Value) ∧ ρ 5 = (PQ n38 0 : Value) ∧ ρ 6 = (NI ((applyP y.1 l noteW).1) : Value) ∧ ρ 7 = (v79 : Value) ∧ ρ 8 = (v85 : Value) ∧ ρ 9 = (v92 : Value) ∧ ρ 10 = (NI i : Value) ∧ Ext w wz ∧ wz.heap[n2]? = some (.cells (refsC y).toArray 49 (0, 0)) ∧ OG 0 70 33 nmdC wz v28.branches (applyP y.1 l noteW).2.branches ∧ OG 0 70 33 nmdC wz v28.tags (applyP y.1 l noteW).2.tags ∧ OG 0 122 67 entC wz v28.log (applyP y.1 l noteW).2.log ∧ Ext w31 wz ∧ wz.heap[n38]? = some (.cells (refsC ((applyP y.1 l noteW).2, v28)).toArray 53 (0, 0)) ∧ RG 32 Lib.byteCells wz v79 v81 ∧ RG 32 Lib.byteCells wz v85 v87 ∧ OG w.heap.size 25 32 Lib.byteCells wz v92 o ∧ (i ≤ o.length) ∧ True) (fun ρ _ => o.length - (intOf (ρ 10)).toNat) ⟨0, T0, T1, T2, T5, T6, T7, T8, T9, T10, hE, hb8, ho32, ho34, ho36, hA44, hb51, hr82, hr88, ho93, Nat.zero_le _, trivial⟩ ?_))))))))))))
 clear hE hb8 ho32 ho34 ho36 hA44 hb51 hr82 hr88 ho93
 rintro ρ99 w100 ⟨i, T0, T1, T2, T5, T6, T7, T8, T9, T10, hE, hb8, ho32, ho34, ho36, hA44, hb51, hr82, hr88, ho93, hi, -⟩
 have q10 := T10
 refine sk fun K101 hK101 => (sk fun K102 hK102 => (wt (oM rfl (oM rfl (oS rfl (Yk.lenRG wr48_ty23 (RG.of (RG.ofOwn ho93) T9) (oS rfl (Yk.eqI (a := (i : Nat)) (b := (o.length : Nat)) T10 rfl (k_lss _ _ _ _) (oZ (tN (hK102 _ _ ?_)))))))))))
 refine wpF_cond ((i) < (o.length)) (vr (.bool (decide ((i) < (o.length)))) rfl) (fun hc2 => ?_) (fun hc2 => ?_)
 ·have hlt : i < o.length := hc2
  have hxl : (o.getD i []).length = 32 := by rw [hlost _ (getD_mem [] hlt)]; exact y.1.at_.2
  have hxe := hlost _ (getD_mem [] hlt)
  refine wpF_skip (tN (hK101 _ _ (sk fun K103 hK103 => (wpF_block (sk fun K104 hK104 => ?_)))))
  refine wpF_draw [Is (v92), Is (NI i), fun x w' => PR (Lib.byteCells (o.getD (i) ([] : List UInt8))) x w', Is (AB (o.getD (i) ([] : List UInt8))), Is (PQ n2 3), Is (AB y.1.at_.1), Is (.bool (false))] (by kernel_rfl) [52, 53, 54, 55, 56, 57, 58] (by kernel_rfl) (by kernel_rfl) (si2 ⟨(fun _ _ _ h k => PR.keep h k), (si4 trivial)⟩) ?hs2011 ?hQ2011
  case hs2011 =>
   refine ⟨?_, ?_, ?_, ?_, ?_, ?_, ?_, trivial⟩
   ·refine stepN rfl fun σ w1 hC h => ?_
    have e9 := (eqo (h 9 (by decide))).trans T9
    exact Yk.move e9 ⟨Ext.refl _, rfl⟩
   ·refine stepN rfl fun σ w1 hC h => ?_
    have e10 := (eqo (h 10 (by decide))).trans T10
    exact Yk.move e10 ⟨Ext.refl _, rfl⟩
   ·refine stepN rfl fun σ w1 hC h => ?_
    have e52 := eqo (h 52 (by decide))
    have e53 := eqo (h 53 (by decide))
    exact Yk.atRG wr48_ty23 wr48_szg25 (by decide) ([] : List UInt8) (RG.of (RG.ofOwn (ho93.keep hC)) e52) e53 (hlt) fun v h => ⟨Ext.refl _, h⟩
   ·refine stepN rfl fun σ w1 hC h => ?_
    have e54 : (fun x w' => PR (Lib.byteCells (o.getD (i) ([] : List UInt8))) x w') (σ 54) w1 := h 54 (by decide)
    exact Yk.loadPR e54 wr48_ty25 rfl (by rw [RG.elem (RG.ofOwn ho93) ([] : List UInt8) (hlt)]; exact wr48_isz25) ⟨Ext.refl _, rfl⟩
   ·refine stepN rfl fun σ w1 hC h => ?_
    have e2 := (eqo (h 2 (by decide))).trans T2
    exact Yk.fieldAt wr48_fo49_3 e2 ⟨Ext.refl _, rfl⟩
   ·refine stepN rfl fun σ w1 hC h => ?_
    have e56 := eqo (h 56 (by decide))
    exact Yk.loadPR (PR.blk (eb hC hb8) (refs_m3 y) (refs_n3 y) e56) wr48_ty25 rfl (sizeId_of y.1.at_.2) ⟨Ext.refl _, rfl⟩
   ·refine stepN rfl fun σ w1 hC h => ?_
    have e55 := eqo (h 55 (by decide))
    have e57 := eqo (h 57 (by decide))
    exact Yk.neArr (l1 := (o.getD (i) ([] : List UInt8))) (l2 := y.1.at_.1) wr48_ty25 wr48_ty5 wr48_sz5 wr48_eg25 e55 e57 (hxl) (y.1.at_.2) ⟨Ext.refl _, (congrArg Value.bool (decide_eq_false (fun h_ => h_ hxe)))⟩
  intro ρ105 w106 hx107 he hf
  obtain ⟨-, -, -, -, -, -, k58, -⟩ := hf
  obtain ⟨T0, T1, T2, T5, T6, T7, T8, T9, T10, -⟩ := he.hold [(0, _), (1, _), (2, _), (5, _), (6, _), (7, _), (8, _), (9, _), (10, _)] ⟨T0, T1, T2, T5, T6, T7, T8, T9, T10, trivial⟩ rfl
  clear he
  have hE := hE.trans hx107
  have hb8 := eb hx107 hb8
  have ho32 := ho32.keep hx107
  have ho34 := ho34.keep hx107
  have ho36 := ho36.keep hx107
  have hA44 := hA44.trans hx107
  have hb51 := eb hx107 hb51
  have hr82 := hr82.keep hx107
  have hr88 := hr88.keep hx107
  have ho93 := ho93.keep hx107
  have T58 : ρ105 58 = .bool (false) := k58
  clear k58
  refine tN (hK104 _ _ (wpF_false T58 (wpF_skip (bN (tN (hK103 _ _ (wt (oM rfl (oS rfl (Yk.bin (xv := NI i) (yv := NI 1) T10 rfl rfl (i64_add _ _ _ (by omega)) (oA rfl (oL_ [(0, .agg (refsC y).toArray), (1, lv), (2, PQ n2 0), (5, PQ n38 0), (6, NI ((applyP y.1 l noteW).1)), (7, v79), (8, v85), (9, v92), (10, NI ((i) + (1))), (58, .bool (false))] ⟨T0, T1, T2, T5, T6, T7, T8, T9, rfl, T58, trivial⟩ fun ρ108 ⟨T0, T1, T2, T5, T6, T7, T8, T9, T10, T58, _⟩ => (tN (And.intro ⟨i + 1, T0, T1, T2, T5, T6, T7, T8, T9, T10, hE, hb8, ho32, ho34, ho36, hA44, hb51, hr82, hr88, ho93, by omega, trivial⟩ ?_))))))))))))))
  show o.length - (intOf (ρ108 10)).toNat < o.length - (intOf (ρ99 10)).toNat
  rw [T10, q10]
  simp only [intOf, Int.toNat_natCast]; omega
 refine wpF_exit (thenF_exit (thenF_exit (inBlockF_hit (tN (hK96 _ _ (sk fun K109 hK109 => (wt (oS rfl (Yk.callA0 wr48_pl35  ((awake20 _).mono ?_))))))))))
 rintro e w111 ⟨rfl, hx110⟩
 refine ⟨_, rfl, ?_⟩
 have hE := hE.trans hx110
 have hb8 := eb hx110 hb8
 have ho32 := ho32.keep hx110
 have ho34 := ho34.keep hx110
 have ho36 := ho36.keep hx110
 have hA44 := hA44.trans hx110
 have hb51 := eb hx110 hb51
 have hr82 := hr82.keep hx110
 have hr88 := hr88.keep hx110
 have ho93 := ho93.keep hx110
 refine oA rfl (oZ (tN (hK109 _ _ (wpF_ret (postF_ret (fn := Tryd.f13) _ rfl [.bool (true)] (.bool (true)) rfl ⟨rfl, trivial⟩ ?_)))))
 exact ⟨rfl, hE⟩
end Go.Proofs.YtmonlobfofkbdaaDoor
