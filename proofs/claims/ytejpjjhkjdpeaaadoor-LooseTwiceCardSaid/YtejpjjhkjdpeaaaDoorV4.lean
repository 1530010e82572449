/- Part 4 of what stands behind these statements: laws and walks of the functions that are reached. Conditions: those that each theorem names. -/
import Derived.Test.YtejpjjhkjdpeaaaDoorV3
set_option linter.unusedVariables false
set_option linter.unusedSimpArgs false
namespace Go.Proofs.YtejpjjhkjdpeaaaDoor
open Go.RowKit
section
variable {P : Program} {l : List Oper} {kill : Nat → List Nat} {C : Nat → World → Prop} {R : Nat → World → World → Prop} {Φ : Nat → Fact} {a0 : Act}
theorem tail_anyW {z : Nat} (g : Good l z) {k : Nat} (ht : ∀ i, k ≤ i → i < l.length → ∀ m, k ≤ m → m < i → ((masks l []).getD i 0).testBit m = true) {Q : Exit → Act → World → Prop} :
    ∀ (fuel m : Nat) (listed : Array Bool) (a : Act) (w : World), listed.size = l.length → (∀ i, On listed i ↔ i < m) → k ≤ m → m ≤ l.length → l.length ≤ m + fuel → wpList P l.toArray Q (l.drop m) a w → wpAny P .any l.toArray Q fuel listed a w := by
  have noReady : ∀ (m : Nat) (listed : Array Bool), listed.size = l.length → (∀ i, On listed i ↔ i < m) → l.length ≤ m → Region.ready .any l.toArray listed = [] := by
    intro m listed hsz hon hm
    cases hr : Region.ready .any l.toArray listed with
    | nil => rfl
    | cons x xs =>
      exfalso
      have hmem : x ∈ Region.ready .any l.toArray listed := by rw [hr]; simp
      obtain ⟨h1, o, ho, _⟩ := mem_ready.1 hmem
      have hx : x < l.length := by simpa using (Array.getElem?_eq_some_iff.1 ho).1
      have h2 := (hon x).2 (by omega)
      have hx' : x < listed.size := h2.lt
      unfold On at h2
      simp [hx'] at h1 h2
      rw [h1] at h2
      cases h2
  intro fuel
  induction fuel with
  | zero =>
    intro m listed a w hsz hon hk hm hf hw
    rw [List.drop_of_length_le (by omega)] at hw
    exact ⟨noReady m listed hsz hon (by omega), hw⟩
  | succ fuel ih =>
    intro m listed a w hsz hon hk hm hf hw
    by_cases hml : m = l.length
    · have hr := noReady m listed hsz hon (by omega)
      rw [List.drop_of_length_le (by omega)] at hw
      exact ⟨fun _ => hw, fun i hi => by rw [hr] at hi; cases hi⟩
    · have hlt : m < l.length := by omega
      have hoff : ¬ On listed m := fun x => by have := (hon m).1 x; omega
      have hI : Inv l (fun _ => []) (fun _ _ => True) (fun _ _ => True) (fun _ _ _ => True) a listed a w :=
        ⟨hsz, fun i o ho hi e he hb => (hon _).2 (by have := g.back i o ho e he hb; have := (hon i).1 hi; omega), rfl, rfl, fun _ _ _ => trivial, trivial, fun _ _ => rfl, fun _ _ _ _ _ _ _ _ => trivial⟩
      refine ⟨fun hr => ?_, fun i hi => ?_⟩
      · exfalso
        have ho : l[m]? = some l[m] := List.getElem?_eq_getElem hlt
        have : m ∈ Region.ready .any l.toArray listed := by
          refine mem_ready.2 ⟨?_, l[m], by rw [List.getElem?_toArray]; exact ho, fun e he hb => (hon _).2 (g.back m _ ho e he hb)⟩
          have hm' : m < listed.size := by omega
          unfold On at hoff
          simp [hm'] at hoff ⊢
          exact hoff
        rw [hr] at this
        cases this
      · obtain ⟨h1, o, ho, hall⟩ := mem_ready.1 hi
        have ho' : l[i]? = some o := by simpa using ho
        have hil : i < l.length := (List.getElem?_eq_some_iff.1 ho').1
        have hno : ¬ On listed i := fun x => by
          have hx : i < listed.size := by omega
          unfold On at x
          simp [hx] at h1 x
          rw [h1] at x
          cases x
        have him : i = m := by
          by_cases h2 : i < m
          · exact absurd ((hon i).2 h2) hno
          · by_cases h3 : i = m
            · exact h3
            · exact absurd (hI.maskReady ho' (fun e he hb => hall e he hb) (ht i (by omega) hil m hk (by omega))) hoff
        subst him
        rw [List.drop_eq_getElem_cons hlt] at hw
        obtain rfl : l[i] = o := by rw [List.getElem?_eq_getElem hlt] at ho'; exact Option.some.inj ho'
        have nxt : ∀ a' w', wpList P l.toArray Q (l.drop (i + 1)) a' w' → wpAny P .any l.toArray Q fuel (listed.setIfInBounds i true) a' w' := fun a' w' hw' =>
          ih (i + 1) _ a' w' (by simpa using hsz) (fun j => by rw [on_set (by omega), hon j]; omega) (by omega) (by omega) (by omega) hw'
        unfold wpOp
        simp only [List.getElem?_toArray, ho']
        unfold wpList at hw
        split at hw
        · rename_i hwt
          rw [if_pos hwt]
          exact hw.imp (fun h => Oper.wp_mono nxt h) (fun h => h)
        · rename_i hwt
          rw [if_neg hwt]
          exact nxt _ _ hw
end
def freeE (l : List Oper) (oe : Oper) (e : Nat) : Bool :=
  (List.range l.length).all fun j => match l[j]? with
    | some o => Nat.beq j e || (o.after.any (fun x => Region.binds .any x && x.on == e) || (oe.apart l.toArray o || ((masks l []).getD e 0).testBit j))
    | none => true
def tailE (l : List Oper) (k e : Nat) : Bool := Nat.blt e k && (List.range l.length).all fun i => Nat.blt i k || (List.range i).all fun m => Nat.beq m e || ((masks l []).getD i 0).testBit m
theorem tailE_iff {l : List Oper} {k e : Nat} (h : tailE l k e = true) : e < k ∧ ∀ i, k ≤ i → i < l.length → ∀ m, m < i → m ≠ e → ((masks l []).getD i 0).testBit m = true := by
  unfold tailE at h
  rw [Bool.and_eq_true] at h
  refine ⟨Nat.le_of_ble_eq_true h.1, fun i hi hl m hm hne => ?_⟩
  have h1 := List.all_eq_true.1 h.2 i (by simpa using hl)
  rcases Bool.or_eq_true _ _ ▸ h1 with h2 | h2
  · have := Nat.le_of_ble_eq_true h2
    omega
  · have h3 := List.all_eq_true.1 h2 m (by simpa using hm)
    rcases Bool.or_eq_true _ _ ▸ h3 with h4 | h4
    · exact absurd (Nat.eq_of_beq_eq_true h4) hne
    · exact h4
section
variable {P : Program} {l : List Oper} {Φ : Nat → Fact} {a0 : Act} {w0 : World} {Q : Exit → Act → World → Prop} {e k : Nat} {oe : Oper}
def StillOp (P : Program) (op : Op) : Prop := ∀ (ev : Operand → Value) dst ty pos af, (∃ x, ∀ w : World, (execOp ev ⟨dst, op, ty, pos, af, none⟩).run P w = .ok (.value x) w) ∨ ∀ w : World, ∃ s, (execOp ev ⟨dst, op, ty, pos, af, none⟩).run P w = .halt (.stuck s) w
theorem still_pick (c a b : Operand) : StillOp P (.pick c a b) := by
  intro ev dst ty pos af
  cases hc : ev c with
  | bool x => exact .inl ⟨if x then ev a else ev b, fun w => by
      unfold execOp
      simp only [hc, asBool]
      rfl⟩
  | _ => exact .inr fun w => ⟨_, by
      unfold execOp
      simp only [hc, asBool]
      rfl⟩
theorem still_yields {dst : Option Tmp} {op : Op} (hst : StillOp P op) {ty : TypeId} {pos : String} {af : Array Edge} (he : l[e]? = some ⟨dst, op, ty, pos, af, none⟩) {K : Act → World → Prop} {a : Act} {w : World}
    (h : wpOp P l.toArray (fun _ _ _ => False) e K a w) : ∃ x, Yields P l.toArray ⟨dst, op, ty, pos, af, none⟩ x a ∧ K (a.put dst x) w := by
  unfold wpOp at h
  simp only [List.getElem?_toArray, he, Region.wanted, if_true] at h
  rcases h with h | ⟨-, -, -, h⟩
  · unfold Oper.wp at h
    rcases hst a.eval dst ty pos af with ⟨x, hx⟩ | hx
    · rw [hx] at h
      exact ⟨x, .inl ⟨rfl, hx⟩, h⟩
    · obtain ⟨s, hs⟩ := hx w
      rw [hs] at h
      exact h.elim
  · exact h.elim
theorem anyInvE (g : Good l a0.tmps.size) (hsel : Region.noSelect l.toArray = true) {d : Tmp} {op : Op} (hso : StillOp P op) {ty : TypeId} {pos : String} {af : Array Edge} (he : l[e]? = some ⟨some d, op, ty, pos, af, none⟩)
    (hte : tailE l k e = true) (hfr : freeE l ⟨some d, op, ty, pos, af, none⟩ e = true) (hk : k ≤ l.length) (hst : ∀ i, Stab Ext (Φ i))
    (hs : ∀ i o, l[i]? = some o → i < k → StepOk P l (fun _ => Ext w0) (fun _ => Ext) Φ a0.tmps i o) (hQp : ∀ v c a w, Q (.panic c) (a.put (some d) v) w → Q (.panic c) a w)
    (hQ : ∀ listed a' w', (∀ i, On listed i ↔ i < k) → Inv l (fun _ => []) (fun _ => Ext w0) (fun _ _ => True) Φ a0 listed a' w' → wpList P l.toArray Q (l.drop k) a' w') :
    ∀ (fuel : Nat) (listed : Array Bool) (a : Act) (w : World), (listed.toList.filter (!·)).length = fuel → (∀ i, On listed i → i < k) → e ∉ Region.ready .any l.toArray listed → Inv l (fun _ => []) (fun _ => Ext w0) (fun _ _ => True) Φ a0 listed a w → wpAny P .any l.toArray Q fuel listed a w := by
  obtain ⟨hek, hte⟩ := tailE_iff hte
  have ht : ∀ i, k ≤ i → i < l.length → ∀ m, k ≤ m → m < i → ((masks l []).getD i 0).testBit m = true := fun i hi hl m hkm hm => hte i hi hl m hm (by omega)
  have hkl : killB l (fun _ => []) = true := by unfold killB; simp
  have hC : ∀ n m, n < l.length → m < l.length → n ≠ m → ((masks l []).getD n 0).testBit m = false → ∀ w w', Ext w0 w → Ext w w' → Ext w0 w' := fun _ _ _ _ _ _ _ _ hc hr => hc.trans hr
  have hE : ∀ n listed (w w' : World), n < l.length → listed.size = l.length → ¬ On listed n → (∀ i k, On listed i ∨ i = n → ((masks l []).getD i 0).testBit k = true → On listed k) → True → Ext w w' → True := fun _ _ _ _ _ _ _ _ _ _ => trivial
  have hΦ : ∀ n i, n < l.length → i < l.length → i ∉ ([] : List Nat) → i ≠ n → ((masks l []).getD i 0).testBit n = false → ∀ v w w', Φ i v w → Ext w w' → Φ i v w' := fun _ i _ _ _ _ _ v w w' => hst i v w w'
  have hRr : ∀ (n : Nat) o (w : World), l[n]? = some o → o.guard.isSome = true → Ext w w := fun _ _ w _ _ => Ext.refl w
  intro fuel
  induction fuel using Nat.strongRecOn with
  | _ fuel ih =>
  intro listed a w hf hoff hre h
  by_cases hfull : ∀ i, i < k → On listed i
  · have hon : ∀ i, On listed i ↔ i < k := fun i => ⟨hoff i, hfull i⟩
    refine tail_anyW g ht fuel k listed a w h.size hon (Nat.le_refl _) hk ?_ (hQ listed a w hon h)
    have e1 := List.take_append_drop k listed.toList
    rw [← e1, List.filter_append, List.length_append] at hf
    have e2 : (listed.toList.drop k).filter (!·) = listed.toList.drop k := List.filter_eq_self.2 fun b hb => by
      obtain ⟨j, hj, rfl⟩ := List.getElem_of_mem hb
      rw [List.getElem_drop]
      have hno : ¬ On listed (k + j) := fun x => by have := hoff _ x; omega
      rw [List.length_drop] at hj
      have hlt : k + j < listed.size := by rw [← Array.length_toList]; omega
      unfold On at hno
      simp [hlt] at hno
      simp [hno]
    rw [e2, List.length_drop] at hf
    have hz : listed.toList.length = l.length := by rw [Array.length_toList]; exact h.size
    omega
  · have hunl : ∀ i, i < l.length → ¬ On listed i → listed.getD i true = false := fun i hi hno => by
      have hi' : i < listed.size := by rw [h.size]; exact hi
      unfold On at hno
      simp [hi'] at hno ⊢
      exact hno
    have hlow : ∃ j, j < k ∧ j ≠ e ∧ ¬ On listed j := by
      refine Classical.byContradiction fun hn => hfull fun i hi => Classical.byContradiction fun hx => ?_
      have hall : ∀ j, j < k → j ≠ e → On listed j := fun j hj hje => Classical.byContradiction fun hx => hn ⟨j, hj, hje, hx⟩
      have hie : i = e := Classical.byContradiction fun hne => hx (hall i hi hne)
      subst hie
      refine hre (mem_ready.2 ⟨hunl i (by omega) hx, _, by rw [List.getElem?_toArray]; exact he, fun x hxm hb => ?_⟩)
      have := g.back i _ he x hxm hb
      exact hall x.on (by omega) (by omega)
    obtain ⟨j0, hj0, hj0e, hoff0⟩ := hlow
    have hpos : ∀ (L : Array Bool) i, L.size = l.length → i < l.length → L.getD i true = false → ∃ m, (L.toList.filter (!·)).length = m + 1 ∧ ((L.setIfInBounds i true).toList.filter (!·)).length = m := fun L i hL hi hx => by
      have hi' : i < L.size := by omega
      have := count_set L.toList i (by simp [hi'] at hx; simp [hi', hx])
      exact ⟨_, this.symm, by rw [Array.toList_setIfInBounds]⟩
    obtain ⟨f0, hf0, -⟩ := hpos listed j0 h.size (by omega) (hunl j0 (by omega) hoff0)
    obtain rfl : fuel = f0 + 1 := by omega
    refine ⟨fun hr => ?_, fun i hi => ?_⟩
    · exfalso
      have full : ∀ i, i < l.length → On listed i := by
        intro i
        induction i using Nat.strongRecOn with
        | _ i ih2 =>
          intro hi
          refine Classical.byContradiction fun hno => ?_
          have ho : l[i]? = some l[i] := List.getElem?_eq_getElem hi
          have : i ∈ Region.ready .any l.toArray listed := mem_ready.2 ⟨hunl i hi hno, l[i], by rw [List.getElem?_toArray]; exact ho, fun x hx hb => by
            have hlt := g.back i _ ho x hx hb
            exact ih2 x.on hlt (by omega)⟩
          rw [hr] at this
          cases this
      exact hoff0 (full j0 (by omega))
    · have hie : i ≠ e := fun x => hre (x ▸ hi)
      obtain ⟨h1, o, ho, hall0⟩ := mem_ready.1 hi
      have ho' : l[i]? = some o := by simpa using ho
      have hilt : i < l.length := (List.getElem?_eq_some_iff.1 ho').1
      have hil : i < listed.size := by rw [h.size]; exact hilt
      have hno : ¬ On listed i := by
        unfold On
        simp [hil] at h1 ⊢
        exact h1
      have hall : ∀ x ∈ o.after, Region.binds .any x = true → On listed x.on := fun x hx hb => hall0 x hx hb
      have hik : i < k := by
        by_cases h2 : i < k
        · exact h2
        · exact absurd (h.maskReady ho' hall (hte i (by omega) hilt j0 (by omega) hj0e)) hoff0
      obtain ⟨f1, hf1, hcnt⟩ := hpos listed i h.size hilt h1
      obtain rfl : f1 = f0 := by omega
      refine h.step g hkl hC hE hΦ hRr ho' hno hall (hs i o ho' hik) fun a' w' h' => ?_
      have hoff' : ∀ j, On (listed.setIfInBounds i true) j → j < k := fun j hx => by
        rcases (on_set hil).1 hx with rfl | h3
        · exact hik
        · exact hoff j h3
      by_cases hre' : e ∈ Region.ready .any l.toArray (listed.setIfInBounds i true)
      · obtain ⟨q1, oe', hoe, hq⟩ := mem_ready.1 hre'
        have hoe' : l[e]? = some oe' := by simpa using hoe
        obtain rfl := Option.some.inj (he.symm.trans hoe')
        have helt : e < l.length := by omega
        have hel : e < (listed.setIfInBounds i true).size := by rw [h'.size]; exact helt
        have hnoe : ¬ On (listed.setIfInBounds i true) e := by
          unfold On
          rw [Array.getD_eq_getD_getElem?] at q1 ⊢
          rw [Array.getElem?_eq_getElem hel] at q1 ⊢
          simp only [Option.getD_some] at q1 ⊢
          rw [q1]
          decide
        have hw := h'.step g hkl hC hE hΦ hRr he hnoe (fun x hx hb => hq x hx hb) (hs e _ he hek) (K := fun a2 w2 => Inv l (fun _ => []) (fun _ => Ext w0) (fun _ _ => True) Φ a0 ((listed.setIfInBounds i true).setIfInBounds e true) a2 w2) (Q := fun _ _ _ => False) (fun _ _ hx => hx)
        obtain ⟨x, hy, hK⟩ := still_yields hso he hw
        obtain ⟨f2, hf2, hcnt2⟩ := hpos _ e h'.size helt q1
        obtain rfl : f1 = f2 + 1 := by omega
        refine wpAny_first hoe (Region.noSelect_spec hsel) (hQp x) f2 _ a' w' (fun j oj hoj hje hjun hjno => ?_) hre' hy (ih f2 (by omega) _ _ _ hcnt2 (fun j hx => ?_) (fun hx => ?_) hK)
        · have hoj' : l[j]? = some oj := by simpa using hoj
          have hjl : j < l.length := (List.getElem?_eq_some_iff.1 hoj').1
          have hfj := List.all_eq_true.1 hfr j (by simpa using hjl)
          rw [hoj'] at hfj
          simp only [Bool.or_eq_true] at hfj
          rcases hfj with h3 | h3 | h3 | h3
          · exact absurd (Nat.eq_of_beq_eq_true h3) hje
          · obtain ⟨y, hy1, hy2⟩ := Array.any_eq_true'.1 h3
            simp only [Bool.and_eq_true, beq_iff_eq] at hy2
            exact absurd hy2.2 (hjno y hy1 hy2.1)
          · exact h3
          · have hon := h'.maskReady he (fun x hx hb => hq x hx hb) h3
            have hjl' := hon.lt
            unfold On at hon
            rw [Array.getD_eq_getD_getElem?, Array.getElem?_eq_getElem hjl'] at hon hjun
            simp only [Option.getD_some] at hon hjun
            rw [hon] at hjun
            cases hjun
        · rcases (on_set hel).1 hx with rfl | h3
          · exact hek
          · exact hoff' j h3
        · have := (mem_ready.1 hx).1
          simp [hel] at this
      · exact ih f1 (by omega) _ _ _ hcnt hoff' hre' h'
end
section
variable {P : Program} {n : Nat} {ρ : Slots} {w : World} {Q : PostF}
theorem wpF_draw_lateG {l r : List Oper} (e k0 : Nat) (Φs : List Fact) {id : Nat} (hm : P.follows .mixedOrders = true) (ds : List Tmp) (hg : goodB l n = true) {d : Tmp} {op : Op} (hso : StillOp P op) {ty : TypeId} {pos : String} {af : Array Edge} (he : l[e]? = some ⟨some d, op, ty, pos, af, none⟩) (hsel : Region.noSelect l.toArray = true)
    (hn : tailE l k0 e = true) (hfr : freeE l ⟨some d, op, ty, pos, af, none⟩ e = true) (haf : af.any (fun x => Region.binds .any x) = true) (hk0 : Nat.ble Φs.length k0 = true) (hds : slotsW l = ds) (hr : (l.drop k0) = r) (hlt : Nat.blt k0 l.length = true) (hst : AllStab Ext Φs)
    (hQp : ∀ c ρ ρ' w, Q (.panic c) ρ w → Q (.panic c) ρ' w)
    (hs : StepsFC P l k0 (fun _ => Ext w) (fun _ => Ext) (facts Φs) ρ 0 l)
    (hQ : ∀ (ρ' : Slots) w1, Ext w w1 → EndF ds ρ ρ' → EndFacts l (fun _ => []) (facts Φs) ρ' w1 ds → opsF P l.toArray n Q r ρ' w1) : wpF P n (.region id l.toArray true) Q ρ w := by
  intro a ha
  obtain ⟨T, df⟩ := a
  have hz : T.size = n := ha.size
  subst hz
  have hk1 : k0 < l.length := Nat.le_of_ble_eq_true hlt
  have g := good_of hg
  have hno0 : ∀ i, ¬ On (Array.replicate l.toArray.size false) i := fun i h => by
    unfold On at h
    rw [Array.getD_eq_getD_getElem?, Array.getElem?_replicate] at h
    split at h <;> simp at h
  refine wp_region_any hm (anyInvE (a0 := { tmps := T, defers := df }) (w0 := w) (Φ := facts Φs) g hsel hso he hn hfr (Nat.le_of_lt hk1) (fun i => hst.get Φs i) (fun i o ho hi => ?_) (fun v c a' w' hx => ?_) (fun listed a' w' hon h => ?_) _ _ _ _ (by simp) (fun i h => absurd h (hno0 i)) ?_ ?_)
  · have hst := StepsFC.get l 0 hs i o ho (by omega)
    rw [Nat.zero_add] at hst
    have h2 := StepsF.ok (P := P) (l := l) (C := fun _ => Ext w) (R := fun _ => Ext) (Φ := facts Φs) (T := T) ha.get [o] i ⟨hst, trivial⟩
    exact h2.1
  · obtain ⟨ρ', hf, hq⟩ := hx
    exact ⟨fun t => a'.tmps.getD t undef, ⟨by have := hf.size; simpa [Act.put] using this, by have := hf.defers; simpa [Act.put] using this, fun _ => rfl⟩, hQp _ _ _ _ hq⟩
  · have hw : ∀ d k, writer l d l.length = some k → (List.range l.length).all (fun n => !([] : List Nat).contains k) = true → facts Φs k (a'.tmps.getD d undef) w' := fun d k hk hall => by
      obtain ⟨h1, ⟨o, ho, hd'⟩, h3⟩ := writer_some _ hk
      by_cases hkL : k0 ≤ k
      · have e : facts Φs k = fun _ _ => True := by
          have := Nat.le_of_ble_eq_true hk0
          unfold facts
          rw [List.getD_eq_getElem?_getD, List.getElem?_eq_none (by omega)]
          rfl
        rw [e]
        trivial
      exact h.new d k o ho hd' ((hon k).2 (by omega)) (fun k' o' hkk ho' hd'' _ => h3 k' o' hkk (List.getElem?_eq_some_iff.1 ho').1 ho' hd'') (fun n hn => by simp)
    have hget : ∀ t, a'.tmps.getD t undef = if t ∈ ds then a'.tmps.getD t undef else ρ t := fun t => by
      by_cases hn : t ∈ ds
      · rw [if_pos hn]
      · rw [if_neg hn, ← ha.get]
        exact h.old t fun k o ho hd _ => hn (by
          rw [← hds]
          unfold slotsW
          rw [List.mem_eraseDups, List.mem_filterMap]
          exact ⟨o, List.mem_of_getElem? ho, hd⟩)
    have hcl := h.cls k0 hk1 (fun x => by have := (hon k0).1 x; omega)
    have hend : EndF ds ρ (fun t => a'.tmps.getD t undef) := ⟨fun t ht => by rw [hget t, if_neg (by simpa using ht)]⟩
    have := hQ (fun t => a'.tmps.getD t undef) w' hcl hend (endFacts_of hw ds)
    rw [hr]
    exact this a' ⟨h.tmps, h.defers.trans ha.defers, fun t => rfl⟩
  · intro hx
    obtain ⟨-, o, ho, hall⟩ := mem_ready.1 hx
    obtain rfl := Option.some.inj (he.symm.trans (by simpa using ho))
    obtain ⟨x, hx1, hx2⟩ := Array.any_eq_true'.1 haf
    exact hno0 _ (hall x hx1 hx2)
  · exact ⟨Array.size_replicate, fun i o _ h => absurd h (hno0 i), rfl, rfl, fun n hn _ => (Below.refl _ _).drew, trivial, fun t _ => rfl, fun t k o _ _ h => absurd h (hno0 k)⟩
theorem wpF_draw_lateP {l r : List Oper} (e k0 : Nat) (Φs : List Fact) {id : Nat} (hm : P.follows .mixedOrders = true) (ds : List Tmp) (hg : goodB l n = true) {d : Tmp} {o1 o2 o3 : Operand} {ty : TypeId} {pos : String} {af : Array Edge} (he : l[e]? = some ⟨some d, .pick o1 o2 o3, ty, pos, af, none⟩) (hsel : Region.noSelect l.toArray = true)
    (hn : tailE l k0 e = true) (hfr : freeE l ⟨some d, .pick o1 o2 o3, ty, pos, af, none⟩ e = true) (haf : af.any (fun x => Region.binds .any x) = true) (hk0 : Nat.ble Φs.length k0 = true) (hds : slotsW l = ds) (hr : (l.drop k0) = r) (hlt : Nat.blt k0 l.length = true) (hst : AllStab Ext Φs)
    (hQp : ∀ c ρ ρ' w, Q (.panic c) ρ w → Q (.panic c) ρ' w)
    (hs : StepsFC P l k0 (fun _ => Ext w) (fun _ => Ext) (facts Φs) ρ 0 l)
    (hQ : ∀ (ρ' : Slots) w1, Ext w w1 → EndF ds ρ ρ' → EndFacts l (fun _ => []) (facts Φs) ρ' w1 ds → opsF P l.toArray n Q r ρ' w1) : wpF P n (.region id l.toArray true) Q ρ w :=
  wpF_draw_lateG e k0 Φs hm ds hg (still_pick _ _ _) he hsel hn hfr haf hk0 hds hr hlt hst hQp hs hQ
end
open Go.Shelf Go.RowKit
def laysI_ren : Go.Shelf.Ren := ⟨fun | 137 => 56 | 217 => 69 | 266 => 78 | n => n, fun | 9 => 9 | 5 => 5 | 3 => 3 | n => n, fun | n => n⟩
theorem laysI : Go.Proofs.Lays.n137 Tryd.prog laysI_ren := {
  mixed := by kernel_rfl
  f137 := Tryd.func56.trans (congrArg some (by kernel_rfl))
  f217 := Tryd.func69.trans (congrArg some (by kernel_rfl))
  f266 := Tryd.func78.trans (congrArg some (by kernel_rfl))
  t3 := Tryd.underlying3
  a3 := Tryd.isAgg3
  z3 := Tryd.sizeOf3
  v3 := Tryd.zeroValue3
  t5 := Tryd.underlying5
  a5 := Tryd.isAgg5
  z5 := Tryd.sizeOf5
  v5 := Tryd.zeroValue5
  t9 := Tryd.underlying9
  a9 := Tryd.isAgg9
  z9 := Tryd.sizeOf9
  v9 := Tryd.zeroValue9 }
theorem shelf_IndexByte (s : ByteArray) (c : Int) (w : World) :
    Calls Tryd.prog 56 #[.string s, .int .u8 c] w fun e w' => e = .returned (.int .i64 (Lib.indexByte s.data.toList c.toNat.toUInt8)) ∧ w' = w := Any.strings_IndexByte laysI s c w
open Go.RowKit
set_option maxRecDepth 100000
theorem index_any (w : World) (c : UInt8) : Calls Tryd.prog 56 #[St ([48, 49, 50, 51, 52, 53, 54, 55, 56, 57, 97, 98, 99, 100, 101, 102] : List UInt8), B8 c] w fun e w' => e = .returned (.int .i64 (dgI c)) ∧ w' = w := by
 have h := shelf_IndexByte (⟨([48, 49, 50, 51, 52, 53, 54, 55, 56, 57, 97, 98, 99, 100, 101, 102] : List UInt8).toArray⟩ : ByteArray) (c.toNat : Int) w
 have e : Lib.indexByte (⟨([48, 49, 50, 51, 52, 53, 54, 55, 56, 57, 97, 98, 99, 100, 101, 102] : List UInt8).toArray⟩ : ByteArray).data.toList ((c.toNat : Int).toNat.toUInt8) = dgI c := by
  rw [← index_dg c]
  simp [digs]
 rw [e] at h
 exact h
theorem byteAt_of {s : List UInt8} {i k1 k2 : Nat} (h1 : dg (s.getD (2 * i) 0) = some k1) (h2 : dg (s.getD (2 * i + 1) 0) = some k2) (_ : k2 < 16) : byteAt s i = UInt8.ofNat (16 * k1 + k2) := by
 unfold byteAt
 rw [h1, h2]
 rfl
theorem byteAt_or {s : List UInt8} {i k1 k2 : Nat} (h1 : dg (s.getD (2 * i) 0) = some k1) (h2 : dg (s.getD (2 * i + 1) 0) = some k2) (hn : k2 < 16) : byteAt s i = UInt8.ofNat (k1 * 2 ^ 4 ||| k2) := by
 rw [byteAt_of h1 h2 hn, shl_or _ _ _ hn, Nat.mul_comm]
theorem ok_next {s : List UInt8} {i k1 k2 : Nat} (h : ∀ j, j < i → okAt s j = true) (h1 : dg (s.getD (2 * i) 0) = some k1) (h2 : dg (s.getD (2 * i + 1) 0) = some k2) : ∀ j, j < i + 1 → okAt s j = true := fun j hj => by
 by_cases he : j = i
 ·subst he
  unfold okAt
  rw [h1, h2]
  rfl
 ·exact h j (by omega)
theorem wr49_ty9 : Tryd.prog.underlying 9 = some (.string) := by kernel_rfl
theorem wr49_pl56 : Plain Tryd.prog 56 := fun _ _ => by kernel_rfl
theorem wr49_isz26 : (Tryd.prog.info? 26).map (·.size) = some 32 := by kernel_rfl
theorem wr49_al26 {d : Option Tmp} {ty : TypeId} {pos : String} {af : Array Edge} {gd : Option (Nat × Bool)} (σ : Operand → Value) (w : World) : (execOp σ ⟨d, .alloc 26, ty, pos, af, gd⟩).run Tryd.prog w = .ok (.value (PQ w.heap.size 0)) (w.alloc (.cells (Lib.byteCells (List.replicate 32 0)).toArray 26)) := by kernel_rfl
theorem wr49_ty26 : Tryd.prog.underlying 26 = some (.array 32 5) := by kernel_rfl
theorem wr49_pl55 : Plain Tryd.prog 55 := fun _ _ => by kernel_rfl
theorem wr49_ty3 : Tryd.prog.underlying 3 = some (.int .i64) := by kernel_rfl
theorem wr49_ty5 : Tryd.prog.underlying 5 = some (.int .u8) := by kernel_rfl
theorem wr49_sz5 : ∀ w' : World, (sizeOf 5).run Tryd.prog w' = .ok 1 w' := fun _ => by kernel_rfl
theorem wr49_isz5 : (Tryd.prog.info? 5).map (·.size) = some 1 := by kernel_rfl
set_option maxHeartbeats 1600000
theorem digit_any (w : World) (b : Nat) (s : List UInt8) (hb : w.heap[b]? = some (.cells ([St s] : List Value).toArray 9 (0, 0))) (i : Nat) (hi : i < s.length) :
  Calls Tryd.prog 55 #[NI i, PQ b 0] w fun e w' => e = .returned (.int .i64 (dgI (s.getD i 0))) ∧ Ext w w' := by
 refine calls_of_wpF (args := [NI i, PQ b 0]) Tryd.func55 rfl 8 rfl (Nat.le_of_ble_eq_true rfl) ?_
 intro ρ0 hb
 have T0 : ρ0 0 = (NI i : Value) := hb.get 0
 have T1 : ρ0 1 = (PQ b 0 : Value) := hb.get 1
 clear hb
 have hE := Ext.refl w
 refine sk fun K1 hK1 => (wt (oA rfl (oZ (tN (hK1 _ _ (sk fun K2 hK2 => (wt (oS rfl (Yk.cell1 wr49_ty9 rfl T1 (cellAt hb (show _ = some (St (s) : Value) from rfl)) (oM rfl (oS rfl (Yk.idxSt (l := s) (i := i) wr49_ty9 (vr (St (s)) rfl) T0 (hi) (oS rfl (Yk.callA2 wr49_pl56 (vr (St (([48, 49, 50, 51, 52, 53, 54, 55, 56, 57, 97, 98, 99, 100, 101, 102] : List UInt8))) rfl) (vr (B8 (s.getD (i) 0)) rfl) ((index_any _ (s.getD (i) 0)).mono ?_)))))))))))))))
 rintro e w3 ⟨rfl, hq⟩
 refine ⟨_, rfl, ?_⟩
 have hb := eb (show Ext w w3 from by rw [hq]; exact Ext.refl _) hb
 have hE := hE.trans (show Ext w w3 from by rw [hq]; exact Ext.refl _)
 refine oA rfl (oZ (tN (hK2 _ _ (wpF_ret (postF_ret (fn := Tryd.f55) _ rfl [.int .i64 (dgI (s.getD (i) 0) : Int)] (.int .i64 (dgI (s.getD (i) 0) : Int)) rfl ⟨rfl, trivial⟩ ?_)))))
 exact ⟨rfl, hE⟩

theorem unhex_any (w : World) (s : List UInt8) (hs : s.length ≤ 9223372036854775807) :
  Calls Tryd.prog 31 #[St s] w fun e w' => e = .returned (.tuple #[AB ((unhex s).1), .bool (unhex s).2]) ∧ Ext w w' := by
 refine calls_of_wpF (args := [St (s)]) Tryd.func31 rfl 42 rfl (Nat.le_of_ble_eq_true rfl) ?_
 intro ρ0 hb
 have T0 : ρ0 0 = (St (s) : Value) := hb.get 0
 clear hb
 have hE := Ext.refl w
 refine sk fun K1 hK1 => (wt (oS rfl (Yk.box1 T0 rfl fun n2 w3 hn4 hb5 hx6 hs7 => ?_)))
 have hE := hE.trans hx6
 have hb8 := hb5; clear hb5
 have hl9 : n2 < w3.heap.size := by omega
 refine oS rfl (Yk.alloc (cs := (Lib.byteCells (List.replicate 32 0)).toArray) wr49_al26 fun n10 w11 hn12 hb13 hx14 hs15 => ?_)
 have hA16 := Ext.refl w3
 have hea17 := hE
 have hz18 := hE.size
 have hlt19 := lte (bl hb8) hn12
 have hE := hE.trans hx14
 have hb8 := eb hx14 hb8
 have hA16 := hA16.trans hx14
 have hb20 := hb13; clear hb13
 have hl21 : n10 < w11.heap.size := by omega
 refine oA rfl (oZ (tN (hK1 _ _ (sk fun K22 hK22 => (wt (oS rfl (Yk.alloc (cs := (Lib.byteCells (List.replicate 32 0)).toArray) wr49_al26 fun n23 w24 hn25 hb26 hx27 hs28 => ?_)))))))
 have hA29 := Ext.refl w11
 have hea30 := hE
 have hea31 := hA16
 have hz32 := hE.size
 have hz33 := hA16.size
 have hlt34 := lte (bl hb8) hn25
 have hlt35 := lte (bl hb20) hn25
 have hE := hE.trans hx27
 have hb8 := eb hx27 hb8
 have hA16 := hA16.trans hx27
 have hb20 := eb hx27 hb20
 have hA29 := hA29.trans hx27
 have hb36 := hb26; clear hb26
 have hl37 : n23 < w24.heap.size := by omega
 refine oZ (tN (hK22 _ _ (sk fun K38 hK38 => (sk fun K39 hK39 => (wt (oS rfl (Yk.cell1 wr49_ty9 rfl (vr (PQ n2 0) rfl) (cellAt hb8 (show _ = some (St (s) : Value) from rfl)) (oS rfl (Yk.lenSt (l := s) wr49_ty9 (vr (St (s)) rfl) (oS rfl (Yk.eqI (a := (s.length : Nat)) (b := (64 : Nat)) rfl rfl (k_neq _ _ _ _) (oZ (tN (hK39 _ _ ?_))))))))))))))
 refine wpF_cond ((s.length : Nat) ≠ (64)) (vr (.bool (decide ((s.length : Nat) ≠ (64)))) rfl) (fun h64 => ?_) (fun h64 => ?_)
 ·have hun := unhex_no (s := s) (fun h => h64 h.1)
  refine sk fun K40 hK40 => (wt (oS rfl (Yk.run (v := AB (List.replicate 32 0)) (by kernel_rfl) (oS rfl (Yk.storeAll (vr (PQ n10 0) rfl) (vr (AB (List.replicate 32 0)) rfl) hb20 (by first | rfl | (rw [List.size_toArray, Lib.byteCells_length, List.length_replicate];  rfl)) (by rw [List.size_toArray, Lib.byteCells_length, List.length_replicate]; exact wr49_isz26) (byteCells_one _) fun w41 hb42 hg43 hs44 => ?_)))))
  have hE := row_fresh hE hg43 (Nat.le_trans hz18 (by omega))
  have hb8 := kb hg43 hb8 (by omega)
  have hA16 := row_fresh hA16 hg43 (Nat.le_trans (Nat.le_refl _) (by omega))
  clear hA29
  have hb36 := kb hg43 hb36 (by omega)
  clear hb20
  have hb20 := hb42; clear hb42
  have hl45 := bl hb20
  refine oA rfl (oZ (tN (hK40 _ _ (wpF_ret (thenF_ret (postF_ret (fn := Tryd.f31) _ rfl [AB (List.replicate 32 0), .bool (false)] (.tuple #[AB (List.replicate 32 0), .bool (false)]) rfl ⟨ResF.row rfl hb20 wr49_ty26 rfl (by rw [List.size_toArray, Lib.byteCells_length]; first | (rw [List.length_replicate]; exact wr49_isz26) | (rw [pre_length _ _ (by omega)]; exact wr49_isz26)), rfl, trivial⟩ ?_))))))
  refine ⟨?_, hE⟩
  rw [hun]
 have hs64 : s.length = 64 := by omega
 refine wpF_skip (tN (hK38 _ _ (sk fun K46 hK46 => (wt (oS rfl (Yk.mkFunc (vs := #[PQ n2 0]) (by simp only [List.map_toArray, List.map_cons, List.map_nil]; exact congrArg List.toArray (list1 (vr (PQ n2 0) rfl))) (oA rfl (oZ (tN (hK46 _ _ (sk fun K47 hK47 => (sk fun K48 hK48 => (wt (oM rfl (oL_ [(0, St (s)), (1, PQ n2 0), (2, PQ n10 0), (3, .bool (false)), (4, PQ n23 0), (5, .func (.func 55) #[] #[PQ n2 0]), (14, NI 0)] ⟨T0, rfl, rfl, rfl, rfl, rfl, rfl, trivial⟩ fun ρ49 ⟨T0, T1, T2, T3, T4, T5, T14, _⟩ => (tN (hK48 _ _ (wpF_block (wpF_loop (fun (ρ : Slots) (wz : World) => ∃ i : Nat, ρ 0 = (St (s) : Value) ∧ ρ 1 = (PQ n2 0 : Value) ∧ ρ 2 = (PQ n10 0 : Value) ∧ ρ 4 = (PQ n23 0 : Value) ∧ ρ 5 = (.func (.func 55) #[] #[PQ n2 0] : Value) ∧ ρ 14 = (NI i : Value) ∧ Ext w wz ∧ wz.heap[n2]? = some (.cells (([St (s)] : List Value)).toArray 9 (0, 0)) ∧ Ext w3 wz ∧ wz.heap[n10]? = some (.cells (Lib.byteCells (List.replicate 32 0)).toArray 26 (0, 0)) ∧ Ext w11 wz ∧ wz.heap[n23]? = some (.cells (Lib.byteCells (pre s i)).toArray 26 (0, 0)) ∧ (i ≤ 32) ∧ (∀ j, j < i → okAt s j = true) ∧ True) (fun ρ _ => 32 - (intOf (ρ 14)).toNat) ⟨0, T0, T1, T2, T4, T5, T14, hE, hb8, hA16, hb20, hA29, blk_eq hb36 (rfl), Nat.zero_le _, fun j hj => by omega, trivial⟩ ?_)))))))))))))))))))
 clear hb36
 clear hE hb8 hA16 hb20 hA29
 rintro ρ50 w51 ⟨i, T0, T1, T2, T4, T5, T14, hE, hb8, hA16, hb20, hA29, hb36l, hi, hall, -⟩
 have q14 := T14
 have hpl := pre_length s i hi
 refine sk fun K52 hK52 => (wt (oS rfl (Yk.eqI (a := (i : Nat)) (b := (32 : Nat)) T14 rfl (k_lss _ _ _ _) (oZ (tN (hK52 _ _ (sk fun K53 hK53 => ?_)))))))
 refine wpF_cond ((i) < (32)) (vr (.bool (decide ((i) < (32)))) rfl) (fun hc1 => ?_) (fun hc1 => ?_)
 ·refine wpF_skip (tN (hK53 _ _ (sk fun K54 hK54 => (wpF_block (sk fun K55 hK55 => (wt (oM rfl (oA rfl (oZ (tN (hK55 _ _ (sk fun K56 hK56 => (wt (oM rfl (oM rfl (oS rfl (Yk.bin (xv := NI 2) (yv := NI i) rfl T14 rfl (i64_mul _ _ _ (by omega)) (oS rfl (Yk.clo wr49_pl55 (caps := #[PQ n2 0]) T5 #[NI ((2) * (i)), PQ n2 0] (by simp only [List.map_toArray, List.map_cons, List.map_nil, List.append_toArray, List.cons_append, List.nil_append]; exact congrArg List.toArray (list2 (vr (NI ((2) * (i))) rfl) rfl)) ?_)))))))))))))))))))
  refine (digit_any _ n2 s hb8 ((2) * (i)) (by omega)).mono ?_
  rintro e w58 ⟨rfl, hx57⟩
  refine ⟨_, rfl, ?_⟩
  have hE := hE.trans hx57
  have hb8 := eb hx57 hb8
  have hA16 := hA16.trans hx57
  have hb20 := eb hx57 hb20
  have hA29 := hA29.trans hx57
  have hb36l := eb hx57 hb36l
  refine oM rfl (oM rfl (oS rfl (Yk.bin (xv := NI 2) (yv := NI i) rfl T14 rfl (i64_mul _ _ _ (by omega)) (oS rfl (Yk.bin (xv := NI ((2) * (i))) (yv := NI 1) rfl rfl rfl (i64_add _ _ _ (by omega)) (oS rfl (Yk.clo wr49_pl55 (caps := #[PQ n2 0]) T5 #[NI (((2) * (i)) + (1)), PQ n2 0] (by simp only [List.map_toArray, List.map_cons, List.map_nil, List.append_toArray, List.cons_append, List.nil_append]; exact congrArg List.toArray (list2 (vr (NI (((2) * (i)) + (1))) rfl) rfl)) ((digit_any _ n2 s hb8 (((2) * (i)) + (1)) (by omega)).mono ?_))))))))
  rintro e w60 ⟨rfl, hx59⟩
  refine ⟨_, rfl, ?_⟩
  have hE := hE.trans hx59
  have hb8 := eb hx59 hb8
  have hA16 := hA16.trans hx59
  have hb20 := eb hx59 hb20
  have hA29 := hA29.trans hx59
  have hb36l := eb hx59 hb36l
  refine oA rfl (oA rfl (oL_ [(0, St (s)), (1, PQ n2 0), (2, PQ n10 0), (4, PQ n23 0), (5, .func (.func 55) #[] #[PQ n2 0]), (6, NI i), (7, .int .i64 (dgI (s.getD (2 * i) 0) : Int)), (8, .int .i64 (dgI (s.getD (2 * i + 1) 0) : Int)), (14, NI i)] ⟨T0, T1, T2, T4, T5, T14, rfl, rfl, T14, trivial⟩ fun ρ61 ⟨T0, T1, T2, T4, T5, T6, T7, T8, T14, _⟩ => ?_))
  obtain ⟨x1, hx1⟩ : ∃ x, x = dg (s.getD (2 * i) 0) := ⟨_, rfl⟩
  obtain ⟨x2, hx2⟩ : ∃ x, x = dg (s.getD (2 * i + 1) 0) := ⟨_, rfl⟩
  rcases x1 with _ | k1
  ·have hno : okAt s i = false := by unfold okAt; rw [← hx1]; rfl
   have T7 := T7.trans (show Value.int .i64 (dgI (s.getD (2 * i) 0)) = .int .i64 (-1) by unfold dgI; rw [← hx1])
   refine tN (hK56 _ _ (sk fun K62 hK62 => (sk fun K63 hK63 => (wt (oM rfl (oS rfl (Yk.eqI T7 (vr (NI 0) rfl) (z_lss _ .i64 (-1 : Int) ((0 : Nat) : Int)) (oM rfl (oN (d := 28) rfl rfl rfl (vr (.bool (true)) (congrArg Value.bool (decide_eq_true (by decide)))) rfl (oN (d := 28) rfl rfl rfl (vr (.bool (true)) (congrArg Value.bool (decide_eq_true (by decide)))) rfl (oS rfl (Yk.pickT (vr (.bool (true)) (congrArg Value.bool (decide_eq_true (by decide)))) (vr (.bool (true)) rfl) (oZ (tN (hK63 _ _ (wpF_true (vr (.bool (true)) rfl) (sk fun K64 hK64 => (wt (oS rfl (Yk.run (v := AB (List.replicate 32 0)) (by kernel_rfl) ?_))))))))))))))))))))
   refine oS rfl (Yk.storeAll T2 (vr (AB (List.replicate 32 0)) rfl) hb20 (by first | rfl | (rw [List.size_toArray, Lib.byteCells_length, List.length_replicate];  rfl)) (by rw [List.size_toArray, Lib.byteCells_length, List.length_replicate]; exact wr49_isz26) (byteCells_one _) fun w65 hb66 hg67 hs68 => ?_)
   have hE := row_fresh hE hg67 (Nat.le_trans hz18 (by omega))
   have hb8 := kb hg67 hb8 (by omega)
   have hA16 := row_fresh hA16 hg67 (Nat.le_trans (Nat.le_refl _) (by omega))
   clear hA29
   have hb36l := kb hg67 hb36l (by omega)
   clear hb20
   have hb20 := hb66; clear hb66
   have hl69 := bl hb20
   refine oA rfl (oZ ?_)
   have hun := unhex_no (s := s) (fun h => by have := List.all_eq_true.1 h.2 i (by simp; omega); rw [hno] at this; cases this)
   refine tN (hK64 _ _ (wpF_ret (thenF_ret (inBlockF_ret (thenF_ret (thenF_ret (inBlockF_ret (thenF_ret (postF_ret (fn := Tryd.f31) _ rfl [AB (List.replicate 32 0), .bool (false)] (.tuple #[AB (List.replicate 32 0), .bool (false)]) rfl ⟨ResF.row T2 hb20 wr49_ty26 rfl (by rw [List.size_toArray, Lib.byteCells_length]; first | (rw [List.length_replicate]; exact wr49_isz26) | (rw [pre_length _ _ (by omega)]; exact wr49_isz26)), rfl, trivial⟩ ?_)))))))))
   refine ⟨?_, hE⟩
   rw [hun]
  have hd1 := hx1.symm
  have hk1 := dg_lt hd1
  have T7 := T7.trans (show Value.int .i64 (dgI (s.getD (2 * i) 0)) = NI k1 by unfold dgI; rw [← hx1])
  rcases x2 with _ | k2
  ·have hno : okAt s i = false := by unfold okAt; rw [← hx2]; simp
   have T8 := T8.trans (show Value.int .i64 (dgI (s.getD (2 * i + 1) 0)) = .int .i64 (-1) by unfold dgI; rw [← hx2])
   refine tN (hK56 _ _ (sk fun K70 hK70 => (sk fun K71 hK71 => (wt (oM rfl (oS rfl (Yk.eqI (a := (k1 : Nat)) (b := (0 : Nat)) T7 rfl (k_lss _ _ _ _) (oM rfl (oY (d := 28) rfl rfl (vr (.bool (false)) (congrArg Value.bool (decide_eq_false (by omega)))) (Yk.move T8 (oY (d := 28) rfl rfl (vr (.bool (false)) (congrArg Value.bool (decide_eq_false (by omega)))) (Yk.eqI (vr (.int .i64 (-1 : Int)) rfl) (vr (NI 0) rfl) (z_lss _ .i64 (-1 : Int) ((0 : Nat) : Int)) (oS rfl (Yk.pickF (vr (.bool (false)) (congrArg Value.bool (decide_eq_false (by omega)))) (vr (.bool (true)) (congrArg Value.bool (decide_eq_true (by decide)))) (oZ (tN (hK71 _ _ (wpF_true (vr (.bool (true)) rfl) (sk fun K72 hK72 => (wt (oS rfl (Yk.run (v := AB (List.replicate 32 0)) (by kernel_rfl) ?_))))))))))))))))))))))
   refine oS rfl (Yk.storeAll T2 (vr (AB (List.replicate 32 0)) rfl) hb20 (by first | rfl | (rw [List.size_toArray, Lib.byteCells_length, List.length_replicate];  rfl)) (by rw [List.size_toArray, Lib.byteCells_length, List.length_replicate]; exact wr49_isz26) (byteCells_one _) fun w73 hb74 hg75 hs76 => ?_)
   have hE := row_fresh hE hg75 (Nat.le_trans hz18 (by omega))
   have hb8 := kb hg75 hb8 (by omega)
   have hA16 := row_fresh hA16 hg75 (Nat.le_trans (Nat.le_refl _) (by omega))
   clear hA29
   have hb36l := kb hg75 hb36l (by omega)
   clear hb20
   have hb20 := hb74; clear hb74
   have hl77 := bl hb20
   refine oA rfl (oZ ?_)
   have hun := unhex_no (s := s) (fun h => by have := List.all_eq_true.1 h.2 i (by simp; omega); rw [hno] at this; cases this)
   refine tN (hK72 _ _ (wpF_ret (thenF_ret (inBlockF_ret (thenF_ret (thenF_ret (inBlockF_ret (thenF_ret (postF_ret (fn := Tryd.f31) _ rfl [AB (List.replicate 32 0), .bool (false)] (.tuple #[AB (List.replicate 32 0), .bool (false)]) rfl ⟨ResF.row T2 hb20 wr49_ty26 rfl (by rw [List.size_toArray, Lib.byteCells_length]; first | (rw [List.length_replicate]; exact wr49_isz26) | (rw [pre_length _ _ (by omega)]; exact wr49_isz26)), rfl, trivial⟩ ?_)))))))))
   refine ⟨?_, hE⟩
   rw [hun]
  have hd2 := hx2.symm
  have hk2 := dg_lt hd2
  have T8 := T8.trans (show Value.int .i64 (dgI (s.getD (2 * i + 1) 0)) = NI k2 by unfold dgI; rw [← hx2])
  refine tN (hK56 _ _ (sk fun K78 hK78 => (sk fun K79 hK79 => (wt (oM rfl (oS rfl (Yk.eqI (a := (k1 : Nat)) (b := (0 : Nat)) T7 rfl (k_lss _ _ _ _) (oM rfl (oY (d := 28) rfl rfl (vr (.bool (false)) (congrArg Value.bool (decide_eq_false (by omega)))) (Yk.move T8 (oY (d := 28) rfl rfl (vr (.bool (false)) (congrArg Value.bool (decide_eq_false (by omega)))) (Yk.eqI (a := (k2 : Nat)) (b := (0 : Nat)) rfl rfl (k_lss _ _ _ _) (oS rfl (Yk.pickF (vr (.bool (false)) (congrArg Value.bool (decide_eq_false (by omega)))) (vr (.bool (false)) (congrArg Value.bool (decide_eq_false (by omega)))) (oZ (tN (hK79 _ _ (wpF_false (vr (.bool (false)) rfl) (wpF_skip (tN (hK78 _ _ (wt ?_))))))))))))))))))))))
  refine oM rfl (oM rfl (oS rfl (Yk.bin (xv := NI k1) (yv := .int .u64 ((4 : Nat) : Int)) T7 rfl rfl (i64_shl _ _ _ _ (by omega) (by omega)) (oM rfl (oS rfl (Yk.bin (xv := NI ((k1) * 2 ^ (4))) (yv := NI k2) rfl T8 rfl (i64_or _ _ _ (by omega) (by omega)) (oS rfl (Yk.convI wr49_ty3 wr49_ty5 (vr (NI (((k1) * 2 ^ (4)) ||| (k2))) rfl) (toByte (((k1) * 2 ^ (4)) ||| (k2))) (oS rfl (Yk.atArr0 (i := i) wr49_ty26 wr49_sz5 T4 T6 (by omega) (oS rfl (Yk.storeB8 (i := i) (v := UInt8.ofNat (((k1) * 2 ^ (4)) ||| (k2))) (vr (PQ n23 i) rfl) (vr (B8 (UInt8.ofNat (((k1) * 2 ^ (4)) ||| (k2)))) rfl) hb36l (by rw [hpl]; omega) wr49_isz5 fun w80 hb81 hg82 hs83 => ?_))))))))))))
  have hE := row_fresh hE hg82 (Nat.le_trans hz32 (by omega))
  have hb8 := kb hg82 hb8 (by omega)
  have hA16 := row_fresh hA16 hg82 (Nat.le_trans hz33 (by omega))
  have hb20 := kb hg82 hb20 (by omega)
  have hA29 := row_fresh hA29 hg82 (Nat.le_trans (Nat.le_refl _) (by omega))
  clear hb36l
  have hb36l := hb81; clear hb81
  have hl84 := bl hb36l
  refine oZ (bN (tN (hK54 _ _ (wt (oS rfl (Yk.bin (xv := NI i) (yv := NI 1) T14 rfl rfl (i64_add _ _ _ (by omega)) (oM rfl (oL_ [(0, St (s)), (1, PQ n2 0), (2, PQ n10 0), (4, PQ n23 0), (5, .func (.func 55) #[] #[PQ n2 0]), (6, NI i), (7, NI k1), (8, NI k2), (14, NI ((i) + (1))), (31, .bool (false))] ⟨T0, T1, T2, T4, T5, T6, T7, T8, rfl, rfl, trivial⟩ fun ρ85 ⟨T0, T1, T2, T4, T5, T6, T7, T8, T14, T31, _⟩ => (tN (And.intro ⟨i + 1, T0, T1, T2, T4, T5, T14, hE, hb8, hA16, hb20, hA29, blk_eq hb36l (congrArg Lib.byteCells (by rw [← pre_step s i (by omega), byteAt_or hd1 hd2 hk2])), by omega, ok_next hall hd1 hd2, trivial⟩ ?_))))))))))
  show 32 - (intOf (ρ85 14)).toNat < 32 - (intOf (ρ50 14)).toNat
  rw [T14, q14]
  simp only [intOf, Int.toNat_natCast]; omega
 have hi32 : i = 32 := by omega
 have hun : unhex s = (pre s i, true) := by rw [hi32, pre_all]; exact unhex_yes hs64 (fun j hj => hall j (by omega))
 refine wpF_exit (thenF_exit (thenF_exit (inBlockF_hit (tN (hK47 _ _ (sk fun K86 hK86 => (wt (oS rfl (Yk.loadAll T4 hb36l wr49_ty26 rfl (by rw [List.size_toArray, Lib.byteCells_length, pre_length _ _ (by omega)]; exact wr49_isz26) (oS rfl (Yk.storeAll T2 (vr (AB (pre s i)) rfl) hb20 (by first | rfl | (rw [List.size_toArray, Lib.byteCells_length, pre_length _ _ (by omega)];  rfl)) (by rw [List.size_toArray, Lib.byteCells_length, pre_length _ _ (by omega)]; exact wr49_isz26) (byteCells_one _) fun w87 hb88 hg89 hs90 => ?_)))))))))))
 have hE := row_fresh hE hg89 (Nat.le_trans hz18 (by omega))
 have hb8 := kb hg89 hb8 (by omega)
 have hA16 := row_fresh hA16 hg89 (Nat.le_trans (Nat.le_refl _) (by omega))
 clear hA29
 have hb36l := kb hg89 hb36l (by omega)
 clear hb20
 have hb20 := hb88; clear hb88
 have hl91 := bl hb20
 refine oA rfl (oZ (tN (hK86 _ _ (wpF_ret (postF_ret (fn := Tryd.f31) _ rfl [AB (pre s i), .bool (true)] (.tuple #[AB (pre s i), .bool (true)]) rfl ⟨ResF.row T2 hb20 wr49_ty26 rfl (by rw [List.size_toArray, Lib.byteCells_length]; first | (rw [List.length_replicate]; exact wr49_isz26) | (rw [pre_length _ _ (by omega)]; exact wr49_isz26)), rfl, trivial⟩ ?_)))))
 refine ⟨?_, hE⟩
 rw [hun]

open Go.RowKit
set_option maxRecDepth 100000
theorem bcmp {vx vy : Value} {x y : Bs} {w : World} (hx : RB w vx x) (hy : RB w vy y) : (callFunc 93 #[vx, vy]).run Tryd.prog w = .ok (.value (.int .i64 (Lib.compareBytes x y))) w := by
 rw [run_callFunc_extern (e := Extern.BytealgCompare.compare) Tryd.func93 (by kernel_rfl) (by kernel_rfl) (by kernel_rfl) (by kernel_rfl), run_compareRB hx hy]
 rfl
theorem pk4_ty26 : Tryd.prog.underlying 26 = some (.array 32 5) := by kernel_rfl
theorem pk4_sz5 : ∀ w' : World, (sizeOf 5).run Tryd.prog w' = .ok 1 w' := fun _ => by kernel_rfl
theorem pk4_pl79 : Plain Tryd.prog 79 := fun _ _ => by kernel_rfl
theorem bytesCompare_any (w : World) (vx vy : Value) (x y : Bs) (hx : RB w vx x) (hy : RB w vy y) :
  Calls Tryd.prog 79 #[vx, vy] w fun e w' => e = .returned (.int .i64 (Lib.compareBytes x y)) ∧ Ext w w' := by
 refine calls_of_wpF (args := [vx, vy]) Tryd.func79 rfl 8 rfl (Nat.le_of_ble_eq_true rfl) ?_
 intro ρ0 hb
 have T0 : ρ0 0 = (vx : Value) := hb.get 0
 have T1 : ρ0 1 = (vy : Value) := hb.get 1
 clear hb
 have hE := Ext.refl w
 refine sk fun K1 hK1 => (wt (oA rfl (oZ (tN (hK1 _ _ (sk fun K2 hK2 => (wt (oM rfl (oM rfl (oS rfl (Yk.extern2 T0 T1 (bcmp (hx.keep hE) (hy.keep hE)) (oA rfl (oZ (tN (hK2 _ _ (wpF_ret (postF_ret (fn := Tryd.f79) _ rfl [.int .i64 (Lib.compareBytes x y : Int)] (.int .i64 (Lib.compareBytes x y : Int)) rfl ⟨rfl, trivial⟩ ?_)))))))))))))))))
 exact ⟨rfl, hE⟩

theorem compare_any (w : World) (x y : Bs) (hxl : x.length = 32) (hyl : y.length = 32) :
  Calls Tryd.prog 71 #[AB x, AB y] w fun e w' => e = .returned (.int .i64 (Lib.compareBytes x y)) ∧ Ext w w' := by
 refine calls_of_wpF (args := [AB x, AB y]) Tryd.func71 rfl 8 rfl (Nat.le_of_ble_eq_true rfl) ?_
 intro ρ0 hb
 have T0 : ρ0 0 = (AB x : Value) := hb.get 0
 have T1 : ρ0 1 = (AB y : Value) := hb.get 1
 clear hb
 have hE := Ext.refl w
 refine sk fun K1 hK1 => (wt (oS rfl (Yk.box (cs := (Lib.byteCells x : List Value).toArray) T0 fun n2 w3 hn4 hb5 hx6 hs7 => ?_)))
 have hE := hE.trans hx6
 have hb8 := hb5; clear hb5
 have hl9 : n2 < w3.heap.size := by omega
 refine oS rfl (Yk.box (cs := (Lib.byteCells y : List Value).toArray) T1 fun n10 w11 hn12 hb13 hx14 hs15 => ?_)
 have hA16 := Ext.refl w3
 have hea17 := hE
 have hz18 := hE.size
 have hlt19 := lte (bl hb8) hn12
 have hE := hE.trans hx14
 have hb8 := eb hx14 hb8
 have hA16 := hA16.trans hx14
 have hb20 := hb13; clear hb13
 have hl21 : n10 < w11.heap.size := by omega
 refine oA rfl (oZ (tN (hK1 _ _ (sk fun K22 hK22 => ?_))))
 refine wpF_draw [Is (.slice (some ⟨n2, 0, none⟩) 32 32), Is (.slice (some ⟨n10, 0, none⟩) 32 32), Is (.int .i64 (Lib.compareBytes x y : Int)), Is (.int .i64 (Lib.compareBytes x y : Int))] (by kernel_rfl) [5, 6, 7, 4] (by kernel_rfl) (by kernel_rfl) (si4 trivial) ?hs1001 ?hQ1001
 case hs1001 =>
  refine ⟨?_, ?_, ?_, ?_, trivial⟩
  ·refine stepN rfl fun σ w1 hC h => ?_
   have e2 : σ 2 = PQ n2 0 := (eqo (h 2 (by decide))).trans rfl
   exact Yk.sliceArr pk4_ty26 pk4_sz5 e2 ⟨Ext.refl _, rfl⟩
  ·refine stepN rfl fun σ w1 hC h => ?_
   have e3 : σ 3 = PQ n10 0 := (eqo (h 3 (by decide))).trans rfl
   exact Yk.sliceArr pk4_ty26 pk4_sz5 e3 ⟨Ext.refl _, rfl⟩
  ·refine stepN rfl fun σ w1 hC h => ?_
   have e5 := eqo (h 5 (by decide))
   have e6 := eqo (h 6 (by decide))
   refine Yk.callA2 pk4_pl79 e5 e6 ((bytesCompare_any _ _ _ x y (RB.ofBlkN (eb hC hb8) hxl (by decide)) (RB.ofBlkN (eb hC hb20) hyl (by decide))).mono ?_)
   rintro e w2 ⟨rfl, hx⟩
   exact ⟨_, rfl, hx, rfl⟩
  ·refine stepN rfl fun σ w1 hC h => ?_
   have e7 := eqo (h 7 (by decide))
   exact Yk.assign e7 ⟨Ext.refl _, rfl⟩
 intro ρ23 w24 hx25 he hf
 obtain ⟨-, -, -, k4, -⟩ := hf
 obtain ⟨T0, T1, T2, T3, -⟩ := he.hold [(0, _), (1, _), (2, PQ n2 0), (3, PQ n10 0)] ⟨T0, T1, rfl, rfl, trivial⟩ rfl
 clear he
 have hE := hE.trans hx25
 have hb8 := eb hx25 hb8
 have hA16 := hA16.trans hx25
 have hb20 := eb hx25 hb20
 have T4 : ρ23 4 = .int .i64 (Lib.compareBytes x y : Int) := k4
 clear k4
 refine tN (hK22 _ _ (wpF_ret (postF_ret (fn := Tryd.f71) _ rfl [.int .i64 (Lib.compareBytes x y : Int)] (.int .i64 (Lib.compareBytes x y : Int)) rfl ⟨T4, trivial⟩ ?_)))
 exact ⟨rfl, hE⟩
open Go.RowKit
set_option maxRecDepth 100000
theorem pk6_ty31 : Tryd.prog.underlying 31 = some (.slice 26) := by kernel_rfl
theorem pk6_ig26 : ∃ z, (Tryd.prog.info? 26).map (fun i => (i.zero, i.size, i.bytes)) = some (some z, 32, 32) ∧ z.cells.size = 32 := info_ex (by kernel_rfl)
theorem pk6_szg26 : ∀ w' : World, (sizeOf 26).run Tryd.prog w' = .ok 32 w' := fun _ => by kernel_rfl
theorem pk6_pl70 : Plain Tryd.prog 70 := fun _ _ => by kernel_rfl
theorem pk6_ty26 : Tryd.prog.underlying 26 = some (.array 32 5) := by kernel_rfl
theorem pk6_isz26 : (Tryd.prog.info? 26).map (·.size) = some 32 := by kernel_rfl
theorem pk6_pl71 : Plain Tryd.prog 71 := fun _ _ => by kernel_rfl
theorem pk6_lh31 (c0 c1 c2 c3 c4 c5 c6 c7 c8 c9 c10 c11 c12 c13 c14 c15 c16 c17 c18 c19 c20 c21 c22 c23 c24 c25 c26 c27 c28 c29 c30 c31 : Value) (w : World) : (Instr.buildSlice 31 1 #[(0, .agg #[c0, c1, c2, c3, c4, c5, c6, c7, c8, c9, c10, c11, c12, c13, c14, c15, c16, c17, c18, c19, c20, c21, c22, c23, c24, c25, c26, c27, c28, c29, c30, c31])]).run Tryd.prog w = .ok (.slice (some ⟨w.heap.size, 0, none⟩) 1 1) (w.alloc (.cells #[c0, c1, c2, c3, c4, c5, c6, c7, c8, c9, c10, c11, c12, c13, c14, c15, c16, c17, c18, c19, c20, c21, c22, c23, c24, c25, c26, c27, c28, c29, c30, c31] 26)) := by kernel_rfl
theorem pk6_lg31 : ∀ (cs : Array Value), cs.size = 32 → ∀ w : World, (Instr.buildSlice 31 1 #[(0, .agg cs)]).run Tryd.prog w = .ok (.slice (some ⟨w.heap.size, 0, none⟩) 1 1) (w.alloc (.cells cs 26))
 | ⟨[c0, c1, c2, c3, c4, c5, c6, c7, c8, c9, c10, c11, c12, c13, c14, c15, c16, c17, c18, c19, c20, c21, c22, c23, c24, c25, c26, c27, c28, c29, c30, c31]⟩, _, w => pk6_lh31 c0 c1 c2 c3 c4 c5 c6 c7 c8 c9 c10 c11 c12 c13 c14 c15 c16 c17 c18 c19 c20 c21 c22 c23 c24 c25 c26 c27 c28 c29 c30 c31 w
theorem merge_step (n : Nat) (ih : ∀ l : List Bs, l.length < n → ∀ (w : World) (v : Value), RG 32 Lib.byteCells w v l → Calls Tryd.prog 70 #[v, .func (.func 71) #[] #[]] w fun e w' => ∃ v' m, e = .returned v' ∧ OG w.heap.size 26 32 Lib.byteCells w' v' m ∧ m.Perm l ∧ Asc m ∧ Ext w w') (l : List Bs) (hn : l.length = n) (hlim : l.length ≤ 1048576) (w : World) (v : Value) (hr : RG 32 Lib.byteCells w v l) :
  Calls Tryd.prog 70 #[v, .func (.func 71) #[] #[]] w fun e w' => ∃ v' m, e = .returned v' ∧ OG w.heap.size 26 32 Lib.byteCells w' v' m ∧ m.Perm l ∧ Asc m ∧ Ext w w' := by
 refine calls_of_wpF (args := [v, .func (.func 71) #[] #[]]) Tryd.func70 rfl 68 rfl (Nat.le_of_ble_eq_true rfl) ?_
 intro ρ0 hb
 have T0 : ρ0 0 = (v : Value) := hb.get 0
 have T1 : ρ0 1 = (.func (.func 71) #[] #[] : Value) := hb.get 1
 clear hb
 have hE := Ext.refl w
 refine sk fun K1 hK1 => (wt (oA rfl (oZ (tN (hK1 _ _ (sk fun K2 hK2 => (sk fun K3 hK3 => (wt (oM rfl (oS rfl (Yk.lenRG pk6_ty31 (RG.of hr T0) (oS rfl (Yk.eqI (a := (l.length : Nat)) (b := (2 : Nat)) rfl rfl (k_lss _ _ _ _) (oZ (tN (hK3 _ _ ?_))))))))))))))))
 refine wpF_cond ((l.length) < (2)) (vr (.bool (decide ((l.length) < (2)))) rfl) (fun hc0 => ?_) (fun hc0 => ?_)
 ·refine sk fun K4 hK4 => (wt (oM rfl (oS rfl (Yk.appendRG _ _ w.heap.size _ 32 pk6_ty31 pk6_ig26.choose_spec.1 pk6_ig26.choose_spec.2 pk6_ty31 ([]) (l) (RG.nilOwn _ _ _) (RG.of hr T0) (fun _ _ => byteCells_one _) (by simp only [List.length_nil]; omega) (by simp only [List.length_nil]; omega) hE.size fun v5 w6 ho7 hg8 => ?_))))
  have hg8 : Grew w w6 (.slice none 0 0) v5 := hg8
  have hx_ : Ext w w6 := Ext.of (by have := hg8.by_; exact this)
  have hE := hE.trans hx_
  refine oA rfl (oZ (tN (hK4 _ _ (wpF_ret (thenF_ret (postF_ret (fn := Tryd.f70) _ rfl [v5] (v5) rfl ⟨rfl, trivial⟩ ?_))))))
  exact ⟨_, l, rfl, OG.base (og_eq ho7 (List.nil_append l)) (by omega), List.Perm.refl _, asc_short hc0, hE⟩
 refine wpF_skip (tN (hK2 _ _ (sk fun K9 hK9 => ?_)))
 refine wpF_draw [Is (v), Is (v), Is (NI l.length), Is (NI ((l.length) / (2))), fun x _ => RG 32 (Lib.byteCells) w x (l.take ((l.length) / (2))), Is (.func (.func 71) #[] #[]), fun x w' => ∃ m, RG 32 Lib.byteCells w' x m ∧ m.Perm (l.take ((l.length) / (2))) ∧ Asc m, Is (v), Is (v), Is (NI l.length), Is (NI ((l.length) / (2))), fun x _ => RG 32 (Lib.byteCells) w x (l.drop ((l.length) / (2))), Is (.func (.func 71) #[] #[]), fun x w' => ∃ m, RG 32 Lib.byteCells w' x m ∧ m.Perm (l.drop ((l.length) / (2))) ∧ Asc m, fun x w' => ∃ m, RG 32 Lib.byteCells w' x m ∧ m.Perm (l.take ((l.length) / (2))) ∧ Asc m, fun x w' => ∃ m, RG 32 Lib.byteCells w' x m ∧ m.Perm (l.drop ((l.length) / (2))) ∧ Asc m] (by kernel_rfl) [13, 14, 15, 16, 17, 18, 19, 20, 21, 22, 23, 24, 25, 26, 5, 6] (by kernel_rfl) (by kernel_rfl) (si4 ⟨(fun _ _ _ h _ => h), Stab.is _, (fun _ _ _ ⟨m, h1, h2⟩ k => ⟨m, h1.keep k, h2⟩), (si4 ⟨(fun _ _ _ h _ => h), Stab.is _, (fun _ _ _ ⟨m, h1, h2⟩ k => ⟨m, h1.keep k, h2⟩), (fun _ _ _ ⟨m, h1, h2⟩ k => ⟨m, h1.keep k, h2⟩), (fun _ _ _ ⟨m, h1, h2⟩ k => ⟨m, h1.keep k, h2⟩), trivial⟩)⟩) ?hs1003 ?hQ1003
 case hs1003 =>
  refine ⟨?_, ?_, ?_, ?_, ?_, ?_, ?_, ?_, ?_, ?_, ?_, ?_, ?_, ?_, ?_, ?_, trivial⟩
  ·refine stepN rfl fun σ w1 hC h => ?_
   have e0 := (eqo (h 0 (by decide))).trans T0
   exact Yk.move e0 ⟨Ext.refl _, rfl⟩
  ·refine stepN rfl fun σ w1 hC h => ?_
   have e0 := (eqo (h 0 (by decide))).trans T0
   exact Yk.move e0 ⟨Ext.refl _, rfl⟩
  ·refine stepN rfl fun σ w1 hC h => ?_
   have e14 := eqo (h 14 (by decide))
   exact Yk.lenRG pk6_ty31 (RG.of (hr.keep hC) e14) ⟨Ext.refl _, rfl⟩
  ·refine stepN rfl fun σ w1 hC h => ?_
   have e15 := eqo (h 15 (by decide))
   exact Yk.bin (xv := NI l.length) (yv := NI 2) e15 rfl rfl (i64_quo _ _ _ (by omega) (by omega)) ⟨Ext.refl _, rfl⟩
  ·refine stepN rfl fun σ w1 hC h => ?_
   have e13 := eqo (h 13 (by decide))
   have e16 := eqo (h 16 (by decide))
   exact Yk.sliceHiW pk6_ty31 pk6_szg26 e13 hr e16 (by omega) fun v h _ => ⟨Ext.refl _, h⟩
  ·refine stepN rfl fun σ w1 hC h => ?_
   have e1 := (eqo (h 1 (by decide))).trans T1
   exact Yk.move e1 ⟨Ext.refl _, rfl⟩
  ·refine stepN rfl fun σ w1 hC h => ?_
   have e17 : (fun x _ => RG 32 (Lib.byteCells) w x (l.take ((l.length) / (2)))) (σ 17) w1 := h 17 (by decide)
   have e18 := eqo (h 18 (by decide))
   refine Yk.callA2 pk6_pl70 rfl e18 ((ih (l.take ((l.length) / (2))) (by have hlen_ := List.length_take_le (l.length / 2) l; first | (simp only [List.length_take]; omega) | (simp only [List.length_drop]; omega)) _ _ (RG.keep e17 hC)).mono ?_)
   rintro e w2 ⟨_, m, rfl, h1, h2, h3, h4⟩
   exact ⟨_, rfl, h4, m, RG.ofOwn h1, h2, h3⟩
  ·refine stepN rfl fun σ w1 hC h => ?_
   have e0 := (eqo (h 0 (by decide))).trans T0
   exact Yk.move e0 ⟨Ext.refl _, rfl⟩
  ·refine stepN rfl fun σ w1 hC h => ?_
   have e0 := (eqo (h 0 (by decide))).trans T0
   exact Yk.move e0 ⟨Ext.refl _, rfl⟩
  ·refine stepN rfl fun σ w1 hC h => ?_
   have e21 := eqo (h 21 (by decide))
   exact Yk.lenRG pk6_ty31 (RG.of (hr.keep hC) e21) ⟨Ext.refl _, rfl⟩
  ·refine stepN rfl fun σ w1 hC h => ?_
   have e22 := eqo (h 22 (by decide))
   exact Yk.bin (xv := NI l.length) (yv := NI 2) e22 rfl rfl (i64_quo _ _ _ (by omega) (by omega)) ⟨Ext.refl _, rfl⟩
  ·refine stepN rfl fun σ w1 hC h => ?_
   have e20 := eqo (h 20 (by decide))
   have e23 := eqo (h 23 (by decide))
   exact Yk.sliceLoW pk6_ty31 pk6_szg26 e20 hr e23 (by omega) fun v h _ => ⟨Ext.refl _, h⟩
  ·refine stepN rfl fun σ w1 hC h => ?_
   have e1 := (eqo (h 1 (by decide))).trans T1
   exact Yk.move e1 ⟨Ext.refl _, rfl⟩
  ·refine stepN rfl fun σ w1 hC h => ?_
   have e24 : (fun x _ => RG 32 (Lib.byteCells) w x (l.drop ((l.length) / (2)))) (σ 24) w1 := h 24 (by decide)
   have e25 := eqo (h 25 (by decide))
   refine Yk.callA2 pk6_pl70 rfl e25 ((ih (l.drop ((l.length) / (2))) (by have hlen_ := List.length_take_le (l.length / 2) l; first | (simp only [List.length_take]; omega) | (simp only [List.length_drop]; omega)) _ _ (RG.keep e24 hC)).mono ?_)
   rintro e w2 ⟨_, m, rfl, h1, h2, h3, h4⟩
   exact ⟨_, rfl, h4, m, RG.ofOwn h1, h2, h3⟩
  ·refine stepN rfl fun σ w1 hC h => ?_
   have e19 : (fun x w' => ∃ m, RG 32 Lib.byteCells w' x m ∧ m.Perm (l.take ((l.length) / (2))) ∧ Asc m) (σ 19) w1 := h 19 (by decide)
   exact Yk.assign rfl ⟨Ext.refl _, e19⟩
  ·refine stepN rfl fun σ w1 hC h => ?_
   have e26 : (fun x w' => ∃ m, RG 32 Lib.byteCells w' x m ∧ m.Perm (l.drop ((l.length) / (2))) ∧ Asc m) (σ 26) w1 := h 26 (by decide)
   exact Yk.assign rfl ⟨Ext.refl _, e26⟩
 intro ρ10 w11 hx12 he hf
 obtain ⟨-, -, -, -, -, -, -, -, -, -, -, -, -, -, k5, k6, -⟩ := hf
 obtain ⟨T0, T1, T4, -⟩ := he.hold [(0, _), (1, _), (4, (Value.slice none 0 0))] ⟨T0, T1, rfl, trivial⟩ rfl
 clear he
 have hr := hr.keep hx12
 have hE := hE.trans hx12
 have k5 : (fun x w' => ∃ m, RG 32 Lib.byteCells w' x m ∧ m.Perm (l.take ((l.length) / (2))) ∧ Asc m) (ρ10 5) w11 := k5
 obtain ⟨v13, T5⟩ : ∃ v, ρ10 5 = v := ⟨_, rfl⟩
 rw [T5] at k5
 have hk14 := k5; clear k5
 obtain ⟨A, hr15, hp16, ha17⟩ := hk14
 have k6 : (fun x w' => ∃ m, RG 32 Lib.byteCells w' x m ∧ m.Perm (l.drop ((l.length) / (2))) ∧ Asc m) (ρ10 6) w11 := k6
 obtain ⟨v18, T6⟩ : ∃ v, ρ10 6 = v := ⟨_, rfl⟩
 rw [T6] at k6
 have hk19 := k6; clear k6
 obtain ⟨B, hr20, hp21, ha22⟩ := hk19
 refine tN (hK9 _ _ (sk fun K23 hK23 => (wt (oM rfl (oS rfl (Yk.lenRG pk6_ty31 (RG.of hr T0) ?_))))))
 have hA28 := Ext.refl w11
 have hea29 := hE
 have hz30 := hE.size
 refine oS rfl (Yk.makeG (enc := Lib.byteCells) w11.heap.size _ 32 pk6_ty31 pk6_ig26.choose_spec.1 (vr (NI 0) rfl) (vr (NI l.length) rfl) (by omega) (by omega) (Nat.le_refl _) fun v24 w25 ho26 hx27 => ?_)
 have hE := hE.trans hx27
 have hA28 := hA28.trans hx27
 refine oA rfl (oL_ [(0, v), (1, .func (.func 71) #[] #[]), (4, (Value.slice none 0 0)), (5, v13), (6, v18), (7, v24)] ⟨T0, T1, T4, T5, T6, rfl, trivial⟩ fun ρ31 ⟨T0, T1, T4, T5, T6, T7, _⟩ => (tN (hK23 _ _ (sk fun K32 hK32 => (wpF_block (wpF_loop (fun (ρ : Slots) (wz : World) => ∃ va : Value, ∃ vb : Value, ∃ Al : List Bs, ∃ Bl : List Bs, ∃ Ol : List Bs, ∃ vo : Value, ρ 0 = (v : Value) ∧ ρ 1 = (.func (.func 71) #[] #[] : Value) ∧ ρ 4 = ((Value.slice none 0 0) : Value) ∧ ρ 5 = (va : Value) ∧ ρ 6 = (vb : Value) ∧ ρ 7 = (vo : Value) ∧ Ext w wz ∧ Ext w11 wz ∧ RG 32 Lib.byteCells w11 va Al ∧ RG 32 Lib.byteCells w11 vb Bl ∧ OG w11.heap.size 26 32 (Lib.byteCells) wz vo Ol ∧ (MI l Ol Al Bl) ∧ True) (fun ρ _ => sliceLen (ρ 5) + sliceLen (ρ 6)) ⟨v13, v18, A, B, [], v24, T0, T1, T4, T5, T6, T7, hE, hA28, hr15, hr20, ho26, MI.start hp16 hp21 ha17 ha22, trivial⟩ ?_))))))
 clear ho26
 clear hE hA28
 rintro ρ33 w34 ⟨va, vb, Al, Bl, Ol, vo, T0, T1, T4, T5, T6, T7, hE, hA28, hfa, hfb, hfo, hMI, -⟩
 have q5 := T5
 have q6 := T6
 have qa := hfa.sliceLen
 have qb := hfb.sliceLen
 have hla := hMI.perm.length_eq
 simp only [List.length_append] at hla
 by_cases hga : 0 < Al.length
 ·by_cases hgb : 0 < Bl.length
  ·refine sk fun K35 hK35 => (sk fun K36 hK36 => (wt (oM rfl (oS rfl (Yk.lenRG pk6_ty31 (RG.of (hfa.keep hA28) T5) (oS rfl (Yk.eqI (a := (Al.length : Nat)) (b := (0 : Nat)) rfl rfl (k_gtr _ _ _ _) (oM rfl (oY (d := 33) rfl rfl (vr (.bool (true)) (congrArg Value.bool (decide_eq_true (hga)))) (Yk.move T6 (oY (d := 33) rfl rfl (vr (.bool (true)) (congrArg Value.bool (decide_eq_true (hga)))) (Yk.lenRG pk6_ty31 (RG.of (hfb.keep hA28) (vr vb rfl)) (oY (d := 33) rfl rfl (vr (.bool (true)) (congrArg Value.bool (decide_eq_true (hga)))) (Yk.eqI (a := (Bl.length : Nat)) (b := (0 : Nat)) rfl rfl (k_gtr _ _ _ _) (oS rfl (Yk.pickT (vr (.bool (true)) (congrArg Value.bool (decide_eq_true (hga)))) (vr (.bool (true)) (congrArg Value.bool (decide_eq_true (hgb)))) (oZ (tN (hK36 _ _ (wpF_true (vr (.bool (true)) rfl) (wpF_skip (tN (hK35 _ _ ?_)))))))))))))))))))))))
   refine wpF_block (sk fun K37 hK37 => ?_)
   refine wpF_draw [Is (.func (.func 71) #[] #[]), Is (va), fun x w' => PR (Lib.byteCells (Al.getD (0) ([] : List UInt8))) x w', Is (AB (Al.getD (0) ([] : List UInt8))), Is (vb), fun x w' => PR (Lib.byteCells (Bl.getD (0) ([] : List UInt8))) x w', Is (AB (Bl.getD (0) ([] : List UInt8))), Is (.int .i64 (Lib.compareBytes (Al.getD (0) ([] : List UInt8)) (Bl.getD (0) ([] : List UInt8)) : Int)), Is (.bool (decide ((Lib.compareBytes (Al.getD (0) ([] : List UInt8)) (Bl.getD (0) ([] : List UInt8)) : Int) ≤ ((0 : Nat) : Int))))] (by kernel_rfl) [38, 39, 40, 41, 42, 43, 44, 45, 46] (by kernel_rfl) (by kernel_rfl) (si2 ⟨(fun _ _ _ h k => PR.keep h k), (si2 ⟨(fun _ _ _ h k => PR.keep h k), (si3 trivial)⟩)⟩) ?hs2006 ?hQ2006
   case hs2006 =>
    refine ⟨?_, ?_, ?_, ?_, ?_, ?_, ?_, ?_, ?_, trivial⟩
    ·refine stepN rfl fun σ w1 hC h => ?_
     have e1 := (eqo (h 1 (by decide))).trans T1
     exact Yk.move e1 ⟨Ext.refl _, rfl⟩
    ·refine stepN rfl fun σ w1 hC h => ?_
     have e5 := (eqo (h 5 (by decide))).trans T5
     exact Yk.move e5 ⟨Ext.refl _, rfl⟩
    ·refine stepN rfl fun σ w1 hC h => ?_
     have e39 := eqo (h 39 (by decide))
     exact Yk.atRG pk6_ty31 pk6_szg26 (by decide) ([] : List UInt8) (RG.of (hfa.keep (hA28.trans hC)) e39) (vr (NI 0) rfl) (by omega) fun v h => ⟨Ext.refl _, h⟩
    ·refine stepN rfl fun σ w1 hC h => ?_
     have e40 : (fun x w' => PR (Lib.byteCells (Al.getD (0) ([] : List UInt8))) x w') (σ 40) w1 := h 40 (by decide)
     exact Yk.loadPR e40 pk6_ty26 rfl (by rw [RG.elem hfa ([] : List UInt8) (by omega)]; exact pk6_isz26) ⟨Ext.refl _, rfl⟩
    ·refine stepN rfl fun σ w1 hC h => ?_
     have e6 := (eqo (h 6 (by decide))).trans T6
     exact Yk.move e6 ⟨Ext.refl _, rfl⟩
    ·refine stepN rfl fun σ w1 hC h => ?_
     have e42 := eqo (h 42 (by decide))
     exact Yk.atRG pk6_ty31 pk6_szg26 (by decide) ([] : List UInt8) (RG.of (hfb.keep (hA28.trans hC)) e42) (vr (NI 0) rfl) (by omega) fun v h => ⟨Ext.refl _, h⟩
    ·refine stepN rfl fun σ w1 hC h => ?_
     have e43 : (fun x w' => PR (Lib.byteCells (Bl.getD (0) ([] : List UInt8))) x w') (σ 43) w1 := h 43 (by decide)
     exact Yk.loadPR e43 pk6_ty26 rfl (by rw [RG.elem hfb ([] : List UInt8) (by omega)]; exact pk6_isz26) ⟨Ext.refl _, rfl⟩
    ·refine stepN rfl fun σ w1 hC h => ?_
     have e38 := eqo (h 38 (by decide))
     have e41 := eqo (h 41 (by decide))
     have e44 := eqo (h 44 (by decide))
     refine Yk.clo pk6_pl71 (caps := #[]) e38 #[AB (Al.getD (0) ([] : List UInt8)), AB (Bl.getD (0) ([] : List UInt8))] (by simp only [List.map_toArray, List.map_cons, List.map_nil, List.append_toArray, List.cons_append, List.nil_append]; exact congrArg List.toArray (list2 e41 e44)) ((compare_any _ (Al.getD (0) ([] : List UInt8)) (Bl.getD (0) ([] : List UInt8)) ((bytes_len32 (RG.elem hfa ([] : List UInt8) (by omega)))) ((bytes_len32 (RG.elem hfb ([] : List UInt8) (by omega))))).mono ?_)
     rintro e w2 ⟨rfl, hx⟩
     exact ⟨_, rfl, hx, rfl⟩
    ·refine stepN rfl fun σ w1 hC h => ?_
     have e45 := eqo (h 45 (by decide))
     exact Yk.eqI e45 (vr (NI 0) rfl) (z_leq _ .i64 (Lib.compareBytes (Al.getD (0) ([] : List UInt8)) (Bl.getD (0) ([] : List UInt8)) : Int) ((0 : Nat) : Int)) ⟨Ext.refl _, rfl⟩
   intro ρ38 w39 hx40 he hf
   obtain ⟨-, -, -, -, -, -, -, -, k46, -⟩ := hf
   obtain ⟨T0, T1, T4, T5, T6, T7, T37, -⟩ := he.hold [(0, _), (1, _), (4, _), (5, _), (6, _), (7, _), (37, .bool (true))] ⟨T0, T1, T4, T5, T6, T7, rfl, trivial⟩ rfl
   clear he
   have hE := hE.trans hx40
   have hA28 := hA28.trans hx40
   have hfo := hfo.keep hx40
   have T46 : ρ38 46 = .bool (decide ((Lib.compareBytes (Al.getD (0) ([] : List UInt8)) (Bl.getD (0) ([] : List UInt8)) : Int) ≤ ((0 : Nat) : Int))) := k46
   clear k46
   refine tN (hK37 _ _ ?_)
   refine wpF_cond ((Lib.compareBytes (Al.getD (0) ([] : List UInt8)) (Bl.getD (0) ([] : List UInt8)) : Int) ≤ ((0 : Nat) : Int)) T46 (fun hc2 => ?_) (fun hc2 => ?_)
   ·have hlow41 : ∀ k, Value.ownBlock vo = some k → w11.heap.size ≤ k := fun k hk => (hfo.2.lt k hk).1
    have hsz_ : w11.heap.size ≤ w39.heap.size := hA28.size
    refine wpF_draw_rowsX (Value.ownBlock vo) [5] [0] (fun m => if m = 5 then [0, 2, 4] else []) (fun m => if m = 5 then [0, 2, 4, 5, 8] else []) [fun x w' => RowG w11.heap.size w39.heap.size 26 32 (Lib.byteCells) (Value.ownBlock vo) (Ol) x w', Is (va), fun x w' => PR (Lib.byteCells (Al.getD (0) ([] : List UInt8))) x w', Is (AB (Al.getD (0) ([] : List UInt8))), fun x w' => RG 32 (Lib.byteCells) w' x ([(Al.getD (0) ([] : List UInt8))]), fun x w' => RowG w11.heap.size w39.heap.size 26 32 (Lib.byteCells) (Value.ownBlock vo) ((Ol) ++ [(Al.getD (0) ([] : List UInt8))]) x w', Is (va), fun x _ => RG 32 (Lib.byteCells) w11 x (Al.drop (1)), fun x w' => RowG w11.heap.size w39.heap.size 26 32 (Lib.byteCells) (Value.ownBlock vo) ((Ol) ++ [(Al.getD (0) ([] : List UInt8))]) x w', fun x _ => RG 32 (Lib.byteCells) w11 x (Al.drop (1))] (by kernel_rfl) [47, 48, 49, 50, 51, 52, 53, 54, 7, 5] (by kernel_rfl) (by kernel_rfl) (by kernel_rfl) (by kernel_rfl) (by kernel_rfl) rfl ⟨(fun _ _ _ h k => ⟨OG.keep h.1 k, h.2⟩), Stab.is _, (fun _ _ _ h k => PR.keep h k), Stab.is _, (fun _ _ _ h k => RG.keep h k), (fun _ _ _ h k => ⟨OG.keep h.1 k, h.2⟩), Stab.is _, (fun _ _ _ h _ => h), (fun _ _ _ h k => ⟨OG.keep h.1 k, h.2⟩), (fun _ _ _ h _ => h), trivial⟩ ⟨⟨.inl rfl, .inr (Stab.is _), .inl rfl, .inr (Stab.is _), .inl rfl, .inl rfl, .inr (Stab.is _), .inr ((fun _ _ _ h _ => h)), .inl rfl, .inr ((fun _ _ _ h _ => h)), trivial⟩, trivial⟩ ?hs3007 ?hQ3007
    case hs3007 =>
     refine ⟨?_, ?_, ?_, ?_, ?_, ?_, ?_, ?_, ?_, ?_, trivial⟩
     ·refine stepN rfl fun σ w1 hC h => ?_
      have hX : Ext w39 w1 := hC
      have hC : BX w39.heap.size (Value.ownBlock vo) w39 w1 := BX.ofExt hX (Nat.le_refl _)
      have e7 := (eqo (h 7 (by decide))).trans T7
      exact Yk.move e7 ⟨Ext.refl _, OG.keep hfo hX, fun k hk => .inl hk⟩
     ·refine stepN rfl fun σ w1 hC h => ?_
      have hC : BX w39.heap.size (Value.ownBlock vo) w39 w1 := hC
      have e5 := (eqo (h 5 (by decide))).trans T5
      exact Yk.move e5 ⟨Ext.refl _, rfl⟩
     ·refine stepN rfl fun σ w1 hC h => ?_
      have hC : BX w39.heap.size (Value.ownBlock vo) w39 w1 := hC
      have e48 := eqo (h 48 (by decide))
      exact Yk.atRG pk6_ty31 pk6_szg26 (by decide) ([] : List UInt8) (RG.of (hfa.keep (ext_bx hA28 hC (by omega) (fun k hk => by have := hlow41 k hk; omega))) e48) (vr (NI 0) rfl) (by omega) fun v h => ⟨Ext.refl _, h⟩
     ·refine stepN rfl fun σ w1 hC h => ?_
      have hC : BX w39.heap.size (Value.ownBlock vo) w39 w1 := hC
      have e49 : (fun x w' => PR (Lib.byteCells (Al.getD (0) ([] : List UInt8))) x w') (σ 49) w1 := h 49 (by decide)
      exact Yk.loadPR e49 pk6_ty26 rfl (by rw [RG.elem hfa ([] : List UInt8) (by omega)]; exact pk6_isz26) ⟨Ext.refl _, rfl⟩
     ·refine stepN rfl fun σ w1 hC h => ?_
      have hC : BX w39.heap.size (Value.ownBlock vo) w39 w1 := hC
      have e50 := eqo (h 50 (by decide))
      exact Yk.lit1G (a := (Al.getD (0) ([] : List UInt8))) (enc := Lib.byteCells) e50 (by rw [Lib.byteCells_length]; exact (bytes_len32 (RG.elem hfa ([] : List UInt8) (by omega)))) pk6_lg31 fun v w2 h hx => ⟨hx, h⟩
     ·refine stepN rfl fun σ w1 hC h => ?_
      have hC : BX w39.heap.size (Value.ownBlock vo) w39 w1 := hC
      have e47 : (fun x w' => RowG w11.heap.size w39.heap.size 26 32 (Lib.byteCells) (Value.ownBlock vo) (Ol) x w') (σ 47) w1 := h 47 (by decide)
      have e51 : (fun x w' => RG 32 (Lib.byteCells) w' x ([(Al.getD (0) ([] : List UInt8))])) (σ 51) w1 := h 51 (by decide)
      exact Yk.appendRG _ _ w11.heap.size _ 32 pk6_ty31 pk6_ig26.choose_spec.1 pk6_ig26.choose_spec.2 pk6_ty31 (Ol) ([(Al.getD (0) ([] : List UInt8))]) e47.1 e51 (fun _ _ => byteCells_one _) (by simp only [List.length_cons, List.length_nil]; omega) (by simp only [List.length_cons, List.length_nil]; omega) (Nat.le_trans hsz_ hC.size) fun v w2 ho hg => ⟨BX.ofGrown hg.by_ hC.size e47.2, ho, fun k hk => (hg.fresh k hk).elim (e47.2 k) (fun x => .inr (Nat.le_trans hC.size x))⟩
     ·refine stepN rfl fun σ w1 hC h => ?_
      have hC : BX w39.heap.size (Value.ownBlock vo) w39 w1 := hC
      have e5 := (eqo (h 5 (by decide))).trans T5
      exact Yk.move e5 ⟨Ext.refl _, rfl⟩
     ·refine stepN rfl fun σ w1 hC h => ?_
      have hC : BX w39.heap.size (Value.ownBlock vo) w39 w1 := hC
      have e53 := eqo (h 53 (by decide))
      exact Yk.sliceLoW pk6_ty31 pk6_szg26 e53 hfa (vr (NI 1) rfl) (by omega) fun v h _ => ⟨Ext.refl _, h⟩
     ·refine stepN rfl fun σ w1 hC h => ?_
      have hC : BX w39.heap.size (Value.ownBlock vo) w39 w1 := hC
      have e52 : (fun x w' => RowG w11.heap.size w39.heap.size 26 32 (Lib.byteCells) (Value.ownBlock vo) ((Ol) ++ [(Al.getD (0) ([] : List UInt8))]) x w') (σ 52) w1 := h 52 (by decide)
      exact Yk.assign rfl ⟨Ext.refl _, e52⟩
     ·refine stepN rfl fun σ w1 hC h => ?_
      have hC : BX w39.heap.size (Value.ownBlock vo) w39 w1 := hC
      have e54 : (fun x _ => RG 32 (Lib.byteCells) w11 x (Al.drop (1))) (σ 54) w1 := h 54 (by decide)
      exact Yk.assign rfl ⟨Ext.refl _, e54⟩
    intro ρ42 w43 hx44 he hf
    obtain ⟨-, -, -, -, -, -, -, -, k7, k5, -⟩ := hf
    obtain ⟨T0, T1, T4, T6, T37, -⟩ := he.hold [(0, _), (1, _), (4, _), (6, _), (37, _)] ⟨T0, T1, T4, T6, T37, trivial⟩ rfl
    clear he
    have k7 : (fun x w' => RowG w11.heap.size w39.heap.size 26 32 (Lib.byteCells) (Value.ownBlock vo) ((Ol) ++ [(Al.getD (0) ([] : List UInt8))]) x w') (ρ42 7) w43 := k7
    obtain ⟨v45, T7⟩ : ∃ v, ρ42 7 = v := ⟨_, rfl⟩
    rw [T7] at k7
    have hg46 : Grew w39 w43 vo v45 := ⟨hx44.grown, k7.2⟩
    have ho47 := k7.1; clear k7
    have hE := ext_grew hE hg46 hfo.2 hz30
    have hA28 := ext_grew hA28 hg46 hfo.2 (Nat.le_refl _)
    clear hfo
    have k5 : (fun x _ => RG 32 (Lib.byteCells) w11 x (Al.drop (1))) (ρ42 5) w43 := k5
    obtain ⟨v48, T5⟩ : ∃ v, ρ42 5 = v := ⟨_, rfl⟩
    rw [T5] at k5
    have hk49 := k5; clear k5
    refine bN (tN (And.intro ⟨v48, vb, Al.drop (1), Bl, (Ol) ++ [(Al.getD (0) ([] : List UInt8))], v45, T0, T1, T4, T5, T6, T7, hE, hA28, hk49, hfb, ho47, hMI.left (by omega) (by omega) hc2, trivial⟩ ?_))
    show sliceLen (ρ42 5) + sliceLen (ρ42 6) < sliceLen (ρ33 5) + sliceLen (ρ33 6)
    rw [T5, T6, q5, q6]
    have n5 := hk49.sliceLen
    have n6 := hfb.sliceLen
    try rw [n5]
    try rw [n6]
    try rw [qa]
    try rw [qb]
    simp only [List.length_drop]
    omega
   have hlow50 : ∀ k, Value.ownBlock vo = some k → w11.heap.size ≤ k := fun k hk => (hfo.2.lt k hk).1
   have hsz_ : w11.heap.size ≤ w39.heap.size := hA28.size
   refine wpF_draw_rowsX (Value.ownBlock vo) [5] [0] (fun m => if m = 5 then [0, 2, 4] else []) (fun m => if m = 5 then [0, 2, 4, 5, 8] else []) [fun x w' => RowG w11.heap.size w39.heap.size 26 32 (Lib.byteCells) (Value.ownBlock vo) (Ol) x w', Is (vb), fun x w' => PR (Lib.byteCells (Bl.getD (0) ([] : List UInt8))) x w', Is (AB (Bl.getD (0) ([] : List UInt8))), fun x w' => RG 32 (Lib.byteCells) w' x ([(Bl.getD (0) ([] : List UInt8))]), fun x w' => RowG w11.heap.size w39.heap.size 26 32 (Lib.byteCells) (Value.ownBlock vo) ((Ol) ++ [(Bl.getD (0) ([] : List UInt8))]) x w', Is (vb), fun x _ => RG 32 (Lib.byteCells) w11 x (Bl.drop (1)), fun x w' => RowG w11.heap.size w39.heap.size 26 32 (Lib.byteCells) (Value.ownBlock vo) ((Ol) ++ [(Bl.getD (0) ([] : List UInt8))]) x w', fun x _ => RG 32 (Lib.byteCells) w11 x (Bl.drop (1))] (by kernel_rfl) [55, 56, 57, 58, 59, 60, 61, 62, 7, 6] (by kernel_rfl) (by kernel_rfl) (by kernel_rfl) (by kernel_rfl) (by kernel_rfl) rfl ⟨(fun _ _ _ h k => ⟨OG.keep h.1 k, h.2⟩), Stab.is _, (fun _ _ _ h k => PR.keep h k), Stab.is _, (fun _ _ _ h k => RG.keep h k), (fun _ _ _ h k => ⟨OG.keep h.1 k, h.2⟩), Stab.is _, (fun _ _ _ h _ => h), (fun _ _ _ h k => ⟨OG.keep h.1 k, h.2⟩), (fun _ _ _ h _ => h), trivial⟩ ⟨⟨.inl rfl, .inr (Stab.is _), .inl rfl, .inr (Stab.is _), .inl rfl, .inl rfl, .inr (Stab.is _), .inr ((fun _ _ _ h _ => h)), .inl rfl, .inr ((fun _ _ _ h _ => h)), trivial⟩, trivial⟩ ?hs4008 ?hQ4008
   case hs4008 =>
    refine ⟨?_, ?_, ?_, ?_, ?_, ?_, ?_, ?_, ?_, ?_, trivial⟩
    ·refine stepN rfl fun σ w1 hC h => ?_
     have hX : Ext w39 w1 := hC
     have hC : BX w39.heap.size (Value.ownBlock vo) w39 w1 := BX.ofExt hX (Nat.le_refl _)
     have e7 := (eqo (h 7 (by decide))).trans T7
     exact Yk.move e7 ⟨Ext.refl _, OG.keep hfo hX, fun k hk => .inl hk⟩
    ·refine stepN rfl fun σ w1 hC h => ?_
     have hC : BX w39.heap.size (Value.ownBlock vo) w39 w1 := hC
     have e6 := (eqo (h 6 (by decide))).trans T6
     exact Yk.move e6 ⟨Ext.refl _, rfl⟩
    ·refine stepN rfl fun σ w1 hC h => ?_
     have hC : BX w39.heap.size (Value.ownBlock vo) w39 w1 := hC
     have e56 := eqo (h 56 (by decide))
     exact Yk.atRG pk6_ty31 pk6_szg26 (by decide) ([] : List UInt8) (RG.of (hfb.keep (ext_bx hA28 hC (by omega) (fun k hk => by have := hlow50 k hk; omega))) e56) (vr (NI 0) rfl) (by omega) fun v h => ⟨Ext.refl _, h⟩
    ·refine stepN rfl fun σ w1 hC h => ?_
     have hC : BX w39.heap.size (Value.ownBlock vo) w39 w1 := hC
     have e57 : (fun x w' => PR (Lib.byteCells (Bl.getD (0) ([] : List UInt8))) x w') (σ 57) w1 := h 57 (by decide)
     exact Yk.loadPR e57 pk6_ty26 rfl (by rw [RG.elem hfb ([] : List UInt8) (by omega)]; exact pk6_isz26) ⟨Ext.refl _, rfl⟩
    ·refine stepN rfl fun σ w1 hC h => ?_
     have hC : BX w39.heap.size (Value.ownBlock vo) w39 w1 := hC
     have e58 := eqo (h 58 (by decide))
     exact Yk.lit1G (a := (Bl.getD (0) ([] : List UInt8))) (enc := Lib.byteCells) e58 (by rw [Lib.byteCells_length]; exact (bytes_len32 (RG.elem hfb ([] : List UInt8) (by omega)))) pk6_lg31 fun v w2 h hx => ⟨hx, h⟩
    ·refine stepN rfl fun σ w1 hC h => ?_
     have hC : BX w39.heap.size (Value.ownBlock vo) w39 w1 := hC
     have e55 : (fun x w' => RowG w11.heap.size w39.heap.size 26 32 (Lib.byteCells) (Value.ownBlock vo) (Ol) x w') (σ 55) w1 := h 55 (by decide)
     have e59 : (fun x w' => RG 32 (Lib.byteCells) w' x ([(Bl.getD (0) ([] : List UInt8))])) (σ 59) w1 := h 59 (by decide)
     exact Yk.appendRG _ _ w11.heap.size _ 32 pk6_ty31 pk6_ig26.choose_spec.1 pk6_ig26.choose_spec.2 pk6_ty31 (Ol) ([(Bl.getD (0) ([] : List UInt8))]) e55.1 e59 (fun _ _ => byteCells_one _) (by simp only [List.length_cons, List.length_nil]; omega) (by simp only [List.length_cons, List.length_nil]; omega) (Nat.le_trans hsz_ hC.size) fun v w2 ho hg => ⟨BX.ofGrown hg.by_ hC.size e55.2, ho, fun k hk => (hg.fresh k hk).elim (e55.2 k) (fun x => .inr (Nat.le_trans hC.size x))⟩
    ·refine stepN rfl fun σ w1 hC h => ?_
     have hC : BX w39.heap.size (Value.ownBlock vo) w39 w1 := hC
     have e6 := (eqo (h 6 (by decide))).trans T6
     exact Yk.move e6 ⟨Ext.refl _, rfl⟩
    ·refine stepN rfl fun σ w1 hC h => ?_
     have hC : BX w39.heap.size (Value.ownBlock vo) w39 w1 := hC
     have e61 := eqo (h 61 (by decide))
     exact Yk.sliceLoW pk6_ty31 pk6_szg26 e61 hfb (vr (NI 1) rfl) (by omega) fun v h _ => ⟨Ext.refl _, h⟩
    ·refine stepN rfl fun σ w1 hC h => ?_
     have hC : BX w39.heap.size (Value.ownBlock vo) w39 w1 := hC
     have e60 : (fun x w' => RowG w11.heap.size w39.heap.size 26 32 (Lib.byteCells) (Value.ownBlock vo) ((Ol) ++ [(Bl.getD (0) ([] : List UInt8))]) x w') (σ 60) w1 := h 60 (by decide)
     exact Yk.assign rfl ⟨Ext.refl _, e60⟩
    ·refine stepN rfl fun σ w1 hC h => ?_
     have hC : BX w39.heap.size (Value.ownBlock vo) w39 w1 := hC
     have e62 : (fun x _ => RG 32 (Lib.byteCells) w11 x (Bl.drop (1))) (σ 62) w1 := h 62 (by decide)
     exact Yk.assign rfl ⟨Ext.refl _, e62⟩
   intro ρ51 w52 hx53 he hf
   obtain ⟨-, -, -, -, -, -, -, -, k7, k6, -⟩ := hf
   obtain ⟨T0, T1, T4, T5, T37, -⟩ := he.hold [(0, _), (1, _), (4, _), (5, _), (37, _)] ⟨T0, T1, T4, T5, T37, trivial⟩ rfl
   clear he
   have k7 : (fun x w' => RowG w11.heap.size w39.heap.size 26 32 (Lib.byteCells) (Value.ownBlock vo) ((Ol) ++ [(Bl.getD (0) ([] : List UInt8))]) x w') (ρ51 7) w52 := k7
   obtain ⟨v54, T7⟩ : ∃ v, ρ51 7 = v := ⟨_, rfl⟩
   rw [T7] at k7
   have hg55 : Grew w39 w52 vo v54 := ⟨hx53.grown, k7.2⟩
   have ho56 := k7.1; clear k7
   have hE := ext_grew hE hg55 hfo.2 hz30
   have hA28 := ext_grew hA28 hg55 hfo.2 (Nat.le_refl _)
   clear hfo
   have k6 : (fun x _ => RG 32 (Lib.byteCells) w11 x (Bl.drop (1))) (ρ51 6) w52 := k6
   obtain ⟨v57, T6⟩ : ∃ v, ρ51 6 = v := ⟨_, rfl⟩
   rw [T6] at k6
   have hk58 := k6; clear k6
   refine bN (tN (And.intro ⟨va, v57, Al, Bl.drop (1), (Ol) ++ [(Bl.getD (0) ([] : List UInt8))], v54, T0, T1, T4, T5, T6, T7, hE, hA28, hfa, hk58, ho56, hMI.right (by omega) (by omega) hc2, trivial⟩ ?_))
   show sliceLen (ρ51 5) + sliceLen (ρ51 6) < sliceLen (ρ33 5) + sliceLen (ρ33 6)
   rw [T5, T6, q5, q6]
   have n5 := hfa.sliceLen
   have n6 := hk58.sliceLen
   try rw [n5]
   try rw [n6]
   try rw [qa]
   try rw [qb]
   simp only [List.length_drop]
   omega
  refine sk fun K59 hK59 => (sk fun K60 hK60 => (wt (oM rfl (oS rfl (Yk.lenRG pk6_ty31 (RG.of (hfa.keep hA28) T5) (oS rfl (Yk.eqI (a := (Al.length : Nat)) (b := (0 : Nat)) rfl rfl (k_gtr _ _ _ _) (oM rfl (oY (d := 33) rfl rfl (vr (.bool (true)) (congrArg Value.bool (decide_eq_true (hga)))) (Yk.move T6 (oY (d := 33) rfl rfl (vr (.bool (true)) (congrArg Value.bool (decide_eq_true (hga)))) (Yk.lenRG pk6_ty31 (RG.of (hfb.keep hA28) (vr vb rfl)) (oY (d := 33) rfl rfl (vr (.bool (true)) (congrArg Value.bool (decide_eq_true (hga)))) (Yk.eqI (a := (Bl.length : Nat)) (b := (0 : Nat)) rfl rfl (k_gtr _ _ _ _) (oS rfl (Yk.pickT (vr (.bool (true)) (congrArg Value.bool (decide_eq_true (hga)))) (vr (.bool (false)) (congrArg Value.bool (decide_eq_false (hgb)))) (oZ (tN (hK60 _ _ (wpF_false (vr (.bool (false)) rfl) (wpF_exit (thenF_exit (thenF_exit (inBlockF_hit (tN (hK32 _ _ ?_))))))))))))))))))))))))))
  refine sk fun K61 hK61 => (wt (oM rfl (oM rfl (oS rfl (Yk.appendRG _ _ w11.heap.size _ 32 pk6_ty31 pk6_ig26.choose_spec.1 pk6_ig26.choose_spec.2 pk6_ty31 (Ol) (Al) (OG.of hfo T7) (RG.of (hfa.keep hA28) T5) (fun _ _ => byteCells_one _) (by omega) (by omega) hA28.size fun v62 w63 ho64 hg65 => ?_)))))
  have hg65 : Grew w34 w63 vo v62 := .eqv T7 hg65
  have hE := ext_grew hE hg65 hfo.2 hz30
  have hA28 := ext_grew hA28 hg65 hfo.2 (Nat.le_refl _)
  clear hfo
  refine oM rfl (oS rfl (Yk.appendRG _ _ w11.heap.size _ 32 pk6_ty31 pk6_ig26.choose_spec.1 pk6_ig26.choose_spec.2 pk6_ty31 ((Ol) ++ Al) (Bl) (OG.of ho64 (vr v62 rfl)) (RG.of (hfb.keep hA28) T6) (fun _ _ => byteCells_one _) (by simp only [List.length_append]; omega) (by simp only [List.length_append]; omega) hA28.size fun v66 w67 ho68 hg69 => ?_))
  have hg69 : Grew w63 w67 v62 v66 := hg69
  have hE := ext_grew hE hg69 ho64.2 hz30
  have hA28 := ext_grew hA28 hg69 ho64.2 (Nat.le_refl _)
  clear ho64
  refine oA rfl (oZ (tN (hK61 _ _ (wpF_ret (postF_ret (fn := Tryd.f70) _ rfl [v66] (v66) rfl ⟨rfl, trivial⟩ ?_)))))
  obtain ⟨hpm, hasc⟩ := hMI.done (by omega)
  exact ⟨_, _, rfl, OG.base ho68 (by omega), hpm, hasc, hE⟩
 refine sk fun K70 hK70 => (sk fun K71 hK71 => (wt (oM rfl (oS rfl (Yk.lenRG pk6_ty31 (RG.of (hfa.keep hA28) T5) (oS rfl (Yk.eqI (a := (Al.length : Nat)) (b := (0 : Nat)) rfl rfl (k_gtr _ _ _ _) (oM rfl (oN (d := 33) rfl rfl rfl (vr (.bool (false)) (congrArg Value.bool (decide_eq_false (hga)))) rfl (oN (d := 33) rfl rfl rfl (vr (.bool (false)) (congrArg Value.bool (decide_eq_false (hga)))) rfl (oN (d := 33) rfl rfl rfl (vr (.bool (false)) (congrArg Value.bool (decide_eq_false (hga)))) rfl (oS rfl (Yk.pickF (vr (.bool (false)) (congrArg Value.bool (decide_eq_false (hga)))) (vr (.bool (false)) rfl) (oZ (tN (hK71 _ _ (wpF_false (vr (.bool (false)) rfl) (wpF_exit (thenF_exit (thenF_exit (inBlockF_hit (tN (hK32 _ _ ?_)))))))))))))))))))))))
 refine sk fun K72 hK72 => (wt (oM rfl (oM rfl (oS rfl (Yk.appendRG _ _ w11.heap.size _ 32 pk6_ty31 pk6_ig26.choose_spec.1 pk6_ig26.choose_spec.2 pk6_ty31 (Ol) (Al) (OG.of hfo T7) (RG.of (hfa.keep hA28) T5) (fun _ _ => byteCells_one _) (by omega) (by omega) hA28.size fun v73 w74 ho75 hg76 => ?_)))))
 have hg76 : Grew w34 w74 vo v73 := .eqv T7 hg76
 have hE := ext_grew hE hg76 hfo.2 hz30
 have hA28 := ext_grew hA28 hg76 hfo.2 (Nat.le_refl _)
 clear hfo
 refine oM rfl (oS rfl (Yk.appendRG _ _ w11.heap.size _ 32 pk6_ty31 pk6_ig26.choose_spec.1 pk6_ig26.choose_spec.2 pk6_ty31 ((Ol) ++ Al) (Bl) (OG.of ho75 (vr v73 rfl)) (RG.of (hfb.keep hA28) T6) (fun _ _ => byteCells_one _) (by simp only [List.length_append]; omega) (by simp only [List.length_append]; omega) hA28.size fun v77 w78 ho79 hg80 => ?_))
 have hg80 : Grew w74 w78 v73 v77 := hg80
 have hE := ext_grew hE hg80 ho75.2 hz30
 have hA28 := ext_grew hA28 hg80 ho75.2 (Nat.le_refl _)
 clear ho75
 refine oA rfl (oZ (tN (hK72 _ _ (wpF_ret (postF_ret (fn := Tryd.f70) _ rfl [v77] (v77) rfl ⟨rfl, trivial⟩ ?_)))))
 obtain ⟨hpm, hasc⟩ := hMI.done (by omega)
 exact ⟨_, _, rfl, OG.base ho79 (by omega), hpm, hasc, hE⟩

theorem merge_any : ∀ (n : Nat) (l : List Bs), l.length = n → l.length ≤ 1048576 → ∀ (w : World) (v : Value), RG 32 Lib.byteCells w v l → Calls Tryd.prog 70 #[v, .func (.func 71) #[] #[]] w fun e w' => ∃ v' m, e = .returned v' ∧ OG w.heap.size 26 32 Lib.byteCells w' v' m ∧ m.Perm l ∧ Asc m ∧ Ext w w' := by
 intro n
 induction n using Nat.strongRecOn with
 | _ n ih => exact fun l hn hlim w v hr => merge_step n (fun l' hl w v hr => ih l'.length hl l' rfl (by omega) w v hr) l hn hlim w v hr

theorem sort_any (w : World) (v : Value) (l : List Bs) (hlim : l.length ≤ 1048576) (hr : RG 32 Lib.byteCells w v l) :
  Calls Tryd.prog 57 #[v] w fun e w' => ∃ v', e = .returned v' ∧ OG w.heap.size 26 32 Lib.byteCells w' v' (sortB l) ∧ Ext w w' := by
 refine calls_of_wpF (args := [v]) Tryd.func57 rfl 5 rfl (Nat.le_of_ble_eq_true rfl) ?_
 intro ρ0 hb
 have T0 : ρ0 0 = (v : Value) := hb.get 0
 clear hb
 have hE := Ext.refl w
 refine sk fun K1 hK1 => (wt (oA rfl (oZ (tN (hK1 _ _ (sk fun K2 hK2 => (wt (oM rfl (oS rfl (Yk.callA2 pk6_pl70 T0 rfl ((merge_any _ l rfl hlim _ v hr).mono ?_)))))))))))
 rintro e w9 ⟨v3, m4, rfl, hr5, hp6, ha7, hx8⟩
 refine ⟨_, rfl, ?_⟩
 have hms := asc_sortB ha7 hp6
 subst hms
 have hr := hr.keep hx8
 have hE := hE.trans hx8
 refine oA rfl (oZ (tN (hK2 _ _ (wpF_ret (postF_ret (fn := Tryd.f57) _ rfl [v3] (v3) rfl ⟨rfl, trivial⟩ ?_)))))
 exact ⟨_, rfl, hr5, hE⟩
open Go.RowKit
def SAsc (l : List Bs) : Prop := l.Pairwise fun a b => Lib.compareBytes a b < 0
theorem int_lt {a : Int} (h : a ≤ 0) (h2 : a ≠ 0) : a < 0 := by omega
theorem getD_mem' {l : List Bs} {i : Nat} (hi : i < l.length) : l.getD i [] ∈ l := getD_mem [] hi
theorem getD_get {l : List Bs} {i : Nat} (hi : i < l.length) : l.getD i [] = l[i] := by rw [List.getD_eq_getElem?_getD, List.getElem?_eq_getElem hi]; rfl
theorem asc_at {l : List Bs} (h : Asc l) {i j : Nat} (hij : i < j) (hj : j < l.length) : Lib.compareBytes (l.getD i []) (l.getD j []) ≤ 0 := by
  rw [getD_get (by omega), getD_get hj]
  exact List.pairwise_iff_getElem.1 h i j (by omega) hj hij
theorem sasc_at {l : List Bs} (h : SAsc l) {i j : Nat} (hij : i < j) (hj : j < l.length) : Lib.compareBytes (l.getD i []) (l.getD j []) < 0 := by
  rw [getD_get (by omega), getD_get hj]
  exact List.pairwise_iff_getElem.1 h i j (by omega) hj hij
theorem mem_takeD {l : List Bs} {i : Nat} {x : Bs} (h : x ∈ l.take i) : ∃ j, j < i ∧ j < l.length ∧ x = l.getD j [] := by
  obtain ⟨j, hj, rfl⟩ := List.mem_iff_getElem.1 h
  rw [List.length_take] at hj
  exact ⟨j, by omega, by omega, by rw [List.getElem_take, getD_get]⟩
theorem take_memS {l : List Bs} {i : Nat} {x : Bs} (hi : i < l.length) : x ∈ l.take (i + 1) ↔ x ∈ l.take i ∨ x = l.getD i [] := by
  rw [List.take_succ_eq_append_getElem hi, List.mem_append, List.mem_singleton, getD_get hi]
section
variable {m o : List Bs} {i : Nat}
theorem uniq_new (hm : Asc m) (hi : i < m.length) (hS : SAsc o) (hmem : ∀ x, x ∈ o ↔ x ∈ m.take i) (h : o.length = 0 ∨ o.getD (o.length - 1) [] ≠ m.getD i []) : SAsc (o ++ [m.getD i []]) := by
  refine List.pairwise_append.2 ⟨hS, by simp, fun a ha b hb => ?_⟩
  rw [List.mem_singleton.1 hb]
  have hle : ∀ c ∈ o, Lib.compareBytes c (m.getD i []) ≤ 0 := fun c hc => by
    obtain ⟨j, h1, h2, rfl⟩ := mem_takeD ((hmem c).1 hc)
    exact asc_at hm h1 hi
  refine int_lt (hle a ha) fun e => ?_
  have e := cmp_zero e
  obtain ⟨k, hk, hka⟩ := List.mem_iff_getElem.1 ha
  rcases h with h | h
  · omega
  · by_cases hkl : k = o.length - 1
    · refine h ?_
      rw [getD_get (by omega), ← e, ← hka]
      congr 1
      omega
    · have h1 := sasc_at hS (i := k) (j := o.length - 1) (by omega) (by omega)
      rw [getD_get hk, hka, e] at h1
      have h2 := hle _ (getD_mem' (l := o) (i := o.length - 1) (by omega))
      have h3 := cmp_neg (m.getD i []) (o.getD (o.length - 1) [])
      omega
theorem uniq_memT (hi : i < m.length) (hmem : ∀ x, x ∈ o ↔ x ∈ m.take i) : ∀ x, x ∈ o ++ [m.getD i []] ↔ x ∈ m.take (i + 1) := fun x => by
  rw [take_memS hi, List.mem_append, List.mem_singleton, hmem]
theorem uniq_memF (hi : i < m.length) (hmem : ∀ x, x ∈ o ↔ x ∈ m.take i) (h0 : ¬ o.length = 0) (h : ¬ o.getD (o.length - 1) [] ≠ m.getD i []) : ∀ x, x ∈ o ↔ x ∈ m.take (i + 1) := fun x => by
  rw [take_memS hi, ← hmem]
  constructor
  · exact .inl
  · rintro (h1 | rfl)
    · exact h1
    · rw [← Classical.not_not.1 h]; exact getD_mem' (by omega)
end
open Go.RowKit
set_option maxRecDepth 100000
set_option linter.unusedVariables false
set_option linter.unusedSimpArgs false
theorem setK_pl57 : Plain Tryd.prog 57 := fun _ _ => by kernel_rfl
theorem setK_ty31 : Tryd.prog.underlying 31 = some (.slice 26) := by kernel_rfl
theorem setK_szg26 : ∀ w' : World, (sizeOf 26).run Tryd.prog w' = .ok 32 w' := fun _ => by kernel_rfl
theorem setK_ty26 : Tryd.prog.underlying 26 = some (.array 32 5) := by kernel_rfl
theorem setK_isz26 : (Tryd.prog.info? 26).map (·.size) = some 32 := by kernel_rfl
theorem setK_al26 {d : Option Tmp} {ty : TypeId} {pos : String} {af : Array Edge} {gd : Option (Nat × Bool)} (σ : Operand → Value) (w : World) : (execOp σ ⟨d, .alloc 26, ty, pos, af, gd⟩).run Tryd.prog w = .ok (.value (PQ w.heap.size 0)) (w.alloc (.cells (Lib.byteCells (List.replicate 32 0)).toArray 26)) := by kernel_rfl
theorem setK_lh31 (c0 c1 c2 c3 c4 c5 c6 c7 c8 c9 c10 c11 c12 c13 c14 c15 c16 c17 c18 c19 c20 c21 c22 c23 c24 c25 c26 c27 c28 c29 c30 c31 : Value) (w : World) : (Instr.buildSlice 31 1 #[(0, .agg #[c0, c1, c2, c3, c4, c5, c6, c7, c8, c9, c10, c11, c12, c13, c14, c15, c16, c17, c18, c19, c20, c21, c22, c23, c24, c25, c26, c27, c28, c29, c30, c31])]).run Tryd.prog w = .ok (.slice (some ⟨w.heap.size, 0, none⟩) 1 1) (w.alloc (.cells #[c0, c1, c2, c3, c4, c5, c6, c7, c8, c9, c10, c11, c12, c13, c14, c15, c16, c17, c18, c19, c20, c21, c22, c23, c24, c25, c26, c27, c28, c29, c30, c31] 26)) := by kernel_rfl
theorem setK_lg31 : ∀ (cs : Array Value), cs.size = 32 → ∀ w : World, (Instr.buildSlice 31 1 #[(0, .agg cs)]).run Tryd.prog w = .ok (.slice (some ⟨w.heap.size, 0, none⟩) 1 1) (w.alloc (.cells cs 26))
 | ⟨[c0, c1, c2, c3, c4, c5, c6, c7, c8, c9, c10, c11, c12, c13, c14, c15, c16, c17, c18, c19, c20, c21, c22, c23, c24, c25, c26, c27, c28, c29, c30, c31]⟩, _, w => setK_lh31 c0 c1 c2 c3 c4 c5 c6 c7 c8 c9 c10 c11 c12 c13 c14 c15 c16 c17 c18 c19 c20 c21 c22 c23 c24 c25 c26 c27 c28 c29 c30 c31 w
theorem setK_ig26 : ∃ z, (Tryd.prog.info? 26).map (fun i => (i.zero, i.size, i.bytes)) = some (some z, 32, 32) ∧ z.cells.size = 32 := info_ex (by kernel_rfl)
theorem setK_eg26 : Tryd.prog.eqGuardType Tryd.prog.depth 26 = false := by kernel_rfl
theorem setK_ty5 : Tryd.prog.underlying 5 = some (.int .u8) := by kernel_rfl
theorem setK_sz5 : ∀ w' : World, (sizeOf 5).run Tryd.prog w' = .ok 1 w' := fun _ => by kernel_rfl
set_option maxHeartbeats 1600000
theorem set_any (w : World) (v : Value) (l : List Bs) (hr : RG 32 Lib.byteCells w v l) (hl : l.length ≤ 100000) :
  Calls Tryd.prog 33 #[v] w fun e w' => ∃ v' o, e = .returned v' ∧ OG w.heap.size 26 32 Lib.byteCells w' v' o ∧ SAsc o ∧ (∀ x, x ∈ o ↔ x ∈ l) ∧ o.length ≤ l.length ∧ Ext w w' := by
 refine calls_of_wpF (args := [v]) Tryd.func33 rfl 32 rfl (Nat.le_of_ble_eq_true rfl) ?_
 intro ρ0 hb
 have T0 : ρ0 0 = (v : Value) := hb.get 0
 clear hb
 have hE := Ext.refl w
 refine sk fun K1 hK1 => (wt (oA rfl (oZ (tN (hK1 _ _ (sk fun K2 hK2 => (wt (oA rfl (oZ (tN (hK2 _ _ (sk fun K3 hK3 => (sk fun K4 hK4 => (wt (oM rfl (oS rfl (Yk.callA1 setK_pl57 T0 ((sort_any _ v l (by omega) hr).mono ?_))))))))))))))))))
 rintro e w8 ⟨v5, rfl, ho6, hx7⟩
 refine ⟨_, rfl, ?_⟩
 have hr := hr.keep hx7
 have hE := hE.trans hx7
 have ho6 := RG.ofOwn ho6
 obtain ⟨m, hm⟩ : ∃ m, m = sortB l := ⟨_, rfl⟩
 rw [← hm] at ho6
 have hml : m.length = l.length := by rw [hm, sortB_len]
 have hma : Asc m := by rw [hm]; exact sortB_asc l
 have hmm : ∀ x, x ∈ m ↔ x ∈ l := fun x => by rw [hm]; exact (sortB_perm l).mem_iff
 refine oS rfl (Yk.lenRG setK_ty31 (RG.of ho6 (vr v5 rfl)) (oM rfl (oL_ [(0, v), (2, (Value.slice none 0 0)), (3, (Value.slice none 0 0)), (7, v5), (8, NI m.length), (9, NI 0)] ⟨T0, rfl, rfl, rfl, rfl, rfl, trivial⟩ fun ρ9 ⟨T0, T2, T3, T7, T8, T9, _⟩ => ?_)))
 have hA10 := Ext.refl w8
 have hea11 := hE
 have hz12 := hE.size
 have hrow0 : OG w8.heap.size 26 32 Lib.byteCells w8 (Value.slice none 0 0) ([] : List Bs) := OG.nil _ _ _ _ _
 refine tN (hK4 _ _ (wpF_block (wpF_loop (fun (ρ : Slots) (wz : World) => ∃ i : Nat, ∃ o : List Bs, ∃ vo : Value, ρ 0 = (v : Value) ∧ ρ 2 = ((Value.slice none 0 0) : Value) ∧ ρ 7 = (v5 : Value) ∧ ρ 8 = (NI m.length : Value) ∧ ρ 9 = (NI i : Value) ∧ ρ 3 = (vo : Value) ∧ Ext w wz ∧ Ext w8 wz ∧ OG w8.heap.size 26 32 (Lib.byteCells) wz vo (o) ∧ (i ≤ m.length) ∧ (SAsc o) ∧ (∀ x, x ∈ o ↔ x ∈ m.take i) ∧ (o.length ≤ i) ∧ True) (fun ρ _ => m.length - (intOf (ρ 9)).toNat) ⟨0, [], (Value.slice none 0 0), T0, T2, T7, T8, T9, T3, hE, hA10, og_eq hrow0 (rfl), Nat.zero_le _, List.Pairwise.nil, (fun x => by simp), Nat.le_refl _, trivial⟩ ?_)))
 clear hrow0
 clear hE hA10
 rintro ρ13 w14 ⟨i, o, vo, T0, T2, T7, T8, T9, T3, hE, hA10, hr_vo, hi, hS, hmem, hol, -⟩
 have q9 := T9
 refine sk fun K15 hK15 => (wt (oS rfl (Yk.eqI (a := (i : Nat)) (b := (m.length : Nat)) T9 T8 (k_lss _ _ _ _) (oZ (tN (hK15 _ _ (sk fun K16 hK16 => ?_)))))))
 refine wpF_cond ((i) < (m.length)) (vr (.bool (decide ((i) < (m.length)))) rfl) (fun hc0 => ?_) (fun hc0 => ?_)
 ·have hlt : i < m.length := hc0
  refine wpF_skip (tN (hK16 _ _ (sk fun K17 hK17 => (wpF_block (sk fun K18 hK18 => (wt ?_))))))
  have hl21 : (Lib.byteCells (m.getD (i) ([] : List UInt8))).length = 32 := (RG.elem (ho6.keep hA10) ([] : List UInt8) (by omega))
  refine oS rfl (Yk.atRG setK_ty31 setK_szg26 (by decide) ([] : List UInt8) (RG.of (ho6.keep hA10) T7) T9 (by omega) fun v19 hp20 => (oS rfl (Yk.loadPR (PR.of hp20 (vr v19 rfl)) setK_ty26 rfl (by rw [hl21]; exact setK_isz26) (oS rfl (Yk.alloc (cs := (Lib.byteCells (List.replicate 32 0)).toArray) setK_al26 fun n22 w23 hn24 hb25 hx26 hs27 => ?_)))))
  have hA28 := Ext.refl w14
  have hea29 := hE
  have hea30 := hA10
  have hz31 := hE.size
  have hz32 := hA10.size
  have hap33 : OB vo n22 := own_newer hr_vo.2 (by omega)
  have hE := hE.trans hx26
  have hA10 := hA10.trans hx26
  have hr_vo := hr_vo.keep hx26
  have hA28 := hA28.trans hx26
  have hb34 := hb25; clear hb25
  have hl35 : n22 < w23.heap.size := by omega
  refine oS rfl (Yk.storeAll (vr (PQ n22 0) rfl) (vr (AB (m.getD (i) ([] : List UInt8))) rfl) hb34 (by exact idsize (bytes_len32 (hl21)) List.length_replicate) (by exact sizeId_of (bytes_len32 (hl21))) (byteCells_one _) fun w36 hb37 hg38 hs39 => ?_)
  have hE := row_fresh hE hg38 (Nat.le_trans hz31 (by omega))
  have hA10 := row_fresh hA10 hg38 (Nat.le_trans hz32 (by omega))
  have hr_vo := OG.kept hr_vo hg38 hap33
  have hA28 := row_fresh hA28 hg38 (Nat.le_trans (Nat.le_refl _) (by omega))
  clear hb34
  have hb34 := hb37; clear hb37
  have hl40 := bl hb34
  refine oZ ?_
  clear hp20
  have hxl : (m.getD i []).length = 32 := bytes_len32 ((ho6.keep hA10).1 _ (getD_mem [] hlt))
  by_cases h0 : o.length = 0
  ·refine tN (hK18 _ _ (sk fun K41 hK41 => ?_))
   refine wpF_draw [Is (vo), Is (NI o.length), Is (.bool (true)), Is (.bool (true)), Is undef, Is undef, Is undef, Is undef, Is undef, Is undef, Is undef, Is undef, Is (.bool (true))] (by kernel_rfl) [13, 14, 15, 16, 17, 18, 19, 20, 21, 22, 23, 24, 25] (by kernel_rfl) (by kernel_rfl) ⟨Stab.is _, (si12 trivial)⟩ ?hs1005 ?hQ1005
   case hs1005 =>
    refine ⟨?_, ?_, ?_, ?_, ?_, ?_, ?_, ?_, ?_, ?_, ?_, ?_, ?_, trivial⟩
    ·refine stepN rfl fun σ w1 hC h => ?_
     have e3 := (eqo (h 3 (by decide))).trans T3
     exact Yk.move e3 ⟨Ext.refl _, rfl⟩
    ·refine stepN rfl fun σ w1 hC h => ?_
     have e13 := eqo (h 13 (by decide))
     exact Yk.lenRG setK_ty31 (RG.of (RG.ofOwn (hr_vo.keep hC)) e13) ⟨Ext.refl _, rfl⟩
    ·refine stepN rfl fun σ w1 hC h => ?_
     have e14 := eqo (h 14 (by decide))
     exact Yk.eqI (a := (o.length : Nat)) (b := (0 : Nat)) e14 rfl (k_eql _ _ _ _) ⟨Ext.refl _, (congrArg Value.bool (decide_eq_true (h0)))⟩
    ·refine stepN rfl fun σ w1 hC h => ?_
     have e15 := eqo (h 15 (by decide))
     exact Yk.move e15 ⟨Ext.refl _, rfl⟩
    ·refine stepX 3 false 16 rfl rfl (fun x _ (h : x = .bool true) => by rw [h]; intro h; cases h) fun _ => rfl
    ·refine stepX 3 false 16 rfl rfl (fun x _ (h : x = .bool true) => by rw [h]; intro h; cases h) fun _ => rfl
    ·refine stepX 3 false 16 rfl rfl (fun x _ (h : x = .bool true) => by rw [h]; intro h; cases h) fun _ => rfl
    ·refine stepX 3 false 16 rfl rfl (fun x _ (h : x = .bool true) => by rw [h]; intro h; cases h) fun _ => rfl
    ·refine stepX 3 false 16 rfl rfl (fun x _ (h : x = .bool true) => by rw [h]; intro h; cases h) fun _ => rfl
    ·refine stepX 3 false 16 rfl rfl (fun x _ (h : x = .bool true) => by rw [h]; intro h; cases h) fun _ => rfl
    ·refine stepX 3 false 16 rfl rfl (fun x _ (h : x = .bool true) => by rw [h]; intro h; cases h) fun _ => rfl
    ·refine stepX 3 false 16 rfl rfl (fun x _ (h : x = .bool true) => by rw [h]; intro h; cases h) fun _ => rfl
    ·refine stepN rfl fun σ w1 hC h => ?_
     have e16 := eqo (h 16 (by decide))
     exact Yk.pickT e16 (vr (.bool (true)) rfl) ⟨Ext.refl _, rfl⟩
   intro ρ42 w43 hx44 he hf
   obtain ⟨-, -, -, -, -, -, -, -, -, -, -, -, k25, -⟩ := hf
   obtain ⟨T0, T2, T3, T5, T7, T8, T9, -⟩ := he.hold [(0, _), (2, _), (3, _), (5, PQ n22 0), (7, _), (8, _), (9, _)] ⟨T0, T2, T3, rfl, T7, T8, T9, trivial⟩ rfl
   clear he
   have hE := hE.trans hx44
   have hA10 := hA10.trans hx44
   have hr_vo := hr_vo.keep hx44
   have hA28 := hA28.trans hx44
   have hb34 := eb hx44 hb34
   have T25 : ρ42 25 = .bool (true) := k25
   clear k25
   refine tN (hK41 _ _ (wpF_true T25 (wt (oM rfl (oS rfl (Yk.loadAll T5 hb34 setK_ty26 rfl (by exact sizeId_of (bytes_len32 (hl21))) (oS rfl (Yk.lit1G (a := (m.getD (i) ([] : List UInt8))) (enc := Lib.byteCells) (vr (AB (m.getD (i) ([] : List UInt8))) rfl) (by rw [Lib.byteCells_length]; exact (bytes_len32 (hl21))) setK_lg31 fun v45 w46 hr47 hx48 => ?_))))))))
   have hE := hE.trans hx48
   have hA10 := hA10.trans hx48
   have hr_vo := hr_vo.keep hx48
   have hA28 := hA28.trans hx48
   have hb34 := eb hx48 hb34
   refine oS rfl (Yk.appendRG _ _ w8.heap.size _ 32 setK_ty31 setK_ig26.choose_spec.1 setK_ig26.choose_spec.2 setK_ty31 (o) ([(m.getD (i) ([] : List UInt8))]) (OG.of hr_vo T3) (RG.of hr47 (vr v45 rfl)) (fun _ _ => byteCells_one _) (by simp only [List.length_cons, List.length_nil]; omega) (by simp only [List.length_cons, List.length_nil]; omega) hA10.size fun v49 w50 ho51 hg52 => ?_)
   have hg52 : Grew w46 w50 vo v49 := .eqv T3 hg52
   have hap53 : OB v49 n22 := apart_grew hg52 hap33 (bl hb34)
   have hE := ext_grew hE hg52 hr_vo.2 hz12
   have hA10 := ext_grew hA10 hg52 hr_vo.2 (Nat.le_refl _)
   clear hA28
   have hb34 := blk_grew hb34 hg52 hap33
   clear hr47
   clear hr_vo
   refine oA rfl (oZ ?_)
   have hq : o.length = 0 ∨ o.getD (o.length - 1) [] ≠ m.getD i [] := .inl h0
   refine bN (tN (hK17 _ _ (wt (oS rfl (Yk.bin (xv := NI i) (yv := NI 1) T9 rfl rfl (i64_add _ _ _ (by omega)) (oM rfl (oL_ [(0, v), (2, (Value.slice none 0 0)), (3, v49), (5, PQ n22 0), (7, v5), (8, NI m.length), (9, NI ((i) + (1))), (25, .bool (true))] ⟨T0, T2, rfl, T5, T7, T8, rfl, T25, trivial⟩ fun ρ54 ⟨T0, T2, T3, T5, T7, T8, T9, T25, _⟩ => (tN (And.intro ⟨i + 1, o ++ [m.getD i []], v49, T0, T2, T7, T8, T9, T3, hE, hA10, og_eq ho51 (rfl), by omega, uniq_new hma hlt hS hmem hq, uniq_memT hlt hmem, (by simp only [List.length_append, List.length_cons, List.length_nil]; omega), trivial⟩ ?_)))))))))
   show m.length - (intOf (ρ54 9)).toNat < m.length - (intOf (ρ13 9)).toNat
   rw [T9, q9]
   simp only [intOf, Int.toNat_natCast]; omega
  have hyl : (o.getD (o.length - 1) []).length = 32 := bytes_len32 (hr_vo.1 _ (getD_mem [] (by omega)))
  refine tN (hK18 _ _ (sk fun K55 hK55 => ?_))
  refine wpF_draw [Is (vo), Is (NI o.length), Is (.bool (false)), Is (.bool (false)), Is (vo), Is (vo), Is (NI o.length), Is (NI ((o.length) - (1))), fun x w' => PR (Lib.byteCells (o.getD ((o.length) - (1)) ([] : List UInt8))) x w', Is (AB (o.getD ((o.length) - (1)) ([] : List UInt8))), Is (AB (m.getD (i) ([] : List UInt8))), Is (.bool (decide ((o.getD ((o.length) - (1)) ([] : List UInt8)) ≠ (m.getD (i) ([] : List UInt8))))), Is (.bool (decide ((o.getD ((o.length) - (1)) ([] : List UInt8)) ≠ (m.getD (i) ([] : List UInt8)))))] (by kernel_rfl) [13, 14, 15, 16, 17, 18, 19, 20, 21, 22, 23, 24, 25] (by kernel_rfl) (by kernel_rfl) (si8 ⟨(fun _ _ _ h k => PR.keep h k), (si4 trivial)⟩) ?hs2005 ?hQ2005
  case hs2005 =>
   refine ⟨?_, ?_, ?_, ?_, ?_, ?_, ?_, ?_, ?_, ?_, ?_, ?_, ?_, trivial⟩
   ·refine stepN rfl fun σ w1 hC h => ?_
    have e3 := (eqo (h 3 (by decide))).trans T3
    exact Yk.move e3 ⟨Ext.refl _, rfl⟩
   ·refine stepN rfl fun σ w1 hC h => ?_
    have e13 := eqo (h 13 (by decide))
    exact Yk.lenRG setK_ty31 (RG.of (RG.ofOwn (hr_vo.keep hC)) e13) ⟨Ext.refl _, rfl⟩
   ·refine stepN rfl fun σ w1 hC h => ?_
    have e14 := eqo (h 14 (by decide))
    exact Yk.eqI (a := (o.length : Nat)) (b := (0 : Nat)) e14 rfl (k_eql _ _ _ _) ⟨Ext.refl _, (congrArg Value.bool (decide_eq_false (h0)))⟩
   ·refine stepN rfl fun σ w1 hC h => ?_
    have e15 := eqo (h 15 (by decide))
    exact Yk.move e15 ⟨Ext.refl _, rfl⟩
   ·refine stepY 3 false 16 rfl rfl (fun _ _ h => h) fun σ w1 hC h => ?_
    have e3 := (eqo (h 3 (by decide))).trans T3
    exact Yk.move e3 ⟨Ext.refl _, rfl⟩
   ·refine stepY 3 false 16 rfl rfl (fun _ _ h => h) fun σ w1 hC h => ?_
    have e3 := (eqo (h 3 (by decide))).trans T3
    exact Yk.move e3 ⟨Ext.refl _, rfl⟩
   ·refine stepY 3 false 16 rfl rfl (fun _ _ h => h) fun σ w1 hC h => ?_
    have e18 := eqo (h 18 (by decide))
    exact Yk.lenRG setK_ty31 (RG.of (RG.ofOwn (hr_vo.keep hC)) e18) ⟨Ext.refl _, rfl⟩
   ·refine stepY 3 false 16 rfl rfl (fun _ _ h => h) fun σ w1 hC h => ?_
    have e19 := eqo (h 19 (by decide))
    exact Yk.bin (xv := NI o.length) (yv := NI 1) e19 rfl rfl (i64_sub _ _ _ (by omega) (by omega)) ⟨Ext.refl _, rfl⟩
   ·refine stepY 3 false 16 rfl rfl (fun _ _ h => h) fun σ w1 hC h => ?_
    have e17 := eqo (h 17 (by decide))
    have e20 := eqo (h 20 (by decide))
    exact Yk.atRG setK_ty31 setK_szg26 (by decide) ([] : List UInt8) (RG.of (RG.ofOwn (hr_vo.keep hC)) e17) e20 (by omega) fun v h => ⟨Ext.refl _, h⟩
   ·refine stepY 3 false 16 rfl rfl (fun _ _ h => h) fun σ w1 hC h => ?_
    have e21 : (fun x w' => PR (Lib.byteCells (o.getD ((o.length) - (1)) ([] : List UInt8))) x w') (σ 21) w1 := h 21 (by decide)
    exact Yk.loadPR e21 setK_ty26 rfl (by rw [RG.elem (RG.ofOwn hr_vo) ([] : List UInt8) (by omega)]; exact setK_isz26) ⟨Ext.refl _, rfl⟩
   ·refine stepY 3 false 16 rfl rfl (fun _ _ h => h) fun σ w1 hC h => ?_
    have e5 : σ 5 = PQ n22 0 := (eqo (h 5 (by decide))).trans rfl
    exact Yk.loadAll e5 (eb hC hb34) setK_ty26 rfl (by exact sizeId_of (bytes_len32 (hl21))) ⟨Ext.refl _, rfl⟩
   ·refine stepY 3 false 16 rfl rfl (fun _ _ h => h) fun σ w1 hC h => ?_
    have e22 := eqo (h 22 (by decide))
    have e23 := eqo (h 23 (by decide))
    exact Yk.neArr (l1 := (o.getD ((o.length) - (1)) ([] : List UInt8))) (l2 := (m.getD (i) ([] : List UInt8))) setK_ty26 setK_ty5 setK_sz5 setK_eg26 e22 e23 (hyl) (hxl) ⟨Ext.refl _, rfl⟩
   ·refine stepN rfl fun σ w1 hC h => ?_
    have e16 := eqo (h 16 (by decide))
    have e24 := eqo (h 24 (by decide))
    exact Yk.pickF e16 e24 ⟨Ext.refl _, rfl⟩
  intro ρ56 w57 hx58 he hf
  obtain ⟨-, -, -, -, -, -, -, -, -, -, -, -, k25, -⟩ := hf
  obtain ⟨T0, T2, T3, T5, T7, T8, T9, -⟩ := he.hold [(0, _), (2, _), (3, _), (5, PQ n22 0), (7, _), (8, _), (9, _)] ⟨T0, T2, T3, rfl, T7, T8, T9, trivial⟩ rfl
  clear he
  have hE := hE.trans hx58
  have hA10 := hA10.trans hx58
  have hr_vo := hr_vo.keep hx58
  have hA28 := hA28.trans hx58
  have hb34 := eb hx58 hb34
  have T25 : ρ56 25 = .bool (decide ((o.getD ((o.length) - (1)) ([] : List UInt8)) ≠ (m.getD (i) ([] : List UInt8)))) := k25
  clear k25
  refine tN (hK55 _ _ ?_)
  refine wpF_cond ((o.getD ((o.length) - (1)) ([] : List UInt8)) ≠ (m.getD (i) ([] : List UInt8))) T25 (fun hc1 => ?_) (fun hc1 => ?_)
  ·have hq : o.length = 0 ∨ o.getD (o.length - 1) [] ≠ m.getD i [] := .inr hc1
   refine wt (oM rfl (oS rfl (Yk.loadAll T5 hb34 setK_ty26 rfl (by exact sizeId_of (bytes_len32 (hl21))) (oS rfl (Yk.lit1G (a := (m.getD (i) ([] : List UInt8))) (enc := Lib.byteCells) (vr (AB (m.getD (i) ([] : List UInt8))) rfl) (by rw [Lib.byteCells_length]; exact (bytes_len32 (hl21))) setK_lg31 fun v59 w60 hr61 hx62 => ?_)))))
   have hE := hE.trans hx62
   have hA10 := hA10.trans hx62
   have hr_vo := hr_vo.keep hx62
   have hA28 := hA28.trans hx62
   have hb34 := eb hx62 hb34
   refine oS rfl (Yk.appendRG _ _ w8.heap.size _ 32 setK_ty31 setK_ig26.choose_spec.1 setK_ig26.choose_spec.2 setK_ty31 (o) ([(m.getD (i) ([] : List UInt8))]) (OG.of hr_vo T3) (RG.of hr61 (vr v59 rfl)) (fun _ _ => byteCells_one _) (by simp only [List.length_cons, List.length_nil]; omega) (by simp only [List.length_cons, List.length_nil]; omega) hA10.size fun v63 w64 ho65 hg66 => ?_)
   have hg66 : Grew w60 w64 vo v63 := .eqv T3 hg66
   have hap67 : OB v63 n22 := apart_grew hg66 hap33 (bl hb34)
   have hE := ext_grew hE hg66 hr_vo.2 hz12
   have hA10 := ext_grew hA10 hg66 hr_vo.2 (Nat.le_refl _)
   clear hA28
   have hb34 := blk_grew hb34 hg66 hap33
   clear hr61
   clear hr_vo
   refine oA rfl (oZ (bN (tN (hK17 _ _ (wt (oS rfl (Yk.bin (xv := NI i) (yv := NI 1) T9 rfl rfl (i64_add _ _ _ (by omega)) (oM rfl (oL_ [(0, v), (2, (Value.slice none 0 0)), (3, v63), (5, PQ n22 0), (7, v5), (8, NI m.length), (9, NI ((i) + (1)))] ⟨T0, T2, rfl, T5, T7, T8, rfl, trivial⟩ fun ρ68 ⟨T0, T2, T3, T5, T7, T8, T9, _⟩ => (tN (And.intro ⟨i + 1, o ++ [m.getD i []], v63, T0, T2, T7, T8, T9, T3, hE, hA10, og_eq ho65 (rfl), by omega, uniq_new hma hlt hS hmem hq, uniq_memT hlt hmem, (by simp only [List.length_append, List.length_cons, List.length_nil]; omega), trivial⟩ ?_)))))))))))
   show m.length - (intOf (ρ68 9)).toNat < m.length - (intOf (ρ13 9)).toNat
   rw [T9, q9]
   simp only [intOf, Int.toNat_natCast]; omega
  have hq : ¬ o.getD (o.length - 1) [] ≠ m.getD i [] := hc1
  refine wpF_skip (bN (tN (hK17 _ _ (wt (oS rfl (Yk.bin (xv := NI i) (yv := NI 1) T9 rfl rfl (i64_add _ _ _ (by omega)) (oM rfl (oL_ [(0, v), (2, (Value.slice none 0 0)), (3, vo), (5, PQ n22 0), (7, v5), (8, NI m.length), (9, NI ((i) + (1)))] ⟨T0, T2, T3, T5, T7, T8, rfl, trivial⟩ fun ρ69 ⟨T0, T2, T3, T5, T7, T8, T9, _⟩ => (tN (And.intro ⟨i + 1, o, vo, T0, T2, T7, T8, T9, T3, hE, hA10, og_eq hr_vo (rfl), by omega, hS, uniq_memF hlt hmem h0 hq, by omega, trivial⟩ ?_))))))))))
  show m.length - (intOf (ρ69 9)).toNat < m.length - (intOf (ρ13 9)).toNat
  rw [T9, q9]
  simp only [intOf, Int.toNat_natCast]; omega
 refine wpF_exit (thenF_exit (thenF_exit (inBlockF_hit (tN (hK3 _ _ (sk fun K70 hK70 => (wt (oM rfl (oA rfl (oZ (tN (hK70 _ _ (wpF_ret (postF_ret (fn := Tryd.f33) _ rfl [vo] (vo) rfl ⟨T3, trivial⟩ ?_))))))))))))))
 rw [show i = m.length by omega, List.take_length] at hmem
 exact ⟨_, o, rfl, OG.low hr_vo (by have := hz12; omega), hS, fun x => (hmem x).trans (hmm x), by omega, hE⟩
open Go.RowKit
set_option maxRecDepth 100000
set_option linter.unusedVariables false
set_option linter.unusedSimpArgs false
theorem cut_le (p s : List UInt8) : (cutP p s).1.length ≤ s.length := by
 unfold cutP
 split
 ·show (s.drop p.length).length ≤ _; rw [List.length_drop]; omega
 ·exact Nat.le_refl _
section
variable {D : Dsk} {s : List UInt8}
theorem idOf_no (h : (cutP [111, 45] s).2 = false) : (idOf D s).isSome = false := by unfold idOf; rw [if_neg (fun q => by rw [h] at q; cases q.1)]; rfl
theorem idOf_nohex (h : (unhex (cutP [111, 45] s).1).2 = false) : (idOf D s).isSome = false := by unfold idOf; rw [if_neg (fun q => by rw [h] at q; cases q.2.1)]; rfl
theorem idOf_yes (h : (cutP [111, 45] s).2 = true) (h2 : (unhex (cutP [111, 45] s).1).2 = true) : (idOf D s).isSome = decide ((getL D (unhex (cutP [111, 45] s).1).1).2 = 0) := by
 unfold idOf
 by_cases q : (getL D (unhex (cutP [111, 45] s).1).1).2 = 0
 ·rw [if_pos ⟨h, h2, q⟩, decide_eq_true q]; rfl
 ·rw [if_neg (fun x => q x.2.2), decide_eq_false q]; rfl
theorem idOf_some (h : (idOf D s).isSome = true) : idOf D s = some (unhex (cutP [111, 45] s).1).1 := by
 unfold idOf at h ⊢
 split
 ·rfl
 ·rename_i q; rw [if_neg q] at h; cases h
theorem ids_yes {l : List (List UInt8)} {i : Nat} {x : List UInt8} (h : i < l.length) (hx : idOf D (l.getD i []) = some x) : (l.take i).filterMap (idOf D) ++ [x] = (l.take (i + 1)).filterMap (idOf D) := by
 rw [List.take_succ_eq_append_getElem h, List.filterMap_append]
 rw [List.getD_eq_getElem?_getD, List.getElem?_eq_getElem h, Option.getD_some] at hx
 rw [List.filterMap_cons_some hx]
 rfl
theorem ids_no {l : List (List UInt8)} {i : Nat} (h : i < l.length) (hx : idOf D (l.getD i []) = none) : (l.take i).filterMap (idOf D) = (l.take (i + 1)).filterMap (idOf D) := by
 rw [List.take_succ_eq_append_getElem h, List.filterMap_append]
 rw [List.getD_eq_getElem?_getD, List.getElem?_eq_getElem h, Option.getD_some] at hx
 rw [List.filterMap_cons_none hx]
 simp
theorem list_name (h : DOk D) {i : Nat} (hi : i < (listD D).length) : ((listD D).getD i []).length ≤ 80 := by
 unfold listD at hi ⊢
 split
 ·rename_i q; rw [if_pos q] at hi; cases hi
 ·rename_i q
  rw [if_neg q, List.length_map] at hi
  rw [List.getD_eq_getElem?_getD, List.getElem?_map, List.getElem?_eq_getElem hi]
  exact (mayD_pos (h.now.may _ (List.getElem_mem hi))).2
theorem ids_len (h : (listD D).length ≤ 100000) : (idsL D).length ≤ 100000 := Nat.le_trans (List.length_filterMap_le _ _) h
end
theorem ls6_al26 {d : Option Tmp} {ty : TypeId} {pos : String} {af : Array Edge} {gd : Option (Nat × Bool)} (σ : Operand → Value) (w : World) : (execOp σ ⟨d, .alloc 26, ty, pos, af, gd⟩).run Tryd.prog w = .ok (.value (PQ w.heap.size 0)) (w.alloc (.cells (Lib.byteCells (List.replicate 32 0)).toArray 26)) := by kernel_rfl
theorem ls6_pl30 : Plain Tryd.prog 30 := fun _ _ => by kernel_rfl
theorem ls6_pl31 : Plain Tryd.prog 31 := fun _ _ => by kernel_rfl
theorem ls6_ty26 : Tryd.prog.underlying 26 = some (.array 32 5) := by kernel_rfl
theorem ls6_ty23 : Tryd.prog.underlying 23 = some (.pointer 55) := by kernel_rfl
theorem ls6_pl17 : Plain Tryd.prog 17 := fun _ _ => by kernel_rfl
theorem ls6_pl32 : Plain Tryd.prog 32 := fun _ _ => by kernel_rfl
theorem ls6_ty64 : Tryd.prog.underlying 64 = some (.slice 9) := by kernel_rfl
theorem ls6_szg9 : ∀ w' : World, (sizeOf 9).run Tryd.prog w' = .ok 1 w' := fun _ => by kernel_rfl
theorem ls6_ty9 : Tryd.prog.underlying 9 = some (.string) := by kernel_rfl
theorem ls6_pl29 : Plain Tryd.prog 29 := fun _ _ => by kernel_rfl
theorem ls6_lh31 (c0 c1 c2 c3 c4 c5 c6 c7 c8 c9 c10 c11 c12 c13 c14 c15 c16 c17 c18 c19 c20 c21 c22 c23 c24 c25 c26 c27 c28 c29 c30 c31 : Value) (w : World) : (Instr.buildSlice 31 1 #[(0, .agg #[c0, c1, c2, c3, c4, c5, c6, c7, c8, c9, c10, c11, c12, c13, c14, c15, c16, c17, c18, c19, c20, c21, c22, c23, c24, c25, c26, c27, c28, c29, c30, c31])]).run Tryd.prog w = .ok (.slice (some ⟨w.heap.size, 0, none⟩) 1 1) (w.alloc (.cells #[c0, c1, c2, c3, c4, c5, c6, c7, c8, c9, c10, c11, c12, c13, c14, c15, c16, c17, c18, c19, c20, c21, c22, c23, c24, c25, c26, c27, c28, c29, c30, c31] 26)) := by kernel_rfl
theorem ls6_lg31 : ∀ (cs : Array Value), cs.size = 32 → ∀ w : World, (Instr.buildSlice 31 1 #[(0, .agg cs)]).run Tryd.prog w = .ok (.slice (some ⟨w.heap.size, 0, none⟩) 1 1) (w.alloc (.cells cs 26))
 | ⟨[c0, c1, c2, c3, c4, c5, c6, c7, c8, c9, c10, c11, c12, c13, c14, c15, c16, c17, c18, c19, c20, c21, c22, c23, c24, c25, c26, c27, c28, c29, c30, c31]⟩, _, w => ls6_lh31 c0 c1 c2 c3 c4 c5 c6 c7 c8 c9 c10 c11 c12 c13 c14 c15 c16 c17 c18 c19 c20 c21 c22 c23 c24 c25 c26 c27 c28 c29 c30 c31 w
theorem ls6_ig26 : ∃ z, (Tryd.prog.info? 26).map (fun i => (i.zero, i.size, i.bytes)) = some (some z, 32, 32) ∧ z.cells.size = 32 := info_ex (by kernel_rfl)
theorem ls6_ty31 : Tryd.prog.underlying 31 = some (.slice 26) := by kernel_rfl
theorem ls6_pl33 : Plain Tryd.prog 33 := fun _ _ => by kernel_rfl
set_option maxHeartbeats 1600000
theorem listOf_at (wb w : World) (g : Nat) (H : Dk) (D : Dsk) (hD : DkG wb w g H D) (hG : Laid wb) (hL : DLt D) (s : List UInt8) (hs : s.length ≤ 9223372036854775807) (bd : Nat) (hbd : w.heap[bd]? = some (.cells ([PQ g 0]).toArray 23 (0, 0))) :
  Calls Tryd.prog 29 #[St s, PQ bd 0] w fun e w' => e = .returned (.tuple #[AB ((unhex (cutP [111, 45] s).1).1), .bool (idOf D s).isSome]) ∧ Ext w w' := by
 refine calls_of_wpF (args := [St (s), PQ bd 0]) Tryd.func29 rfl 29 rfl (Nat.le_of_ble_eq_true rfl) ?_
 intro ρ0 hb
 have T0 : ρ0 0 = (St (s) : Value) := hb.get 0
 have T1 : ρ0 1 = (PQ bd 0 : Value) := hb.get 1
 clear hb
 have hE := Ext.refl w
 refine sk fun K1 hK1 => (wt (oS rfl (Yk.alloc (cs := (Lib.byteCells (List.replicate 32 0)).toArray) ls6_al26 fun n2 w3 hn4 hb5 hx6 hs7 => ?_)))
 have hlt8 := lte (bl hbd) hn4
 have hbd := eb hx6 hbd
 have hE := hE.trans hx6
 have hb9 := hb5; clear hb5
 have hl10 : n2 < w3.heap.size := by omega
 refine oA rfl (oZ (tN (hK1 _ _ (sk fun K11 hK11 => (wt (oM rfl (oS rfl (Yk.callA2 ls6_pl30 T0 (vr (St (([111, 45] : List UInt8))) rfl) ((cutPrefix_any _ s [111, 45] hs).mono ?_)))))))))
 rintro e w13 ⟨rfl, hx12⟩
 refine ⟨_, rfl, ?_⟩
 have hbd := eb hx12 hbd
 have hE := hE.trans hx12
 have hb9 := eb hx12 hb9
 refine oM rfl (oS rfl (Yk.extract (vs := [St ((cutP [111, 45] s).1), .bool ((cutP [111, 45] s).2)]) (vr (.tuple #[St ((cutP [111, 45] s).1), .bool ((cutP [111, 45] s).2)]) rfl) (show _ = some (St ((cutP [111, 45] s).1) : Value) from rfl) (oS rfl (Yk.extract (vs := [St ((cutP [111, 45] s).1), .bool ((cutP [111, 45] s).2)]) (vr (.tuple #[St ((cutP [111, 45] s).1), .bool ((cutP [111, 45] s).2)]) rfl) (show _ = some (.bool ((cutP [111, 45] s).2) : Value) from rfl) (oA rfl (oA rfl (oZ (tN (hK11 _ _ (sk fun K14 hK14 => (wt (oM rfl (oS rfl (Yk.callA1 ls6_pl31 (vr (St ((cutP [111, 45] s).1)) rfl) ((unhex_any _ (cutP [111, 45] s).1 (Nat.le_trans (cut_le _ _) hs)).mono ?_)))))))))))))))
 rintro e w16 ⟨rfl, hx15⟩
 refine ⟨_, rfl, ?_⟩
 have hbd := eb hx15 hbd
 have hE := hE.trans hx15
 have hb9 := eb hx15 hb9
 refine oM rfl (oS rfl (Yk.extract (vs := [AB ((unhex (cutP [111, 45] s).1).1), .bool ((unhex (cutP [111, 45] s).1).2)]) (vr (.tuple #[AB ((unhex (cutP [111, 45] s).1).1), .bool ((unhex (cutP [111, 45] s).1).2)]) rfl) (show _ = some (AB ((unhex (cutP [111, 45] s).1).1) : Value) from rfl) (oS rfl (Yk.extract (vs := [AB ((unhex (cutP [111, 45] s).1).1), .bool ((unhex (cutP [111, 45] s).1).2)]) (vr (.tuple #[AB ((unhex (cutP [111, 45] s).1).1), .bool ((unhex (cutP [111, 45] s).1).2)]) rfl) (show _ = some (.bool ((unhex (cutP [111, 45] s).1).2) : Value) from rfl) (oS rfl (Yk.alloc (cs := (Lib.byteCells (List.replicate 32 0)).toArray) ls6_al26 fun n17 w18 hn19 hb20 hx21 hs22 => ?_))))))
 have hA23 := Ext.refl w16
 have hea24 := hE
 have hz25 := hE.size
 have hlt26 := lte (bl hbd) hn19
 have hlt27 := lte (bl hb9) hn19
 have hbd := eb hx21 hbd
 have hE := hE.trans hx21
 have hb9 := eb hx21 hb9
 have hA23 := hA23.trans hx21
 have hb28 := hb20; clear hb20
 have hl29 : n17 < w18.heap.size := by omega
 refine oS rfl (Yk.storeAll (vr (PQ n17 0) rfl) (vr (AB ((unhex (cutP [111, 45] s).1).1)) rfl) hb28 (by exact idsize (unhex_length _) List.length_replicate) (by exact sizeId_of (unhex_length _)) (byteCells_one _) fun w30 hb31 hg32 hs33 => ?_)
 have hbd := kb hg32 hbd (by omega)
 have hE := row_fresh hE hg32 (Nat.le_trans hz25 (by omega))
 have hb9 := kb hg32 hb9 (by omega)
 have hA23 := row_fresh hA23 hg32 (Nat.le_trans (Nat.le_refl _) (by omega))
 clear hb28
 have hb28 := hb31; clear hb31
 have hl34 := bl hb28
 refine oA rfl (oZ ?_)
 rcases Bool.eq_false_or_eq_true (cutP [111, 45] s).2 with hc | hc
 ·rcases Bool.eq_false_or_eq_true (unhex (cutP [111, 45] s).1).2 with hu | hu
  ·refine tN (hK14 _ _ (sk fun K35 hK35 => ?_))
   refine wpF_draw_lateP 9 10 [Is (AB ((unhex (cutP [111, 45] s).1).1)), Is (.bool (true)), Is (.bool (true)), Is (.bool (true)), Is (.bool (true)), Is (.bool (true)), Is (PQ g 0), Is (AB ((unhex (cutP [111, 45] s).1).1)), Is (.bool (decide ((getL D (unhex (cutP [111, 45] s).1).1).2 = 0))), Is (.bool (decide ((getL D (unhex (cutP [111, 45] s).1).1).2 = 0)))] (by kernel_rfl) [19, 20, 21, 22, 23, 24, 25, 26, 27, 28, 4] (by kernel_rfl) rfl (by kernel_rfl) (by kernel_rfl) (by kernel_rfl) (by kernel_rfl) (by kernel_rfl) (by kernel_rfl) rfl rfl (si10 trivial) (fun _ _ _ _ h => h) ?hs1003 ?hQ1003
   case hs1003 =>
    refine ⟨?_, ?_, ?_, ?_, ?_, ?_, ?_, ?_, ?_, ?_, ?_, ?_, trivial⟩
    ·refine stepFC (stepN rfl fun σ w1 hC h => ?_)
     have e7 : σ 7 = PQ n17 0 := (eqo (h 7 (by decide))).trans rfl
     exact Yk.loadAll e7 (eb hC hb28) ls6_ty26 rfl (by exact sizeId_of (unhex_length _)) ⟨Ext.refl _, rfl⟩
    ·refine stepFC (stepN rfl fun σ w1 hC h => ?_)
     have e6 : σ 6 = .bool (true) := (eqo (h 6 (by decide))).trans ((show _ = Value.bool (cutP [111, 45] s).2 from rfl).trans (congrArg Value.bool hc))
     exact Yk.move e6 ⟨Ext.refl _, rfl⟩
    ·refine stepFC (stepN rfl fun σ w1 hC h => ?_)
     have e20 := eqo (h 20 (by decide))
     exact Yk.move e20 ⟨Ext.refl _, rfl⟩
    ·refine stepFC (stepY 2 true 21 rfl rfl (fun _ _ h => h) fun σ w1 hC h => ?_)
     have e8 : σ 8 = .bool (true) := (eqo (h 8 (by decide))).trans ((show _ = Value.bool (unhex (cutP [111, 45] s).1).2 from rfl).trans (congrArg Value.bool hu))
     exact Yk.move e8 ⟨Ext.refl _, rfl⟩
    ·refine stepFC (stepN rfl fun σ w1 hC h => ?_)
     have e21 := eqo (h 21 (by decide))
     have e22 := eqo (h 22 (by decide))
     exact Yk.pickT e21 e22 ⟨Ext.refl _, rfl⟩
    ·refine stepFC (stepN rfl fun σ w1 hC h => ?_)
     have e23 := eqo (h 23 (by decide))
     exact Yk.move e23 ⟨Ext.refl _, rfl⟩
    ·refine stepFC (stepY 5 true 24 rfl rfl (fun _ _ h => h) fun σ w1 hC h => ?_)
     have e1 := (eqo (h 1 (by decide))).trans T1
     exact Yk.cell1 ls6_ty23 rfl e1 (cellAt (eb hC hbd) (show _ = some (PQ g 0 : Value) from rfl)) ⟨Ext.refl _, rfl⟩
    ·refine stepFC (stepY 5 true 24 rfl rfl (fun _ _ h => h) fun σ w1 hC h => ?_)
     have e7 : σ 7 = PQ n17 0 := (eqo (h 7 (by decide))).trans rfl
     exact Yk.loadAll e7 (eb hC hb28) ls6_ty26 rfl (by exact sizeId_of (unhex_length _)) ⟨Ext.refl _, rfl⟩
    ·refine stepFC (stepY 5 true 24 rfl rfl (fun _ _ h => h) fun σ w1 hC h => ?_)
     have e25 := eqo (h 25 (by decide))
     have e26 := eqo (h 26 (by decide))
     refine Yk.callA2 ls6_pl17 e25 e26 ((lhas_at wb _ g H D (hD.keep (hE.trans hC)) hG hL (unhex (cutP [111, 45] s).1).1 (unhex_length _)).mono ?_)
     rintro e w2 ⟨rfl, hx⟩
     exact ⟨_, rfl, hx, rfl⟩
    ·refine stepFC (stepN rfl fun σ w1 hC h => ?_)
     have e24 := eqo (h 24 (by decide))
     have e27 := eqo (h 27 (by decide))
     exact Yk.pickT e24 e27 ⟨Ext.refl _, rfl⟩
    ·exact trivial
    ·exact trivial
   intro ρ36 w37 hx38 he hf
   obtain ⟨k19, -, -, -, -, -, -, -, -, k28, -⟩ := hf
   obtain ⟨T0, T1, T3, T5, T6, T7, T8, -⟩ := he.hold [(0, _), (1, _), (3, PQ n2 0), (5, St ((cutP [111, 45] s).1)), (6, _), (7, PQ n17 0), (8, _)] ⟨T0, T1, rfl, rfl, ((show _ = Value.bool (cutP [111, 45] s).2 from rfl).trans (congrArg Value.bool hc)), rfl, ((show _ = Value.bool (unhex (cutP [111, 45] s).1).2 from rfl).trans (congrArg Value.bool hu)), trivial⟩ rfl
   clear he
   have hbd := eb hx38 hbd
   have hE := hE.trans hx38
   have hb9 := eb hx38 hb9
   have hA23 := hA23.trans hx38
   have hb28 := eb hx38 hb28
   have T19 : ρ36 19 = AB ((unhex (cutP [111, 45] s).1).1) := k19
   have T28 : ρ36 28 = .bool (decide ((getL D (unhex (cutP [111, 45] s).1).1).2 = 0)) := k28
   clear k19 k28
   refine oS rfl (Yk.storeAll T3 T19 hb9 (by exact idsize (unhex_length _) List.length_replicate) (by exact sizeId_of (unhex_length _)) (byteCells_one _) fun w39 hb40 hg41 hs42 => ?_)
   have hbd := kb hg41 hbd (by omega)
   have hE := row_fresh hE hg41 (Nat.le_trans (Nat.le_refl _) (by omega))
   clear hA23
   have hb28 := kb hg41 hb28 (by omega)
   clear hb9
   have hb9 := hb40; clear hb40
   have hl43 := bl hb9
   refine oA rfl (oZ (tN (hK35 _ _ (wpF_ret (postF_ret (fn := Tryd.f29) _ rfl [AB ((unhex (cutP [111, 45] s).1).1), .bool (decide ((getL D (unhex (cutP [111, 45] s).1).1).2 = 0))] (.tuple #[AB ((unhex (cutP [111, 45] s).1).1), .bool (decide ((getL D (unhex (cutP [111, 45] s).1).1).2 = 0))]) rfl ⟨ResF.row T3 hb9 ls6_ty26 rfl (by exact sizeId_of (unhex_length _)), T28, trivial⟩ ?_)))))
   exact ⟨by rw [idOf_yes hc hu], hE⟩
  refine tN (hK14 _ _ (sk fun K44 hK44 => ?_))
  refine wpF_draw_lateP 9 10 [Is (AB ((unhex (cutP [111, 45] s).1).1)), Is (.bool (true)), Is (.bool (true)), Is (.bool (false)), Is (.bool (false)), Is (.bool (false)), Is undef, Is undef, Is undef, Is (.bool (false))] (by kernel_rfl) [19, 20, 21, 22, 23, 24, 25, 26, 27, 28, 4] (by kernel_rfl) rfl (by kernel_rfl) (by kernel_rfl) (by kernel_rfl) (by kernel_rfl) (by kernel_rfl) (by kernel_rfl) rfl rfl (si10 trivial) (fun _ _ _ _ h => h) ?hs2003 ?hQ2003
  case hs2003 =>
   refine ⟨?_, ?_, ?_, ?_, ?_, ?_, ?_, ?_, ?_, ?_, ?_, ?_, trivial⟩
   ·refine stepFC (stepN rfl fun σ w1 hC h => ?_)
    have e7 : σ 7 = PQ n17 0 := (eqo (h 7 (by decide))).trans rfl
    exact Yk.loadAll e7 (eb hC hb28) ls6_ty26 rfl (by exact sizeId_of (unhex_length _)) ⟨Ext.refl _, rfl⟩
   ·refine stepFC (stepN rfl fun σ w1 hC h => ?_)
    have e6 : σ 6 = .bool (true) := (eqo (h 6 (by decide))).trans ((show _ = Value.bool (cutP [111, 45] s).2 from rfl).trans (congrArg Value.bool hc))
    exact Yk.move e6 ⟨Ext.refl _, rfl⟩
   ·refine stepFC (stepN rfl fun σ w1 hC h => ?_)
    have e20 := eqo (h 20 (by decide))
    exact Yk.move e20 ⟨Ext.refl _, rfl⟩
   ·refine stepFC (stepY 2 true 21 rfl rfl (fun _ _ h => h) fun σ w1 hC h => ?_)
    have e8 : σ 8 = .bool (false) := (eqo (h 8 (by decide))).trans ((show _ = Value.bool (unhex (cutP [111, 45] s).1).2 from rfl).trans (congrArg Value.bool hu))
    exact Yk.move e8 ⟨Ext.refl _, rfl⟩
   ·refine stepFC (stepN rfl fun σ w1 hC h => ?_)
    have e21 := eqo (h 21 (by decide))
    have e22 := eqo (h 22 (by decide))
    exact Yk.pickT e21 e22 ⟨Ext.refl _, rfl⟩
   ·refine stepFC (stepN rfl fun σ w1 hC h => ?_)
    have e23 := eqo (h 23 (by decide))
    exact Yk.move e23 ⟨Ext.refl _, rfl⟩
   ·refine stepFC (stepX 5 true 24 rfl rfl (fun x _ (h : x = .bool false) => by rw [h]; intro h; cases h) fun _ => rfl)
   ·refine stepFC (stepX 5 true 24 rfl rfl (fun x _ (h : x = .bool false) => by rw [h]; intro h; cases h) fun _ => rfl)
   ·refine stepFC (stepX 5 true 24 rfl rfl (fun x _ (h : x = .bool false) => by rw [h]; intro h; cases h) fun _ => rfl)
   ·refine stepFC (stepN rfl fun σ w1 hC h => ?_)
    have e24 := eqo (h 24 (by decide))
    exact Yk.pickF e24 (vr (.bool (false)) rfl) ⟨Ext.refl _, rfl⟩
   ·exact trivial
   ·exact trivial
  intro ρ45 w46 hx47 he hf
  obtain ⟨k19, -, -, -, -, -, -, -, -, k28, -⟩ := hf
  obtain ⟨T0, T1, T3, T5, T6, T7, T8, -⟩ := he.hold [(0, _), (1, _), (3, PQ n2 0), (5, St ((cutP [111, 45] s).1)), (6, _), (7, PQ n17 0), (8, _)] ⟨T0, T1, rfl, rfl, ((show _ = Value.bool (cutP [111, 45] s).2 from rfl).trans (congrArg Value.bool hc)), rfl, ((show _ = Value.bool (unhex (cutP [111, 45] s).1).2 from rfl).trans (congrArg Value.bool hu)), trivial⟩ rfl
  clear he
  have hbd := eb hx47 hbd
  have hE := hE.trans hx47
  have hb9 := eb hx47 hb9
  have hA23 := hA23.trans hx47
  have hb28 := eb hx47 hb28
  have T19 : ρ45 19 = AB ((unhex (cutP [111, 45] s).1).1) := k19
  have T28 : ρ45 28 = .bool (false) := k28
  clear k19 k28
  refine oS rfl (Yk.storeAll T3 T19 hb9 (by exact idsize (unhex_length _) List.length_replicate) (by exact sizeId_of (unhex_length _)) (byteCells_one _) fun w48 hb49 hg50 hs51 => ?_)
  have hbd := kb hg50 hbd (by omega)
  have hE := row_fresh hE hg50 (Nat.le_trans (Nat.le_refl _) (by omega))
  clear hA23
  have hb28 := kb hg50 hb28 (by omega)
  clear hb9
  have hb9 := hb49; clear hb49
  have hl52 := bl hb9
  refine oA rfl (oZ (tN (hK44 _ _ (wpF_ret (postF_ret (fn := Tryd.f29) _ rfl [AB ((unhex (cutP [111, 45] s).1).1), .bool (false)] (.tuple #[AB ((unhex (cutP [111, 45] s).1).1), .bool (false)]) rfl ⟨ResF.row T3 hb9 ls6_ty26 rfl (by exact sizeId_of (unhex_length _)), T28, trivial⟩ ?_)))))
  exact ⟨by rw [idOf_nohex hu], hE⟩
 refine tN (hK14 _ _ (sk fun K53 hK53 => ?_))
 refine wpF_draw_lateP 9 10 [Is (AB ((unhex (cutP [111, 45] s).1).1)), Is (.bool (false)), Is (.bool (false)), Is undef, Is (.bool (false)), Is (.bool (false)), Is undef, Is undef, Is undef, Is (.bool (false))] (by kernel_rfl) [19, 20, 21, 22, 23, 24, 25, 26, 27, 28, 4] (by kernel_rfl) rfl (by kernel_rfl) (by kernel_rfl) (by kernel_rfl) (by kernel_rfl) (by kernel_rfl) (by kernel_rfl) rfl rfl (si10 trivial) (fun _ _ _ _ h => h) ?hs3003 ?hQ3003
 case hs3003 =>
  refine ⟨?_, ?_, ?_, ?_, ?_, ?_, ?_, ?_, ?_, ?_, ?_, ?_, trivial⟩
  ·refine stepFC (stepN rfl fun σ w1 hC h => ?_)
   have e7 : σ 7 = PQ n17 0 := (eqo (h 7 (by decide))).trans rfl
   exact Yk.loadAll e7 (eb hC hb28) ls6_ty26 rfl (by exact sizeId_of (unhex_length _)) ⟨Ext.refl _, rfl⟩
  ·refine stepFC (stepN rfl fun σ w1 hC h => ?_)
   have e6 : σ 6 = .bool (false) := (eqo (h 6 (by decide))).trans ((show _ = Value.bool (cutP [111, 45] s).2 from rfl).trans (congrArg Value.bool hc))
   exact Yk.move e6 ⟨Ext.refl _, rfl⟩
  ·refine stepFC (stepN rfl fun σ w1 hC h => ?_)
   have e20 := eqo (h 20 (by decide))
   exact Yk.move e20 ⟨Ext.refl _, rfl⟩
  ·refine stepFC (stepX 2 true 21 rfl rfl (fun x _ (h : x = .bool false) => by rw [h]; intro h; cases h) fun _ => rfl)
  ·refine stepFC (stepN rfl fun σ w1 hC h => ?_)
   have e21 := eqo (h 21 (by decide))
   exact Yk.pickF e21 (vr (.bool (false)) rfl) ⟨Ext.refl _, rfl⟩
  ·refine stepFC (stepN rfl fun σ w1 hC h => ?_)
   have e23 := eqo (h 23 (by decide))
   exact Yk.move e23 ⟨Ext.refl _, rfl⟩
  ·refine stepFC (stepX 5 true 24 rfl rfl (fun x _ (h : x = .bool false) => by rw [h]; intro h; cases h) fun _ => rfl)
  ·refine stepFC (stepX 5 true 24 rfl rfl (fun x _ (h : x = .bool false) => by rw [h]; intro h; cases h) fun _ => rfl)
  ·refine stepFC (stepX 5 true 24 rfl rfl (fun x _ (h : x = .bool false) => by rw [h]; intro h; cases h) fun _ => rfl)
  ·refine stepFC (stepN rfl fun σ w1 hC h => ?_)
   have e24 := eqo (h 24 (by decide))
   exact Yk.pickF e24 (vr (.bool (false)) rfl) ⟨Ext.refl _, rfl⟩
  ·exact trivial
  ·exact trivial
 intro ρ54 w55 hx56 he hf
 obtain ⟨k19, -, -, -, -, -, -, -, -, k28, -⟩ := hf
 obtain ⟨T0, T1, T3, T5, T6, T7, T8, -⟩ := he.hold [(0, _), (1, _), (3, PQ n2 0), (5, St ((cutP [111, 45] s).1)), (6, _), (7, PQ n17 0), (8, .bool ((unhex (cutP [111, 45] s).1).2))] ⟨T0, T1, rfl, rfl, ((show _ = Value.bool (cutP [111, 45] s).2 from rfl).trans (congrArg Value.bool hc)), rfl, rfl, trivial⟩ rfl
 clear he
 have hbd := eb hx56 hbd
 have hE := hE.trans hx56
 have hb9 := eb hx56 hb9
 have hA23 := hA23.trans hx56
 have hb28 := eb hx56 hb28
 have T19 : ρ54 19 = AB ((unhex (cutP [111, 45] s).1).1) := k19
 have T28 : ρ54 28 = .bool (false) := k28
 clear k19 k28
 refine oS rfl (Yk.storeAll T3 T19 hb9 (by exact idsize (unhex_length _) List.length_replicate) (by exact sizeId_of (unhex_length _)) (byteCells_one _) fun w57 hb58 hg59 hs60 => ?_)
 have hbd := kb hg59 hbd (by omega)
 have hE := row_fresh hE hg59 (Nat.le_trans (Nat.le_refl _) (by omega))
 clear hA23
 have hb28 := kb hg59 hb28 (by omega)
 clear hb9
 have hb9 := hb58; clear hb58
 have hl61 := bl hb9
 refine oA rfl (oZ (tN (hK53 _ _ (wpF_ret (postF_ret (fn := Tryd.f29) _ rfl [AB ((unhex (cutP [111, 45] s).1).1), .bool (false)] (.tuple #[AB ((unhex (cutP [111, 45] s).1).1), .bool (false)]) rfl ⟨ResF.row T3 hb9 ls6_ty26 rfl (by exact sizeId_of (unhex_length _)), T28, trivial⟩ ?_)))))
 exact ⟨by rw [idOf_no hc], hE⟩

theorem llist_at (wb w : World) (g : Nat) (H : Dk) (D : Dsk) (hD : DkG wb w g H D) (hG : Laid wb) (hL : DLt D) (hnm : (listD D).length ≤ 100000) :
  Calls Tryd.prog 9 #[PQ g 0] w fun e w' => ∃ v o, e = .returned v ∧ OG w.heap.size 26 32 (Lib.byteCells) w' v o ∧ SAsc o ∧ (∀ x, x ∈ o ↔ x ∈ idsL D) ∧ o.length ≤ (idsL D).length ∧ Ext w w' := by
 refine calls_of_wpF (args := [PQ g 0]) Tryd.func9 rfl 31 rfl (Nat.le_of_ble_eq_true rfl) ?_
 intro ρ0 hb
 have T0 : ρ0 0 = (PQ g 0 : Value) := hb.get 0
 clear hb
 have hE := Ext.refl w
 refine sk fun K1 hK1 => (wt (oS rfl (Yk.box1 T0 rfl fun n2 w3 hn4 hb5 hx6 hs7 => ?_)))
 have hE := hE.trans hx6
 have hb8 := hb5; clear hb5
 have hl9 : n2 < w3.heap.size := by omega
 refine oA rfl (oZ (tN (hK1 _ _ (sk fun K10 hK10 => (wt (oS rfl (Yk.mkFunc (vs := #[PQ n2 0]) (by simp only [List.map_toArray, List.map_cons, List.map_nil]; exact congrArg List.toArray (list1 (vr (PQ n2 0) rfl))) (oA rfl (oZ (tN (hK10 _ _ (sk fun K11 hK11 => (wt (oA rfl (oZ (tN (hK11 _ _ (sk fun K12 hK12 => (sk fun K13 hK13 => ?_)))))))))))))))))))
 refine wt (oS rfl (Yk.cell1 ls6_ty23 rfl (vr (PQ n2 0) rfl) (cellAt hb8 (show _ = some (PQ g 0 : Value) from rfl)) ?_))
 have hA17 := Ext.refl w3
 have hea18 := hE
 have hz19 := hE.size
 refine oS rfl (Yk.callA1 ls6_pl32 (vr (PQ g 0) rfl) (((hD.keep hE).list hL).mono ?_))
 rintro e w20 ⟨v14, rfl, ho15, hx16⟩
 refine ⟨_, rfl, ?_⟩
 have hap21 : OB v14 n2 := own_older ho15.2 (bl hb8)
 have hE := hE.trans hx16
 have hb8 := eb hx16 hb8
 have hA17 := hA17.trans hx16
 have hr22 := RG.ofOwn ho15
 refine oS rfl (Yk.lenRG ls6_ty64 (RG.of hr22 (vr v14 rfl)) (oM rfl (oL_ [(0, PQ g 0), (1, PQ n2 0), (2, (Value.slice none 0 0)), (3, .func (.func 29) #[] #[PQ n2 0]), (4, (Value.slice none 0 0)), (11, v14), (12, NI (((listD D)).length)), (13, NI 0)] ⟨T0, rfl, rfl, rfl, rfl, rfl, rfl, rfl, trivial⟩ fun ρ23 ⟨T0, T1, T2, T3, T4, T11, T12, T13, _⟩ => ?_)))
 have hA24 := Ext.refl w20
 have hea25 := hE
 have hea26 := hA17
 have hz27 := hE.size
 have hz28 := hA17.size
 have hrow0 : OG w20.heap.size 26 32 (Lib.byteCells) w20 (Value.slice none 0 0) ([] : List (List UInt8)) := OG.nil _ _ _ _ _
 have hap29 : Value.ownBlock (Value.slice none 0 0) ≠ some n2 := fun e_ => by cases e_
 have hDk := hD
 have hL100 := hnm
 refine tN (hK13 _ _ (wpF_block (wpF_loop (fun (ρ : Slots) (wz : World) => ∃ i : Nat, ∃ r : Value, ρ 0 = (PQ g 0 : Value) ∧ ρ 1 = (PQ n2 0 : Value) ∧ ρ 2 = ((Value.slice none 0 0) : Value) ∧ ρ 3 = (.func (.func 29) #[] #[PQ n2 0] : Value) ∧ ρ 11 = (v14 : Value) ∧ ρ 12 = (NI (((listD D)).length) : Value) ∧ ρ 13 = (NI i : Value) ∧ ρ 4 = (r : Value) ∧ Ext w wz ∧ wz.heap[n2]? = some (.cells (([PQ g 0] : List Value)).toArray 23 (0, 0)) ∧ Ext w20 wz ∧ OG w20.heap.size 26 32 (Lib.byteCells) wz r (((listD D).take i).filterMap (idOf D)) ∧ (i ≤ (listD D).length) ∧ (OB r n2) ∧ True) (fun ρ _ => (listD D).length - (intOf (ρ 13)).toNat) ⟨0, (Value.slice none 0 0), T0, T1, T2, T3, T11, T12, T13, T4, hE, hb8, hA24, og_eq hrow0 (rfl), Nat.zero_le _, hap29, trivial⟩ ?_)))
 clear hA17
 clear hrow0
 clear hE hb8 hA24
 rintro ρ30 w31 ⟨i, r, T0, T1, T2, T3, T11, T12, T13, T4, hE, hb8, hA24, hr_r, hi, hap_r_n2, -⟩
 have q13 := T13
 refine sk fun K32 hK32 => (wt (oS rfl (Yk.eqI (a := (i : Nat)) (b := (((listD D)).length : Nat)) T13 T12 (k_lss _ _ _ _) (oZ (tN (hK32 _ _ (sk fun K33 hK33 => ?_)))))))
 refine wpF_cond ((i) < (((listD D)).length)) (vr (.bool (decide ((i) < (((listD D)).length)))) rfl) (fun hc0 => ?_) (fun hc0 => ?_)
 ·have hlt : i < (listD D).length := hc0
  have hel := list_name hDk.st.ok hlt
  have hfl : (((listD D).take i).filterMap (idOf D)).length ≤ i := Nat.le_trans (List.length_filterMap_le _ _) (by rw [List.length_take]; exact Nat.min_le_left _ _)
  refine wpF_skip (tN (hK33 _ _ (sk fun K34 hK34 => (wpF_block (sk fun K35 hK35 => (wt ?_))))))
  have hl38 : (enS (((listD D)).getD (i) ([] : List UInt8))).length = 1 := (RG.elem (hr22.keep hA24) ([] : List UInt8) (by omega))
  refine oS rfl (Yk.atRG ls6_ty64 ls6_szg9 (by decide) ([] : List UInt8) (RG.of (hr22.keep hA24) T11) T13 (by omega) fun v36 hp37 => (oS rfl (Yk.loadC ls6_ty9 rfl (PR.cell (PR.of hp37 (vr v36 rfl)) (show _ = some (St (((listD D)).getD (i) ([] : List UInt8)) : Value) from rfl)) (oA rfl (oZ ?_)))))
  clear hp37
  refine tN (hK35 _ _ (sk fun K39 hK39 => (wt (oM rfl (oM rfl (oS rfl (Yk.clo ls6_pl29 (caps := #[PQ n2 0]) T3 #[St (((listD D)).getD (i) ([] : List UInt8)), PQ n2 0] (by simp only [List.map_toArray, List.map_cons, List.map_nil, List.append_toArray, List.cons_append, List.nil_append]; exact congrArg List.toArray (list2 (vr (St (((listD D)).getD (i) ([] : List UInt8))) rfl) rfl)) ((listOf_at wb _ g H D (hD.keep hE) hG hL ((listD D).getD (i) ([] : List UInt8)) (by omega) n2 hb8).mono ?_))))))))
  rintro e w41 ⟨rfl, hx40⟩
  refine ⟨_, rfl, ?_⟩
  have hE := hE.trans hx40
  have hb8 := eb hx40 hb8
  have hA24 := hA24.trans hx40
  have hr_r := hr_r.keep hx40
  refine oM rfl (oS rfl (Yk.extract (vs := [AB ((unhex (cutP [111, 45] ((listD D).getD (i) ([] : List UInt8))).1).1), .bool ((idOf D ((listD D).getD (i) ([] : List UInt8))).isSome)]) (vr (.tuple #[AB ((unhex (cutP [111, 45] ((listD D).getD (i) ([] : List UInt8))).1).1), .bool ((idOf D ((listD D).getD (i) ([] : List UInt8))).isSome)]) rfl) (show _ = some (AB ((unhex (cutP [111, 45] ((listD D).getD (i) ([] : List UInt8))).1).1) : Value) from rfl) (oS rfl (Yk.extract (vs := [AB ((unhex (cutP [111, 45] ((listD D).getD (i) ([] : List UInt8))).1).1), .bool ((idOf D ((listD D).getD (i) ([] : List UInt8))).isSome)]) (vr (.tuple #[AB ((unhex (cutP [111, 45] ((listD D).getD (i) ([] : List UInt8))).1).1), .bool ((idOf D ((listD D).getD (i) ([] : List UInt8))).isSome)]) rfl) (show _ = some (.bool ((idOf D ((listD D).getD (i) ([] : List UInt8))).isSome) : Value) from rfl) (oS rfl (Yk.alloc (cs := (Lib.byteCells (List.replicate 32 0)).toArray) ls6_al26 fun n42 w43 hn44 hb45 hx46 hs47 => ?_))))))
  have hA48 := Ext.refl w41
  have hea49 := hE
  have hea50 := hA24
  have hz51 := hE.size
  have hz52 := hA24.size
  have hlt53 := lte (bl hb8) hn44
  have hap54 : OB r n42 := own_newer hr_r.2 (by omega)
  have hE := hE.trans hx46
  have hb8 := eb hx46 hb8
  have hA24 := hA24.trans hx46
  have hr_r := hr_r.keep hx46
  have hA48 := hA48.trans hx46
  have hb55 := hb45; clear hb45
  have hl56 : n42 < w43.heap.size := by omega
  refine oS rfl (Yk.storeAll (vr (PQ n42 0) rfl) (vr (AB ((unhex (cutP [111, 45] ((listD D).getD (i) ([] : List UInt8))).1).1)) rfl) hb55 (by exact idsize (unhex_length _) List.length_replicate) (by exact sizeId_of (unhex_length _)) (byteCells_one _) fun w57 hb58 hg59 hs60 => ?_)
  have hE := row_fresh hE hg59 (Nat.le_trans hz51 (by omega))
  have hb8 := kb hg59 hb8 (by omega)
  have hA24 := row_fresh hA24 hg59 (Nat.le_trans hz52 (by omega))
  have hr_r := OG.kept hr_r hg59 hap54
  have hA48 := row_fresh hA48 hg59 (Nat.le_trans (Nat.le_refl _) (by omega))
  clear hb55
  have hb55 := hb58; clear hb58
  have hl61 := bl hb55
  refine oA rfl (oZ (tN (hK39 _ _ (sk fun K62 hK62 => (wt (oM rfl (oZ (tN (hK62 _ _ ?_)))))))))
  refine wpF_condB ((idOf D ((listD D).getD (i) ([] : List UInt8))).isSome) (vr (.bool ((idOf D ((listD D).getD (i) ([] : List UInt8))).isSome)) rfl) (fun hc1 => ?_) (fun hc1 => ?_)
  ·have hi1 : idOf D ((listD D).getD (i) ([] : List UInt8)) = some (unhex (cutP [111, 45] ((listD D).getD (i) ([] : List UInt8))).1).1 := idOf_some hc1
   refine wt (oM rfl (oS rfl (Yk.loadAll (vr (PQ n42 0) rfl) hb55 ls6_ty26 rfl (by exact sizeId_of (unhex_length _)) (oS rfl (Yk.lit1G (a := (unhex (cutP [111, 45] ((listD D).getD (i) ([] : List UInt8))).1).1) (enc := Lib.byteCells) (vr (AB ((unhex (cutP [111, 45] ((listD D).getD (i) ([] : List UInt8))).1).1)) rfl) ((by rw [Lib.byteCells_length, (unhex_length _)])) ls6_lg31 fun v63 w64 hr65 hx66 => ?_)))))
   have hE := hE.trans hx66
   have hb8 := eb hx66 hb8
   have hA24 := hA24.trans hx66
   have hr_r := hr_r.keep hx66
   have hA48 := hA48.trans hx66
   have hb55 := eb hx66 hb55
   refine oS rfl (Yk.appendRG _ _ w20.heap.size _ 32 ls6_ty31 ls6_ig26.choose_spec.1 ls6_ig26.choose_spec.2 ls6_ty31 (((listD D).take i).filterMap (idOf D)) ([(unhex (cutP [111, 45] ((listD D).getD (i) ([] : List UInt8))).1).1]) (OG.of hr_r T4) (RG.of hr65 (vr v63 rfl)) (fun y _ => byteCells_one y) (by simp only [List.length_singleton]; omega) (by simp only [List.length_singleton]; omega) hA24.size fun v67 w68 ho69 hg70 => ?_)
   have hg70 : Grew w64 w68 r v67 := .eqv T4 hg70
   have hap71 : OB v67 n2 := apart_grew hg70 hap_r_n2 (bl hb8)
   have hap72 : OB v67 n42 := apart_grew hg70 hap54 (bl hb55)
   have hE := ext_grew hE hg70 hr_r.2 hz27
   have hb8 := blk_grew hb8 hg70 hap_r_n2
   have hA24 := ext_grew hA24 hg70 hr_r.2 (Nat.le_refl _)
   clear hA48
   have hb55 := blk_grew hb55 hg70 hap54
   clear hr65
   clear hr_r
   refine oA rfl (oZ (bN (tN (hK34 _ _ (wt (oS rfl (Yk.bin (xv := NI i) (yv := NI 1) T13 rfl rfl (i64_add _ _ _ (by omega)) (oM rfl (oL_ [(0, PQ g 0), (1, PQ n2 0), (2, (Value.slice none 0 0)), (3, .func (.func 29) #[] #[PQ n2 0]), (4, v67), (6, St (((listD D)).getD (i) ([] : List UInt8))), (7, PQ n42 0), (8, .bool ((idOf D ((listD D).getD (i) ([] : List UInt8))).isSome)), (11, v14), (12, NI (((listD D)).length)), (13, NI ((i) + (1)))] ⟨T0, T1, T2, T3, rfl, rfl, rfl, rfl, T11, T12, rfl, trivial⟩ fun ρ73 ⟨T0, T1, T2, T3, T4, T6, T7, T8, T11, T12, T13, _⟩ => (tN (And.intro ⟨i + 1, v67, T0, T1, T2, T3, T11, T12, T13, T4, hE, hb8, hA24, og_eq ho69 ((ids_yes hlt hi1)), by omega, hap71, trivial⟩ ?_)))))))))))
   show (listD D).length - (intOf (ρ73 13)).toNat < (listD D).length - (intOf (ρ30 13)).toNat
   rw [T13, q13]
   simp only [intOf, Int.toNat_natCast]; omega
  have hi0 : idOf D ((listD D).getD (i) ([] : List UInt8)) = none := by simpa using hc1
  refine wpF_skip (bN (tN (hK34 _ _ (wt (oS rfl (Yk.bin (xv := NI i) (yv := NI 1) T13 rfl rfl (i64_add _ _ _ (by omega)) (oM rfl (oL_ [(0, PQ g 0), (1, PQ n2 0), (2, (Value.slice none 0 0)), (3, .func (.func 29) #[] #[PQ n2 0]), (4, r), (6, St (((listD D)).getD (i) ([] : List UInt8))), (7, PQ n42 0), (8, .bool ((idOf D ((listD D).getD (i) ([] : List UInt8))).isSome)), (11, v14), (12, NI (((listD D)).length)), (13, NI ((i) + (1)))] ⟨T0, T1, T2, T3, T4, rfl, rfl, rfl, T11, T12, rfl, trivial⟩ fun ρ74 ⟨T0, T1, T2, T3, T4, T6, T7, T8, T11, T12, T13, _⟩ => (tN (And.intro ⟨i + 1, r, T0, T1, T2, T3, T11, T12, T13, T4, hE, hb8, hA24, og_eq hr_r ((ids_no hlt hi0)), by omega, hap_r_n2, trivial⟩ ?_))))))))))
  show (listD D).length - (intOf (ρ74 13)).toNat < (listD D).length - (intOf (ρ30 13)).toNat
  rw [T13, q13]
  simp only [intOf, Int.toNat_natCast]; omega
 have hie : i = (listD D).length := by have h := hc0; omega
 refine wpF_exit (thenF_exit (thenF_exit (inBlockF_hit (tN (hK12 _ _ (sk fun K75 hK75 => (wt (oM rfl ?_))))))))
 have hrl : RG 32 (Lib.byteCells) w31 r (idsL D) := rg_eq (RG.ofOwn hr_r) (by rw [hie, List.take_length]; rfl)
 have hsz9 : w.heap.size ≤ w31.heap.size := hE.size
 refine oS rfl (Yk.callA1 ls6_pl33 T4 ((set_any _ _ (idsL D) hrl (ids_len hL100)).mono ?_))
 rintro e w79 ⟨v76, o, rfl, ho77, hS, hM, hN, hx78⟩
 refine ⟨_, rfl, ?_⟩
 have hE := hE.trans hx78
 have hb8 := eb hx78 hb8
 have hA24 := hA24.trans hx78
 have hr_r := hr_r.keep hx78
 have ho9 := ho77
 refine oA rfl (oZ (tN (hK75 _ _ (wpF_ret (postF_ret (fn := Tryd.f9) _ rfl [v76] (v76) rfl ⟨rfl, trivial⟩ ?_)))))
 exact ⟨_, o, rfl, OG.low ho9 hsz9, hS, hM, hN, hE⟩
open Go.RowKit
set_option linter.unusedVariables false
theorem DkG.og {wb w w' : World} {g : Nat} {H : Dk} {D : Dsk} (h : DkG wb w g H D) (hc : Chg (Foot H D.files.length) w w') {α : Type} {b k : Nat} {t : TypeId} {enc : α → List Value} {v : Value} {l : List α} (hr : OG b t k enc w v l) (h1 : t ≠ 55) (h2 : t ≠ 71) (h3 : t ≠ 5) (h4 : t ≠ 73) : OG b t k enc w' v l := by
  refine ⟨hr.1, ownsRow_chg hc hr.2 fun i hi q => ?_⟩
  have ht := tag_own hr.2 hi
  rcases (h.st.foot q).1 with ⟨es, c, e⟩ | ⟨cs, t', fr, e, ht'⟩
  · unfold tagW at ht
    rw [e] at ht
    cases ht
  · have := tag_cells e
    rw [this] at ht
    have ht : t' = t := by simpa using ht
    subst ht
    rcases ht' with q | q | q | q
    · exact h1 q
    · exact h2 q
    · exact h3 q
    · exact h4 q
theorem read_ok {D : Dsk} {s : List UInt8} {k : Nat} (hd : D.down = false) (hm : mayD s = true) (h : lookD D.now s = some k) : readD D s = ((fileD D k).1, 0) := by
  have h0 : readyD D s s = 0 := by
    unfold readyD
    rw [if_neg (by rw [hd]; decide), if_pos ⟨hm, hm⟩]
  unfold readD hasD
  rw [if_neg (by rw [h0]; exact fun q => q rfl), h]
open Go.RowKit
set_option linter.unusedVariables false
theorem file_le {D : Dsk} {m : Nat} (h : ∀ x ∈ D.files, x.1.length ≤ m) (k : Nat) : (fileD D k).1.length ≤ m := by
  by_cases hk : k < D.files.length
  · exact h _ (fileD_mem hk)
  · unfold fileD
    rw [List.getD_eq_getElem?_getD, List.getElem?_eq_none (by omega)]
    exact Nat.zero_le _
theorem used_le {D : Dsk} {c m : Nat} (h1 : D.now.length ≤ c) (h2 : ∀ x ∈ D.files, x.1.length ≤ m) : usedD D ≤ c * m := by
  have h3 := sum_le_mul (l := D.now.map fun e => (fileD D e.2).1.length) (m := m) fun x hx => by
    obtain ⟨e, _, rfl⟩ := List.mem_map.1 hx
    exact file_le h2 e.2
  rw [List.length_map] at h3
  exact Nat.le_trans h3 (Nat.mul_le_mul_right _ h1)
def InjD (l : Dir) : Prop := l.Pairwise fun a b => a.2 ≠ b.2
theorem InjD.wo {l : Dir} (h : InjD l) (s : List UInt8) : InjD (woD l s) := List.Pairwise.sublist List.filter_sublist h
theorem InjD.ins {l : Dir} (h : InjD l) (s : List UInt8) {k : Nat} (hk : ∀ e ∈ l, e.2 ≠ k) : InjD (insD l s k) := by
  unfold insD InjD
  rw [List.pairwise_append]
  refine ⟨h.sublist (List.takeWhile_sublist _), List.pairwise_cons.2 ⟨fun e he => (hk e ((List.dropWhile_sublist _).subset he)).symm, h.sublist (List.dropWhile_sublist _)⟩, fun a ha b hb => ?_⟩
  rcases List.mem_cons.1 hb with rfl | hb
  · exact hk a ((List.takeWhile_sublist _).subset ha)
  · have h2 : (l.takeWhile (fun e => Op.bytesLess e.1 s) ++ l.dropWhile (fun e => Op.bytesLess e.1 s)).Pairwise fun a b => a.2 ≠ b.2 := by rw [List.takeWhile_append_dropWhile]; exact h
    exact (List.pairwise_append.1 h2).2.2 a ha b hb
theorem InjD.turn {l : Dir} (h : InjD l) (a : ActD) (hk : a.to.length ≠ 0 → ∀ e ∈ l, e.2 = a.file → e.1 = a.frm) : InjD (turnD l a) := by
  unfold turnD
  split
  · exact h.wo _
  · rename_i hn
    refine ((h.wo _).wo _).ins _ fun e he q => ?_
    have h1 := wo_mem he
    have h2 := hk hn e (wo_mem h1) q
    have h3 := (List.mem_filter.1 h1).2
    simp [h2] at h3
theorem InjD.add {D : Dsk} (h : InjD D.now) (hok : DOk D) (s b : List UInt8) : InjD (addD D s b).now := by
  unfold addD
  split
  · exact h
  · exact h.turn _ fun _ e he q => absurd (hok.now.num e he) (by rw [q]; exact Nat.lt_irrefl _)
theorem armD_now (D : Dsk) : (armD D).1.now = D.now := by unfold armD; split <;> rfl
open Go.RowKit
set_option linter.unusedVariables false
theorem ready_yes {D : Dsk} {s t : List UInt8} (hd : D.down = false) (hs : mayD s = true) (ht : mayD t = true) : readyD D s t = 0 := by
  unfold readyD
  rw [if_neg (by rw [hd]; decide), if_pos ⟨hs, ht⟩]
theorem arm_no {D : Dsk} (ha : D.arm = 0) : armD D = (D, false) := by
  unfold armD
  exact if_pos ha
theorem append_ok {D : Dsk} {s b : List UInt8} (hd : D.down = false) (ha : D.arm = 0) (hm : mayD s = true) (hq : usedD D + b.length ≤ D.quota) : appendD D s b = (addD D s b, 0) := by
  unfold appendD
  rw [if_neg (by rw [ready_yes hd hm hm]; exact fun q => q rfl), if_neg (by omega), arm_no ha]
  rfl
theorem sync_ok {D : Dsk} {s : List UInt8} {k : Nat} (hd : D.down = false) (ha : D.arm = 0) (hm : mayD s = true) (hk : lookD D.now s = some k) :
    syncD D s = ({ D with files := D.files.set k ((fileD D k).1, (fileD D k).1.length), kept := D.now, acts := [] }, 0) := by
  have h : hasD D s s = .ok k := by
    unfold hasD
    rw [if_neg (by rw [ready_yes hd hm hm]; exact fun q => q rfl), hk]
  unfold syncD
  rw [h]
  show doD D _ = _
  unfold doD
  rw [arm_no ha]
  rfl
theorem getD_set_eq {l : List (List UInt8 × Nat)} {k : Nat} {x : List UInt8 × Nat} (h : k < l.length) : (l.set k x).getD k ([], 0) = x := by
  rw [List.getD_eq_getElem?_getD, List.getElem?_set_self h]
  rfl
structure Sy (D : Dsk) (s : List UInt8) (k n0 : Nat) (al : List UInt8) : Prop where
  down : D.down = false
  arm : D.arm = 0
  ok : DOk D
  may : mayD s = true
  inj : InjD D.now
  now : lookD D.now s = some k
  kept : lookD D.kept s = some k
  acts : ∀ a ∈ D.acts, a.to ≠ s ∧ a.frm ≠ s
  file : fileD D k = (al, n0)
theorem add_arm (D : Dsk) (s b : List UInt8) : (addD D s b).arm = D.arm ∧ (addD D s b).down = D.down := by
  unfold addD
  split <;> exact ⟨rfl, rfl⟩
open Go.RowKit
set_option linter.unusedVariables false
set_option linter.unusedSimpArgs false
structure ReadyL (D : Dsk) : Prop where
  down : D.down = false
  arm : D.arm = 0
  ok : DOk D
  inj : InjD D.now
theorem Sy.ready {D : Dsk} {s al : List UInt8} {k n0 : Nat} (h : Sy D s k n0 al) : ReadyL D := ⟨h.down, h.arm, h.ok, h.inj⟩
theorem nmO_may {b : List UInt8} (h : b.length = 32) : mayD (nmO b) = true := by
  unfold mayD
  rw [nmO_len h]
  rfl
section
variable {D : Dsk} {s b : List UInt8} {k : Nat}
theorem Sy.sync (h : ReadyL D) (hm : mayD s = true) (hk : lookD D.now s = some k) : (syncD D s).2 = 0 ∧ Sy (syncD D s).1 s k (fileD D k).1.length (fileD D k).1 := by
  have e := sync_ok h.down h.arm hm hk
  have hkl := (h.ok.now.look hk).1
  rw [e]
  exact ⟨rfl, h.down, h.arm, h.ok.synced k, hm, h.inj, hk, hk, (fun a h => by cases h), getD_set_eq hkl⟩
theorem drop_ok (hd : D.down = false) (ha : D.arm = 0) (hm : mayD s = true) (hk : lookD D.now s = some k) : dropD D s = (turnedD D ⟨s, [], k⟩, 0) := by
  have h : hasD D s s = .ok k := by
    unfold hasD
    rw [if_neg (by rw [ready_yes hd hm hm]; exact fun q => q rfl), hk]
  unfold dropD
  rw [h]
  show doD D _ = _
  unfold doD
  rw [arm_no ha]
  rfl
theorem ReadyL.dropped (h : ReadyL D) (hm : mayD s = true) (hk : lookD D.now s = some k) : ReadyL (turnedD D ⟨s, [], k⟩) :=
  ⟨h.down, h.arm, h.ok.turned ⟨(h.ok.now.look hk).1, fun q => absurd rfl q, (mayD_pos hm).2⟩, InjD.turn h.inj ⟨s, [], k⟩ fun q => absurd rfl q⟩
theorem look_dropped : lookD (turnedD D ⟨s, [], k⟩).now s = none := by
  show lookD (turnD D.now ⟨s, [], k⟩) s = none
  rw [look_turn, if_pos (show ([] : List UInt8).length = 0 from rfl), if_pos (show s = s from rfl)]
theorem sum_filter (p : List UInt8 × Nat → Bool) (f : List UInt8 × Nat → Nat) : ∀ l : Dir, ((l.filter p).map f).sum ≤ (l.map f).sum
  | [] => Nat.le_refl _
  | e :: r => by
    have ih := sum_filter p f r
    rw [List.filter_cons, List.map_cons, List.sum_cons]
    split
    · rw [List.map_cons, List.sum_cons]; omega
    · omega
theorem used_dropped : usedD (turnedD D ⟨s, [], k⟩) ≤ usedD D := by
  show ((turnD D.now ⟨s, [], k⟩).map fun e => (fileD D e.2).1.length).sum ≤ _
  rw [show turnD D.now ⟨s, [], k⟩ = woD D.now s from if_pos rfl]
  exact sum_filter _ _ _
theorem addL_new (hl : lookD D.now s = none) : addD D s b = { turnedD D ⟨[], s, D.files.length⟩ with files := D.files ++ [(b, 0)] } := by
  unfold addD
  rw [hl]
theorem add_look (hm : mayD s = true) (hl : lookD D.now s = none) : lookD (addD D s b).now s = some D.files.length ∧ fileD (addD D s b) D.files.length = (b, 0) := by
  have h0 := (mayD_pos hm).1
  rw [addL_new hl]
  refine ⟨?_, ?_⟩
  · show lookD (turnD D.now ⟨[], s, D.files.length⟩) s = _
    rw [look_turn, if_neg (show ¬ s.length = 0 by omega), if_pos (show s = s from rfl)]
  · show (D.files ++ [(b, 0)]).getD D.files.length ([], 0) = _
    rw [List.getD_eq_getElem?_getD, List.getElem?_append_right (Nat.le_refl _), Nat.sub_self]
    rfl
theorem ReadyL.add (h : ReadyL D) (hm : mayD s = true) (b : List UInt8) : ReadyL (addD D s b) :=
  ⟨(add_arm D s b).2.trans h.down, (add_arm D s b).1.trans h.arm, h.ok.add b hm, h.inj.add h.ok s b⟩
theorem step_zero {a : Stp} {r : List Stp} (h : (stepD D s a).2 = 0) : stepsD D s (a :: r) = stepsD (stepD D s a).1 s r := by
  rw [steps_cons, if_neg (by rw [h]; exact fun q => q rfl)]
theorem steps_add (h : ReadyL D) (hm : mayD s = true) (hl : lookD D.now s = none) (hq : usedD D + b.length ≤ D.quota) : ∃ D' k, stepsD D s [.add b, .sync] = (D', 0) ∧ Sy D' s k b.length b := by
  have e1 : stepD D s (.add b) = (addD D s b, 0) := append_ok h.down h.arm hm hq
  obtain ⟨l1, l2⟩ := add_look (b := b) hm hl
  obtain ⟨s1, s2⟩ := Sy.sync (h.add hm b) hm l1
  rw [l2] at s2
  refine ⟨(syncD (addD D s b) s).1, D.files.length, ?_, s2⟩
  rw [step_zero (by rw [e1]), e1, step_zero (a := .sync) s1]
  rfl
theorem steps_sync (h : ReadyL D) (hm : mayD s = true) (hk : lookD D.now s = some k) : ∃ D', stepsD D s [.sync] = (D', 0) ∧ Sy D' s k (fileD D k).1.length (fileD D k).1 := by
  obtain ⟨s1, s2⟩ := Sy.sync h hm hk
  refine ⟨(syncD D s).1, ?_, s2⟩
  rw [step_zero (a := .sync) s1]
  rfl
theorem steps_rem (h : ReadyL D) (hm : mayD s = true) (hk : lookD D.now s = some k) (hq : usedD D + b.length ≤ D.quota) : ∃ D' k, stepsD D s [.rem, .add b, .sync] = (D', 0) ∧ Sy D' s k b.length b := by
  have e1 : stepD D s .rem = (turnedD D ⟨s, [], k⟩, 0) := drop_ok h.down h.arm hm hk
  have hu := used_dropped (D := D) (s := s) (k := k)
  obtain ⟨D', k', q1, q2⟩ := steps_add (b := b) (h.dropped hm hk) hm look_dropped (show usedD _ + b.length ≤ D.quota by omega)
  refine ⟨D', k', ?_, q2⟩
  rw [step_zero (by rw [e1]), e1]
  exact q1
theorem read_none (hd : D.down = false) (hm : mayD s = true) (h : lookD D.now s = none) : readD D s = ([], 4) := by
  unfold readD hasD
  rw [if_neg (by rw [ready_yes hd hm hm]; exact fun q => q rfl), h]
theorem fin_ok (D : Dsk) (id : List UInt8) : finL (D, 0) id = (D, id, [], 0) := if_neg fun q => q rfl
theorem put_fine (h : ReadyL D) (hq : usedD D + b.length ≤ D.quota) :
    (∃ c, readD D (nmO (Sha.sum b)) = (c, 0) ∧ c ≠ b ∧ Sha.sum c = Sha.sum b ∧ putL D b = (D, Sha.sum b, c, 7)) ∨ ∃ D' k, putL D b = (D', Sha.sum b, [], 0) ∧ Sy D' (nmO (Sha.sum b)) k b.length b := by
  have hm : mayD (nmO (Sha.sum b)) = true := nmO_may (Sha.sum_length b)
  unfold putL
  cases hk : lookD D.now (nmO (Sha.sum b)) with
  | none =>
    obtain ⟨D', k, q1, q2⟩ := steps_add h hm hk hq
    exact .inr ⟨D', k, by rw [read_none h.down hm hk, if_pos rfl, q1, fin_ok], q2⟩
  | some k =>
    have hr := read_ok h.down hm hk
    rw [hr]
    show (∃ c, ((fileD D k).1, 0) = (c, 0) ∧ _) ∨ _
    rw [if_neg (show ¬ (0 : Nat) = 4 by decide), if_neg (show ¬ (0 : Nat) ≠ 0 from fun q => q rfl)]
    by_cases hb : (fileD D k).1 = b
    · obtain ⟨D', q1, q2⟩ := steps_sync h hm hk
      rw [hb] at q2
      exact .inr ⟨D', k, by rw [if_pos hb, q1, fin_ok], q2⟩
    · rw [if_neg hb]
      by_cases hs : Sha.sum (fileD D k).1 = Sha.sum b
      · exact .inl ⟨(fileD D k).1, rfl, hb, hs, if_pos hs⟩
      · obtain ⟨D', k', q1, q2⟩ := steps_rem h hm hk hq
        exact .inr ⟨D', k', by rw [if_neg hs, q1, fin_ok], q2⟩
theorem Sy.put (h : Sy D (nmO (Sha.sum b)) k b.length b) : putL D b = ({ D with kept := D.now, acts := [] }, Sha.sum b, [], 0) := by
  have hr : readD D (nmO (Sha.sum b)) = (b, 0) := by rw [read_ok h.down h.may h.now, h.file]
  have e := sync_ok h.down h.arm h.may h.now
  have hkl := (h.ok.now.look h.now).1
  have hs : D.files.set k ((fileD D k).1, (fileD D k).1.length) = D.files := by
    rw [h.file]
    refine List.ext_getElem (by simp) fun i h1 h2 => ?_
    rw [List.getElem_set]
    split
    · rename_i q
      subst q
      have := h.file
      unfold fileD at this
      rw [List.getD_eq_getElem?_getD, List.getElem?_eq_getElem hkl] at this
      exact this.symm
    · rfl
  rw [hs] at e
  unfold putL
  rw [hr, if_neg (show ¬ (0 : Nat) = 4 by decide), if_neg (show ¬ (0 : Nat) ≠ 0 from fun q => q rfl), if_pos rfl, step_zero (a := .sync) (by show (syncD D _).2 = 0; rw [e])]
  show finL (stepsD (syncD D _).1 _ []) _ = _
  rw [e]
  exact fin_ok _ _
end
structure BdL (n : Nat) (D : Dsk) : Prop where
  quota : D.quota = 1048576
  refused : D.refused ≤ n
  arm : D.arm ≤ 9223372036854775807
  acts : D.kept.length + D.acts.length ≤ n
  now : D.now.length ≤ n
  files : ∀ x ∈ D.files, x.1.length ≤ 300
section
variable {D : Dsk} {n : Nat} {s b : List UInt8}
theorem BdL.bd (h : BdL n D) : DBd (n + 1) D := ⟨by rw [h.quota]; decide, Nat.le_succ_of_le h.refused, h.arm, Nat.le_succ_of_le h.acts, Nat.le_succ_of_le h.now, fun x hx => by have := h.files x hx; omega⟩
theorem BdL.used (h : BdL n D) (hn : n ≤ 3000) : usedD D + 300 ≤ D.quota := by
  have h1 := used_le h.now h.files
  have h2 := h.quota
  omega
theorem BdL.mono {m : Nat} (h : BdL n D) (hn : n ≤ m) : BdL m D := ⟨h.quota, Nat.le_trans h.refused hn, h.arm, Nat.le_trans h.acts hn, Nat.le_trans h.now hn, h.files⟩
theorem BdL.new : BdL 0 (newD 1048576) := ⟨rfl, Nat.le_refl _, Nat.zero_le _, Nat.le_refl _, Nat.le_refl _, fun x h => by cases h⟩
theorem BdL.armed (h : BdL n D) : BdL n (armD D).1 := by
  unfold armD
  split
  · exact h
  · have := h.arm
    exact ⟨h.quota, h.refused, by show D.arm - 1 ≤ _; omega, h.acts, h.now, h.files⟩
theorem BdL.turned (h : BdL n D) (a : ActD) : BdL (n + 1) (turnedD D a) := by
  have h1 := turn_len D.now a
  have h2 := h.acts
  have h3 := h.now
  refine ⟨h.quota, Nat.le_succ_of_le h.refused, h.arm, ?_, ?_, h.files⟩
  · show D.kept.length + (D.acts ++ [a]).length ≤ n + 1
    rw [List.length_append, List.length_singleton]
    omega
  · show (turnD D.now a).length ≤ n + 1
    omega
theorem BdL.did {m : Nat} (h : BdL n D) (hm : n ≤ m) {f : Dsk → Dsk} (hf : BdL n (armD D).1 → BdL m (f (armD D).1)) : BdL m (doD D f).1 := by
  unfold doD
  split
  · exact h.armed.mono hm
  · exact hf h.armed
theorem BdL.add (h : BdL n D) (hl : lookD D.now s = none) (hb : b.length ≤ 300) : BdL (n + 1) (addD D s b) := by
  rw [addL_new hl]
  have h1 := h.turned ⟨[], s, D.files.length⟩
  refine ⟨h1.quota, h1.refused, h1.arm, h1.acts, h1.now, fun x hx => ?_⟩
  rcases List.mem_append.1 hx with hx | hx
  · exact h.files x hx
  · rw [List.mem_singleton.1 hx]
    exact hb
theorem BdL.append (h : BdL n D) (hl : lookD D.now s = none) (hb : b.length ≤ 300) : BdL (n + 1) (appendD D s b).1 := by
  unfold appendD
  split
  · exact h.mono (Nat.le_succ n)
  · split
    · exact ⟨h.quota, Nat.succ_le_succ h.refused, h.arm, Nat.le_succ_of_le h.acts, Nat.le_succ_of_le h.now, h.files⟩
    · exact h.did (Nat.le_succ n) (f := fun d => addD d s b) fun hE => hE.add (by rw [armD_now]; exact hl) hb
theorem BdL.sync (h : BdL n D) : BdL n (syncD D s).1 := by
  unfold syncD
  split
  · exact h
  · rename_i k _
    refine h.did (Nat.le_refl n) fun hE => ⟨hE.quota, hE.refused, hE.arm, ?_, hE.now, fun x hx => ?_⟩
    · exact hE.now
    · rcases List.mem_or_eq_of_mem_set hx with hx | rfl
      · exact hE.files x hx
      · exact file_le hE.files k
theorem BdL.drop (h : BdL n D) : BdL (n + 1) (dropD D s).1 := by
  unfold dropD
  split
  · exact h.mono (Nat.le_succ n)
  · exact h.did (Nat.le_succ n) fun hE => hE.turned _
theorem has_err {t : List UInt8} {e : Nat} (he : hasD D s t = .error e) : e ≠ 0 := by
  unfold hasD at he
  split at he
  · rename_i q
    injection he with he
    exact fun x => q (he.trans x)
  · split at he
    · cases he
    · injection he with he
      omega
theorem drop_look (h : (dropD D s).2 = 0) : lookD (dropD D s).1.now s = none := by
  unfold dropD at h ⊢
  split at h
  · rename_i e he
    exact absurd h (has_err he)
  · rename_i k hk
    show lookD (doD D _).1.now s = none
    unfold doD at h ⊢
    split at h
    · cases h
    · rename_i q
      rw [if_neg q]
      exact look_dropped
theorem BdL.steps2 (h : BdL n D) (hl : lookD D.now s = none) (hb : b.length ≤ 300) : BdL (n + 1) (stepsD D s [.add b, .sync]).1 := by
  rw [steps_cons]
  split
  · exact h.append hl hb
  · rw [steps_cons]
    split
    · exact (h.append hl hb).sync
    · exact (h.append hl hb).sync
theorem BdL.fin {r : Dsk × Nat} (h : BdL n r.1) (id : List UInt8) : BdL n (finL r id).1 := by
  unfold finL
  split <;> exact h
theorem read_four (h : (readD D s).2 = 4) : lookD D.now s = none := by
  unfold readD hasD at h
  cases hl : lookD D.now s with
  | none => rfl
  | some k =>
    rw [hl] at h
    split at h
    · rename_i e he
      exfalso
      split at he
      · cases he
        unfold readyD at h
        split at h
        · cases h
        · split at h <;> cases h
      · cases he
    · cases h
theorem BdL.put (h : BdL n D) (hb : b.length ≤ 300) : BdL (n + 2) (putL D b).1 := by
  unfold putL
  split
  · rename_i h4
    exact ((h.steps2 (read_four h4) hb).mono (by omega)).fin _
  split
  · exact h.mono (by omega)
  split
  · refine BdL.fin ?_ _
    rw [steps_cons]
    split
    · exact h.sync.mono (by omega)
    · exact h.sync.mono (by omega)
  split
  · exact h.mono (by omega)
  · refine BdL.fin ?_ _
    rw [steps_cons]
    split
    · exact h.drop.mono (by omega)
    · rename_i hz
      exact BdL.steps2 h.drop (drop_look (by simpa [stepD] using hz)) hb
end
theorem twice {a b : List UInt8} (ha : a.length ≤ 300) (hb : b.length ≤ 300) :
    ((putL (putL (newD 1048576) a).1 b).2.2.2 = 7 → (putL (putL (putL (newD 1048576) a).1 b).1 b).2.2.2 = 7 ∧ a ≠ b) ∧
    ((putL (putL (newD 1048576) a).1 b).2.2.2 ≠ 7 → (putL (putL (newD 1048576) a).1 b).2.2.2 = 0 ∧ (putL (putL (putL (newD 1048576) a).1 b).1 b).2.2.2 = 0 ∧ (putL (putL (putL (newD 1048576) a).1 b).1 b).2.1 = (putL (putL (newD 1048576) a).1 b).2.1 ∧
      usedR (putL (putL (putL (newD 1048576) a).1 b).1 b).1 = usedR (putL (putL (newD 1048576) a).1 b).1 ∧ idsL (putL (putL (putL (newD 1048576) a).1 b).1 b).1 = idsL (putL (putL (newD 1048576) a).1 b).1) := by
  have r0 : ReadyL (newD 1048576) := ⟨rfl, rfl, ⟨DirOk.nil _, DirOk.nil _, (fun _ h => by cases h), (fun _ h => by cases h)⟩, List.Pairwise.nil⟩
  have b0 := BdL.new
  have b1 := b0.put ha
  have u1 := b1.used (by omega)
  have u0 := b0.used (by omega)
  have h1 : ReadyL (putL (newD 1048576) a).1 ∧ ∃ k, Sy (putL (newD 1048576) a).1 (nmO (Sha.sum a)) k a.length a := by
    rcases put_fine (b := a) r0 (by omega) with ⟨c, q, _⟩ | ⟨D', k, q1, q2⟩
    · exfalso
      rw [read_none rfl (nmO_may (Sha.sum_length a)) rfl] at q
      cases q
    · rw [q1]
      exact ⟨q2.ready, k, q2⟩
  obtain ⟨hr, k, hsy⟩ := h1
  generalize (putL (newD 1048576) a).1 = D1 at *
  rcases put_fine (b := b) hr (by omega) with ⟨c, q1, q2, q3, q4⟩ | ⟨D2, k2, q1, q2⟩
  · rw [q4]
    refine ⟨fun _ => ⟨by show (putL D1 b).2.2.2 = 7; rw [q4], fun e => ?_⟩, fun h => absurd rfl h⟩
    subst e
    rw [hsy.put] at q4
    have := congrArg (fun x => x.2.2.2) q4
    cases this
  · rw [q1]
    show (0 = 7 → _) ∧ _
    have e := q2.put
    refine ⟨fun h => (by cases h), fun _ => ?_⟩
    show 0 = 0 ∧ (putL D2 b).2.2.2 = 0 ∧ (putL D2 b).2.1 = Sha.sum b ∧ usedR (putL D2 b).1 = usedR D2 ∧ idsL (putL D2 b).1 = idsL D2
    rw [e]
    exact ⟨rfl, rfl, rfl, rfl, rfl⟩
open Go.RowKit
set_option maxRecDepth 100000
namespace Sha
theorem tail_length (n : Nat) : (tail n).length = 9 + (119 - n % 64) % 64 := by
 simp [tail, be64]
 omega
theorem be4_of (P B : List UInt8) (a : Nat) (h : ∀ i, i < 64 → B.getD i 0 = P.getD (a + i) 0) (t : Nat) (ht : t < 16) :
  (P.getD (a + 4 * t) 0).toUInt32 <<< 24 ||| (P.getD (a + 4 * t + 1) 0).toUInt32 <<< 16 ||| (P.getD (a + 4 * t + 2) 0).toUInt32 <<< 8 ||| (P.getD (a + 4 * t + 3) 0).toUInt32 = be4 B t := by
 unfold be4
 rw [h _ (by omega), h _ (by omega), h _ (by omega), h _ (by omega)]
 simp only [Nat.add_assoc]
theorem added_comm : ∀ (v s : List UInt32), added v s = added s v
 | [], [] => rfl
 | [], _ :: _ => rfl
 | _ :: _, [] => rfl
 | a :: v, b :: s => by
  have := added_comm v s
  unfold added at this ⊢
  rw [List.zipWith_cons_cons, List.zipWith_cons_cons, this, UInt32.add_comm]
theorem add8 {S T : List UInt32} (hS : S.length = 8) (hT : T.length = 8) : adding S T 8 = added T S := by
 have := adding_all S T (by omega)
 rw [hS] at this
 rw [this, added_comm]
end Sha
theorem sha9_isz94 : (Tryd.prog.info? 94).map (·.size) = some 8 := by kernel_rfl
theorem sha9_isz26 : (Tryd.prog.info? 26).map (·.size) = some 32 := by kernel_rfl
theorem sha9_al26 {d : Option Tmp} {ty : TypeId} {pos : String} {af : Array Edge} {gd : Option (Nat × Bool)} (σ : Operand → Value) (w : World) : (execOp σ ⟨d, .alloc 26, ty, pos, af, gd⟩).run Tryd.prog w = .ok (.value (PQ w.heap.size 0)) (w.alloc (.cells (Lib.byteCells (List.replicate 32 0)).toArray 26)) := by kernel_rfl
theorem sha9_al94 {d : Option Tmp} {ty : TypeId} {pos : String} {af : Array Edge} {gd : Option (Nat × Bool)} (σ : Operand → Value) (w : World) : (execOp σ ⟨d, .alloc 94, ty, pos, af, gd⟩).run Tryd.prog w = .ok (.value (PQ w.heap.size 0)) (w.alloc (.cells ((List.replicate 8 0).map fun x => U x).toArray 94)) := by kernel_rfl
theorem sha9_pl58 : Plain Tryd.prog 58 := fun _ _ => by kernel_rfl
theorem sha9_ty22 : Tryd.prog.underlying 22 = some (.slice 5) := by kernel_rfl
theorem sha9_al95 {d : Option Tmp} {ty : TypeId} {pos : String} {af : Array Edge} {gd : Option (Nat × Bool)} (σ : Operand → Value) (w : World) : (execOp σ ⟨d, .alloc 95, ty, pos, af, gd⟩).run Tryd.prog w = .ok (.value (PQ w.heap.size 0)) (w.alloc (.cells ((List.replicate 64 0).map fun x => U x).toArray 95)) := by kernel_rfl
theorem sha9_sz5 : ∀ w' : World, (sizeOf 5).run Tryd.prog w' = .ok 1 w' := fun _ => by kernel_rfl
theorem sha9_ty5 : Tryd.prog.underlying 5 = some (.int .u8) := by kernel_rfl
theorem sha9_ty93 : Tryd.prog.underlying 93 = some (.int .u32) := by kernel_rfl
theorem sha9_ty95 : Tryd.prog.underlying 95 = some (.array 64 93) := by kernel_rfl
theorem sha9_sz93 : ∀ w' : World, (sizeOf 93).run Tryd.prog w' = .ok 1 w' := fun _ => by kernel_rfl
theorem sha9_isz93 : (Tryd.prog.info? 93).map (·.size) = some 1 := by kernel_rfl
theorem sha9_pl59 : Plain Tryd.prog 59 := fun _ _ => by kernel_rfl
theorem sha9_ty94 : Tryd.prog.underlying 94 = some (.array 8 93) := by kernel_rfl
theorem sha9_pl60 : Plain Tryd.prog 60 := fun _ _ => by kernel_rfl
theorem sha9_ty26 : Tryd.prog.underlying 26 = some (.array 32 5) := by kernel_rfl
theorem sha9_isz5 : (Tryd.prog.info? 5).map (·.size) = some 1 := by kernel_rfl
set_option maxRecDepth 4000 in
set_option maxHeartbeats 1000000 in
theorem refSum_any (w : World) (v : Value) (l : List UInt8) (hr : RB w v l) (hl : l.length ≤ 70368744177664) :
  Calls Tryd.prog 34 #[v] w fun e w' => e = .returned (AB (Sha.sum l)) ∧ Ext w w' := by
 refine calls_of_wpF (args := [v]) Tryd.func34 rfl 275 rfl (Nat.le_of_ble_eq_true rfl) ?_
 intro ρ0 hb
 have T0 : ρ0 0 = (v : Value) := hb.get 0
 clear hb
 have hE := Ext.refl w
 refine sk fun K1 hK1 => (wt (oS rfl (Yk.alloc (cs := (Lib.byteCells (List.replicate 32 0)).toArray) sha9_al26 fun n2 w3 hn4 hb5 hx6 hs7 => ?_)))
 have hE := hE.trans hx6
 have hb8 := hb5; clear hb5
 have hl9 : n2 < w3.heap.size := by omega
 refine oZ (tN (hK1 _ _ (sk fun K10 hK10 => (wt (oS rfl (Yk.run (v := .agg (Sha.first.map fun x => U x).toArray) (by kernel_rfl) (oS rfl (Yk.alloc (cs := ((List.replicate 8 0).map fun x => U x).toArray) sha9_al94 fun n11 w12 hn13 hb14 hx15 hs16 => ?_))))))))
 have hA17 := Ext.refl w3
 have hea18 := hE
 have hz19 := hE.size
 have hlt20 := lte (bl hb8) hn13
 have hE := hE.trans hx15
 have hb8 := eb hx15 hb8
 have hA17 := hA17.trans hx15
 have hb21 := hb14; clear hb14
 have hl22 : n11 < w12.heap.size := by omega
 refine oS rfl (Yk.storeAll (vr (PQ n11 0) rfl) (vr (.agg (Sha.first.map fun x => U x).toArray) rfl) hb21 (rfl) (sha9_isz94) (cellsU_one _) fun w23 hb24 hg25 hs26 => ?_)
 have hE := row_fresh hE hg25 (Nat.le_trans hz19 (by omega))
 have hb8 := kb hg25 hb8 (by omega)
 have hA17 := row_fresh hA17 hg25 (Nat.le_trans (Nat.le_refl _) (by omega))
 clear hb21
 have hb21 := hb24; clear hb24
 have hl27 := bl hb21
 refine oZ (tN (hK10 _ _ (sk fun K28 hK28 => (wt (oM rfl (oS rfl (Yk.callA1 sha9_pl58 T0 ((padded_any _ v l (hr.keep hE) (by omega)).mono ?_))))))))
 rintro e w31 ⟨v29, rfl, hN30⟩
 refine ⟨_, rfl, ?_⟩
 have hA32 := Ext.refl w23
 have hea33 := hE
 have hea34 := hA17
 have hz35 := hE.size
 have hz36 := hA17.size
 have hap37 : OB v29 n2 := own_older hN30.own (bl hb8)
 have hap38 : OB v29 n11 := own_older hN30.own (bl hb21)
 have hE := hE.trans hN30.ext
 have hb8 := eb hN30.ext hb8
 have hA17 := hA17.trans hN30.ext
 have hb21 := eb hN30.ext hb21
 have hA32 := hA32.trans hN30.ext
 have ho39 := hN30.own; clear hN30
 refine oA rfl (oZ ?_)
 obtain ⟨P, hP⟩ : ∃ P, P = l ++ Sha.tail l.length := ⟨_, rfl⟩
 have ho39 : w31.ownsRow w23.heap.size 5 1 v29 (P : List UInt8).length (Lib.byteCells (P)) := (hP.symm : l ++ Sha.tail l.length = P) ▸ ho39
 have hPl : P.length = l.length + (Sha.tail l.length).length := by rw [hP, List.length_append]
 obtain ⟨K, hK⟩ : ∃ K, P.length = 64 * K := ⟨P.length / 64, by rw [hPl, Sha.tail_length]; omega⟩
 have hPb : P.length < 72057594037927936 := by rw [hPl, Sha.tail_length]; omega
 refine tN (hK28 _ _ (sk fun K40 hK40 => (sk fun K41 hK41 => (wt (oA rfl (oL_ [(0, v), (2, PQ n2 0), (3, PQ n11 0), (4, v29), (5, NI 0)] ⟨T0, rfl, rfl, rfl, rfl, trivial⟩ fun ρ42 ⟨T0, T2, T3, T4, T5, _⟩ => (tN (hK41 _ _ (wpF_block (wpF_loop (fun (ρ : Slots) (wz : World) => ∃ j : Nat, ρ 0 = (v : Value) ∧ ρ 2 = (PQ n2 0 : Value) ∧ ρ 3 = (PQ n11 0 : Value) ∧ ρ 4 = (v29 : Value) ∧ ρ 5 = (NI (64 * j) : Value) ∧ Ext w wz ∧ wz.heap[n2]? = some (.cells (Lib.byteCells (List.replicate 32 0)).toArray 26 (0, 0)) ∧ Ext w3 wz ∧ wz.ownsRow w23.heap.size 5 1 v29 (P : List UInt8).length (Lib.byteCells (P)) ∧ wz.heap[n11]? = some (.cells ((Sha.blocks Sha.first P j).map fun x => U x).toArray 94 (0, 0)) ∧ (j ≤ K) ∧ True) (fun ρ _ => P.length - (intOf (ρ 5)).toNat) ⟨0, T0, T2, T3, T4, T5, hE, hb8, hA17, ho39, blk_eq hb21 (rfl), Nat.zero_le _, trivial⟩ ?_))))))))))
 clear hb21
 clear hA32
 clear hE hb8 hA17 ho39
 rintro ρ43 w44 ⟨j, T0, T2, T3, T4, T5, hE, hb8, hA17, ho39, hb21l, hj, -⟩
 have q5 := T5
 refine sk fun K45 hK45 => (sk fun K46 hK46 => (wt (oM rfl (oM rfl (oS rfl (Yk.lenRB sha9_ty22 (RB.of (RB.ofOwn ho39) T4) (oS rfl (Yk.eqI (a := (64 * j : Nat)) (b := (P.length : Nat)) T5 rfl (k_lss _ _ _ _) (oL_ [(0, v), (2, PQ n2 0), (3, PQ n11 0), (4, v29), (5, NI (64 * j)), (29, .bool (decide ((64 * j) < (P.length))))] ⟨T0, T2, T3, T4, T5, rfl, trivial⟩ fun ρ47 ⟨T0, T2, T3, T4, T5, T29, _⟩ => (tN (hK46 _ _ ?_)))))))))))
 refine wpF_cond ((64 * j) < (P.length)) T29 (fun hc0 => ?_) (fun hc0 => ?_)
 ·obtain ⟨Sj, hSj⟩ : ∃ Sj, Sj = Sha.blocks Sha.first P j := ⟨_, rfl⟩
  have hb21l : w44.heap[n11]? = some (.cells (Sj.map fun x => U x).toArray 94 (0, 0)) := blk_eq hb21l (by rw [hSj])
  have hSl : Sj.length = 8 := by rw [hSj, Sha.blocks_length _ _ _ rfl]
  obtain ⟨B, hB⟩ : ∃ B, B = (P.drop (64 * j)).take 64 := ⟨_, rfl⟩
  have hBget : ∀ i, i < 64 → B.getD i 0 = P.getD (64 * j + i) 0 := fun i hi => by rw [hB]; simp [hi]
  refine wpF_skip (tN (hK45 _ _ (sk fun K48 hK48 => (wpF_block (sk fun K49 hK49 => (wt (oS rfl (Yk.alloc (cs := ((List.replicate 64 0).map fun x => U x).toArray) sha9_al95 fun n50 w51 hn52 hb53 hx54 hs55 => ?_))))))))
  have hA56 := Ext.refl w44
  have hea57 := hE
  have hea58 := hA17
  have hz59 := hE.size
  have hz60 := hA17.size
  have hlt61 := lte (bl hb8) hn52
  have hlt62 := lte (bl hb21l) hn52
  have hap63 : OB v29 n50 := own_newer ho39 (by omega)
  have hE := hE.trans hx54
  have hb8 := eb hx54 hb8
  have hA17 := hA17.trans hx54
  have ho39 := Stab.own _ _ _ _ _ _ _ _ ho39 hx54
  have hb21l := eb hx54 hb21l
  have hA56 := hA56.trans hx54
  have hb64 := hb53; clear hb53
  have hl65 : n50 < w51.heap.size := by omega
  refine oZ (tN (hK49 _ _ (sk fun K66 hK66 => (sk fun K67 hK67 => (wt (oA rfl (oL_ [(0, v), (2, PQ n2 0), (3, PQ n11 0), (4, v29), (5, NI (64 * j)), (6, PQ n50 0), (7, NI 0)] ⟨T0, T2, T3, T4, T5, rfl, rfl, trivial⟩ fun ρ68 ⟨T0, T2, T3, T4, T5, T6, T7, _⟩ => (tN (hK67 _ _ (wpF_block (wpF_loop (fun (ρ : Slots) (wz : World) => ∃ t : Nat, ρ 0 = (v : Value) ∧ ρ 2 = (PQ n2 0 : Value) ∧ ρ 3 = (PQ n11 0 : Value) ∧ ρ 4 = (v29 : Value) ∧ ρ 5 = (NI (64 * j) : Value) ∧ ρ 6 = (PQ n50 0 : Value) ∧ ρ 7 = (NI t : Value) ∧ Ext w wz ∧ wz.heap[n2]? = some (.cells (Lib.byteCells (List.replicate 32 0)).toArray 26 (0, 0)) ∧ Ext w3 wz ∧ wz.ownsRow w23.heap.size 5 1 v29 (P : List UInt8).length (Lib.byteCells (P)) ∧ wz.heap[n11]? = some (.cells (Sj.map fun x => U x).toArray 94 (0, 0)) ∧ Ext w44 wz ∧ wz.heap[n50]? = some (.cells ((Sha.pad64 (Sha.sched B t)).map fun x => U x).toArray 95 (0, 0)) ∧ (t ≤ 64) ∧ True) (fun ρ _ => 64 - (intOf (ρ 7)).toNat) ⟨0, T0, T2, T3, T4, T5, T6, T7, hE, hb8, hA17, ho39, hb21l, hA56, blk_eq hb64 (rfl), Nat.zero_le _, trivial⟩ ?_)))))))))))
  clear hb64
  clear hE hb8 hA17 ho39 hb21l hA56
  rintro ρ69 w70 ⟨t, T0, T2, T3, T4, T5, T6, T7, hE, hb8, hA17, ho39, hb21l, hA56, hb64l, ht, -⟩
  have q7 := T7
  have hpl : (Sha.pad64 (Sha.sched B t)).length = 64 := Sha.pad64_length _ (by rw [Sha.sched_length]; exact ht)
  refine sk fun K71 hK71 => (sk fun K72 hK72 => (wt (oM rfl (oS rfl (Yk.eqI (a := (t : Nat)) (b := (64 : Nat)) T7 rfl (k_lss _ _ _ _) (oZ (tN (hK72 _ _ ?_))))))))
  refine wpF_cond ((t) < (64)) (vr (.bool (decide ((t) < (64)))) rfl) (fun hc1 => ?_) (fun hc1 => ?_)
  ·refine wpF_skip (tN (hK71 _ _ (sk fun K73 hK73 => (wpF_block (sk fun K74 hK74 => (wt (oM rfl (oS rfl (Yk.eqI (a := (t : Nat)) (b := (16 : Nat)) T7 rfl (k_lss _ _ _ _) (oZ (tN (hK74 _ _ ?_))))))))))))
   refine wpF_cond ((t) < (16)) (vr (.bool (decide ((t) < (16)))) rfl) (fun hc2 => ?_) (fun hc2 => ?_)
   ·refine wpF_draw_storeK 43 [6, 16, 27, 38] (fun (a_ b_ : World) => b_.heap[n50]? = some (.cells (((Sha.pad64 (Sha.sched B t)).set (t) ((((((P.getD ((64 * j) + ((4) * (t))) 0).toUInt32) <<< 24) ||| (((P.getD (((64 * j) + ((4) * (t))) + (1)) 0).toUInt32) <<< 16)) ||| (((P.getD (((64 * j) + ((4) * (t))) + (2)) 0).toUInt32) <<< 8)) ||| ((P.getD (((64 * j) + ((4) * (t))) + (3)) 0).toUInt32))).map fun x => U x).toArray 95 (0, 0)) ∧ a_.grownBy b_ (some n50) ∧ b_.heap.size = a_.heap.size) [Is (NI t), Is (v29), Is (NI (64 * j)), Is (NI t), Is (NI ((4) * (t))), Is (NI ((64 * j) + ((4) * (t)))), PCell (B8 (P.getD ((64 * j) + ((4) * (t))) 0)), Is (B8 (P.getD ((64 * j) + ((4) * (t))) 0)), Is (U ((P.getD ((64 * j) + ((4) * (t))) 0).toUInt32)), Is (U (((P.getD ((64 * j) + ((4) * (t))) 0).toUInt32) <<< 24)), Is (v29), Is (NI (64 * j)), Is (NI t), Is (NI ((4) * (t))), Is (NI ((64 * j) + ((4) * (t)))), Is (NI (((64 * j) + ((4) * (t))) + (1))), PCell (B8 (P.getD (((64 * j) + ((4) * (t))) + (1)) 0)), Is (B8 (P.getD (((64 * j) + ((4) * (t))) + (1)) 0)), Is (U ((P.getD (((64 * j) + ((4) * (t))) + (1)) 0).toUInt32)), Is (U (((P.getD (((64 * j) + ((4) * (t))) + (1)) 0).toUInt32) <<< 16)), Is (U ((((P.getD ((64 * j) + ((4) * (t))) 0).toUInt32) <<< 24) ||| (((P.getD (((64 * j) + ((4) * (t))) + (1)) 0).toUInt32) <<< 16))), Is (v29), Is (NI (64 * j)), Is (NI t), Is (NI ((4) * (t))), Is (NI ((64 * j) + ((4) * (t)))), Is (NI (((64 * j) + ((4) * (t))) + (2))), PCell (B8 (P.getD (((64 * j) + ((4) * (t))) + (2)) 0)), Is (B8 (P.getD (((64 * j) + ((4) * (t))) + (2)) 0)), Is (U ((P.getD (((64 * j) + ((4) * (t))) + (2)) 0).toUInt32)), Is (U (((P.getD (((64 * j) + ((4) * (t))) + (2)) 0).toUInt32) <<< 8)), Is (U (((((P.getD ((64 * j) + ((4) * (t))) 0).toUInt32) <<< 24) ||| (((P.getD (((64 * j) + ((4) * (t))) + (1)) 0).toUInt32) <<< 16)) ||| (((P.getD (((64 * j) + ((4) * (t))) + (2)) 0).toUInt32) <<< 8))), Is (v29), Is (NI (64 * j)), Is (NI t), Is (NI ((4) * (t))), Is (NI ((64 * j) + ((4) * (t)))), Is (NI (((64 * j) + ((4) * (t))) + (3))), PCell (B8 (P.getD (((64 * j) + ((4) * (t))) + (3)) 0)), Is (B8 (P.getD (((64 * j) + ((4) * (t))) + (3)) 0)), Is (U ((P.getD (((64 * j) + ((4) * (t))) + (3)) 0).toUInt32)), Is (U ((((((P.getD ((64 * j) + ((4) * (t))) 0).toUInt32) <<< 24) ||| (((P.getD (((64 * j) + ((4) * (t))) + (1)) 0).toUInt32) <<< 16)) ||| (((P.getD (((64 * j) + ((4) * (t))) + (2)) 0).toUInt32) <<< 8)) ||| ((P.getD (((64 * j) + ((4) * (t))) + (3)) 0).toUInt32))), Is (PQ n50 t), (fun _ _ => True)] (by kernel_rfl) [38, 39, 40, 41, 42, 43, 44, 45, 46, 47, 48, 49, 50, 51, 52, 53, 54, 55, 56, 57, 58, 59, 60, 61, 62, 63, 64, 65, 66, 67, 68, 69, 70, 71, 72, 73, 74, 75, 76, 77, 78, 79, 80] (by kernel_rfl) (by kernel_rfl) (by kernel_rfl) (by kernel_rfl) rfl (si6 ⟨Stab.pcell _, (si9 ⟨Stab.pcell _, (si10 ⟨Stab.pcell _, (si10 ⟨Stab.pcell _, (si4 ⟨Stab.any, trivial⟩)⟩)⟩)⟩)⟩) ⟨.inr (Stab.is _), .inr (Stab.is _), .inr (Stab.is _), .inr (Stab.is _), .inr (Stab.is _), .inr (Stab.is _), .inl rfl, .inr (Stab.is _), .inr (Stab.is _), .inr (Stab.is _), .inr (Stab.is _), .inr (Stab.is _), .inr (Stab.is _), .inr (Stab.is _), .inr (Stab.is _), .inr (Stab.is _), .inl rfl, .inr (Stab.is _), .inr (Stab.is _), .inr (Stab.is _), .inr (Stab.is _), .inr (Stab.is _), .inr (Stab.is _), .inr (Stab.is _), .inr (Stab.is _), .inr (Stab.is _), .inr (Stab.is _), .inl rfl, .inr (Stab.is _), .inr (Stab.is _), .inr (Stab.is _), .inr (Stab.is _), .inr (Stab.is _), .inr (Stab.is _), .inr (Stab.is _), .inr (Stab.is _), .inr (Stab.is _), .inr (Stab.is _), .inl rfl, .inr (Stab.is _), .inr (Stab.is _), .inr (Stab.is _), .inr (Stab.is _), .inr (Stab.any), trivial⟩ ?hs6011 ?hQ6011
    case hs6011 =>
     refine ⟨?_, ?_, ?_, ?_, ?_, ?_, ?_, ?_, ?_, ?_, ?_, ?_, ?_, ?_, ?_, ?_, ?_, ?_, ?_, ?_, ?_, ?_, ?_, ?_, ?_, ?_, ?_, ?_, ?_, ?_, ?_, ?_, ?_, ?_, ?_, ?_, ?_, ?_, ?_, ?_, ?_, ?_, ?_, ?_, trivial⟩
     ·refine stepN rfl fun σ w1 hC h => ?_
      have e7 := (eqo (h 7 (by decide))).trans T7
      have hC : Ext _ w1 := hC
      exact Yk.move e7 ⟨Ext.refl _, rfl⟩
     ·refine stepN rfl fun σ w1 hC h => ?_
      have e4 := (eqo (h 4 (by decide))).trans T4
      have hC : Ext _ w1 := hC
      exact Yk.move e4 ⟨Ext.refl _, rfl⟩
     ·refine stepN rfl fun σ w1 hC h => ?_
      have e5 := (eqo (h 5 (by decide))).trans T5
      have hC : Ext _ w1 := hC
      exact Yk.move e5 ⟨Ext.refl _, rfl⟩
     ·refine stepN rfl fun σ w1 hC h => ?_
      have e7 := (eqo (h 7 (by decide))).trans T7
      have hC : Ext _ w1 := hC
      exact Yk.move e7 ⟨Ext.refl _, rfl⟩
     ·refine stepN rfl fun σ w1 hC h => ?_
      have e41 := eqo (h 41 (by decide))
      have hC : Ext _ w1 := hC
      exact Yk.bin (xv := NI 4) (yv := NI t) rfl e41 rfl (i64_mul _ _ _ (by omega)) ⟨Ext.refl _, rfl⟩
     ·refine stepN rfl fun σ w1 hC h => ?_
      have e40 := eqo (h 40 (by decide))
      have e42 := eqo (h 42 (by decide))
      have hC : Ext _ w1 := hC
      exact Yk.bin (xv := NI (64 * j)) (yv := NI ((4) * (t))) e40 e42 rfl (i64_add _ _ _ (by omega)) ⟨Ext.refl _, rfl⟩
     ·refine stepN rfl fun σ w1 hC h => ?_
      have e39 := eqo (h 39 (by decide))
      have e43 := eqo (h 43 (by decide))
      have hC : Ext _ w1 := hC
      exact Yk.atRB (l := P) (i := (64 * j) + ((4) * (t))) sha9_ty22 sha9_sz5 (RB.of (RB.ofOwn (Stab.own _ _ _ _ _ _ _ _ ho39 hC)) e39) e43 (by omega) fun _ h => ⟨Ext.refl _, h⟩
     ·refine stepN rfl fun σ w1 hC h => ?_
      have e44 : (PCell (B8 (P.getD ((64 * j) + ((4) * (t))) 0))) (σ 44) w1 := h 44 (by decide)
      have hC : Ext _ w1 := hC
      exact Yk.loadC sha9_ty5 rfl e44 ⟨Ext.refl _, rfl⟩
     ·refine stepN rfl fun σ w1 hC h => ?_
      have e45 := eqo (h 45 (by decide))
      have hC : Ext _ w1 := hC
      exact Yk.wide sha9_ty5 sha9_ty93 e45 ⟨Ext.refl _, rfl⟩
     ·refine stepN rfl fun σ w1 hC h => ?_
      have e46 := eqo (h 46 (by decide))
      have hC : Ext _ w1 := hC
      exact Yk.bin e46 (vr (.int .u64 ((24 : Nat) : Int)) rfl) rfl (u_shl _ _ _ 24 (by decide)) ⟨Ext.refl _, rfl⟩
     ·refine stepN rfl fun σ w1 hC h => ?_
      have e4 := (eqo (h 4 (by decide))).trans T4
      have hC : Ext _ w1 := hC
      exact Yk.move e4 ⟨Ext.refl _, rfl⟩
     ·refine stepN rfl fun σ w1 hC h => ?_
      have e5 := (eqo (h 5 (by decide))).trans T5
      have hC : Ext _ w1 := hC
      exact Yk.move e5 ⟨Ext.refl _, rfl⟩
     ·refine stepN rfl fun σ w1 hC h => ?_
      have e7 := (eqo (h 7 (by decide))).trans T7
      have hC : Ext _ w1 := hC
      exact Yk.move e7 ⟨Ext.refl _, rfl⟩
     ·refine stepN rfl fun σ w1 hC h => ?_
      have e50 := eqo (h 50 (by decide))
      have hC : Ext _ w1 := hC
      exact Yk.bin (xv := NI 4) (yv := NI t) rfl e50 rfl (i64_mul _ _ _ (by omega)) ⟨Ext.refl _, rfl⟩
     ·refine stepN rfl fun σ w1 hC h => ?_
      have e49 := eqo (h 49 (by decide))
      have e51 := eqo (h 51 (by decide))
      have hC : Ext _ w1 := hC
      exact Yk.bin (xv := NI (64 * j)) (yv := NI ((4) * (t))) e49 e51 rfl (i64_add _ _ _ (by omega)) ⟨Ext.refl _, rfl⟩
     ·refine stepN rfl fun σ w1 hC h => ?_
      have e52 := eqo (h 52 (by decide))
      have hC : Ext _ w1 := hC
      exact Yk.bin (xv := NI ((64 * j) + ((4) * (t)))) (yv := NI 1) e52 rfl rfl (i64_add _ _ _ (by omega)) ⟨Ext.refl _, rfl⟩
     ·refine stepN rfl fun σ w1 hC h => ?_
      have e48 := eqo (h 48 (by decide))
      have e53 := eqo (h 53 (by decide))
      have hC : Ext _ w1 := hC
      exact Yk.atRB (l := P) (i := ((64 * j) + ((4) * (t))) + (1)) sha9_ty22 sha9_sz5 (RB.of (RB.ofOwn (Stab.own _ _ _ _ _ _ _ _ ho39 hC)) e48) e53 (by omega) fun _ h => ⟨Ext.refl _, h⟩
     ·refine stepN rfl fun σ w1 hC h => ?_
      have e54 : (PCell (B8 (P.getD (((64 * j) + ((4) * (t))) + (1)) 0))) (σ 54) w1 := h 54 (by decide)
      have hC : Ext _ w1 := hC
      exact Yk.loadC sha9_ty5 rfl e54 ⟨Ext.refl _, rfl⟩
     ·refine stepN rfl fun σ w1 hC h => ?_
      have e55 := eqo (h 55 (by decide))
      have hC : Ext _ w1 := hC
      exact Yk.wide sha9_ty5 sha9_ty93 e55 ⟨Ext.refl _, rfl⟩
     ·refine stepN rfl fun σ w1 hC h => ?_
      have e56 := eqo (h 56 (by decide))
      have hC : Ext _ w1 := hC
      exact Yk.bin e56 (vr (.int .u64 ((16 : Nat) : Int)) rfl) rfl (u_shl _ _ _ 16 (by decide)) ⟨Ext.refl _, rfl⟩
     ·refine stepN rfl fun σ w1 hC h => ?_
      have e47 := eqo (h 47 (by decide))
      have e57 := eqo (h 57 (by decide))
      have hC : Ext _ w1 := hC
      exact Yk.bin e47 e57 rfl (u_or _ _ _) ⟨Ext.refl _, rfl⟩
     ·refine stepN rfl fun σ w1 hC h => ?_
      have e4 := (eqo (h 4 (by decide))).trans T4
      have hC : Ext _ w1 := hC
      exact Yk.move e4 ⟨Ext.refl _, rfl⟩
     ·refine stepN rfl fun σ w1 hC h => ?_
      have e5 := (eqo (h 5 (by decide))).trans T5
      have hC : Ext _ w1 := hC
      exact Yk.move e5 ⟨Ext.refl _, rfl⟩
     ·refine stepN rfl fun σ w1 hC h => ?_
      have e7 := (eqo (h 7 (by decide))).trans T7
      have hC : Ext _ w1 := hC
      exact Yk.move e7 ⟨Ext.refl _, rfl⟩
     ·refine stepN rfl fun σ w1 hC h => ?_
      have e61 := eqo (h 61 (by decide))
      have hC : Ext _ w1 := hC
      exact Yk.bin (xv := NI 4) (yv := NI t) rfl e61 rfl (i64_mul _ _ _ (by omega)) ⟨Ext.refl _, rfl⟩
     ·refine stepN rfl fun σ w1 hC h => ?_
      have e60 := eqo (h 60 (by decide))
      have e62 := eqo (h 62 (by decide))
      have hC : Ext _ w1 := hC
      exact Yk.bin (xv := NI (64 * j)) (yv := NI ((4) * (t))) e60 e62 rfl (i64_add _ _ _ (by omega)) ⟨Ext.refl _, rfl⟩
     ·refine stepN rfl fun σ w1 hC h => ?_
      have e63 := eqo (h 63 (by decide))
      have hC : Ext _ w1 := hC
      exact Yk.bin (xv := NI ((64 * j) + ((4) * (t)))) (yv := NI 2) e63 rfl rfl (i64_add _ _ _ (by omega)) ⟨Ext.refl _, rfl⟩
     ·refine stepN rfl fun σ w1 hC h => ?_
      have e59 := eqo (h 59 (by decide))
      have e64 := eqo (h 64 (by decide))
      have hC : Ext _ w1 := hC
      exact Yk.atRB (l := P) (i := ((64 * j) + ((4) * (t))) + (2)) sha9_ty22 sha9_sz5 (RB.of (RB.ofOwn (Stab.own _ _ _ _ _ _ _ _ ho39 hC)) e59) e64 (by omega) fun _ h => ⟨Ext.refl _, h⟩
     ·refine stepN rfl fun σ w1 hC h => ?_
      have e65 : (PCell (B8 (P.getD (((64 * j) + ((4) * (t))) + (2)) 0))) (σ 65) w1 := h 65 (by decide)
      have hC : Ext _ w1 := hC
      exact Yk.loadC sha9_ty5 rfl e65 ⟨Ext.refl _, rfl⟩
     ·refine stepN rfl fun σ w1 hC h => ?_
      have e66 := eqo (h 66 (by decide))
      have hC : Ext _ w1 := hC
      exact Yk.wide sha9_ty5 sha9_ty93 e66 ⟨Ext.refl _, rfl⟩
     ·refine stepN rfl fun σ w1 hC h => ?_
      have e67 := eqo (h 67 (by decide))
      have hC : Ext _ w1 := hC
      exact Yk.bin e67 (vr (.int .u64 ((8 : Nat) : Int)) rfl) rfl (u_shl _ _ _ 8 (by decide)) ⟨Ext.refl _, rfl⟩
     ·refine stepN rfl fun σ w1 hC h => ?_
      have e58 := eqo (h 58 (by decide))
      have e68 := eqo (h 68 (by decide))
      have hC : Ext _ w1 := hC
      exact Yk.bin e58 e68 rfl (u_or _ _ _) ⟨Ext.refl _, rfl⟩
     ·refine stepN rfl fun σ w1 hC h => ?_
      have e4 := (eqo (h 4 (by decide))).trans T4
      have hC : Ext _ w1 := hC
      exact Yk.move e4 ⟨Ext.refl _, rfl⟩
     ·refine stepN rfl fun σ w1 hC h => ?_
      have e5 := (eqo (h 5 (by decide))).trans T5
      have hC : Ext _ w1 := hC
      exact Yk.move e5 ⟨Ext.refl _, rfl⟩
     ·refine stepN rfl fun σ w1 hC h => ?_
      have e7 := (eqo (h 7 (by decide))).trans T7
      have hC : Ext _ w1 := hC
      exact Yk.move e7 ⟨Ext.refl _, rfl⟩
     ·refine stepN rfl fun σ w1 hC h => ?_
      have e72 := eqo (h 72 (by decide))
      have hC : Ext _ w1 := hC
      exact Yk.bin (xv := NI 4) (yv := NI t) rfl e72 rfl (i64_mul _ _ _ (by omega)) ⟨Ext.refl _, rfl⟩
     ·refine stepN rfl fun σ w1 hC h => ?_
      have e71 := eqo (h 71 (by decide))
      have e73 := eqo (h 73 (by decide))
      have hC : Ext _ w1 := hC
      exact Yk.bin (xv := NI (64 * j)) (yv := NI ((4) * (t))) e71 e73 rfl (i64_add _ _ _ (by omega)) ⟨Ext.refl _, rfl⟩
     ·refine stepN rfl fun σ w1 hC h => ?_
      have e74 := eqo (h 74 (by decide))
      have hC : Ext _ w1 := hC
      exact Yk.bin (xv := NI ((64 * j) + ((4) * (t)))) (yv := NI 3) e74 rfl rfl (i64_add _ _ _ (by omega)) ⟨Ext.refl _, rfl⟩
     ·refine stepN rfl fun σ w1 hC h => ?_
      have e70 := eqo (h 70 (by decide))
      have e75 := eqo (h 75 (by decide))
      have hC : Ext _ w1 := hC
      exact Yk.atRB (l := P) (i := ((64 * j) + ((4) * (t))) + (3)) sha9_ty22 sha9_sz5 (RB.of (RB.ofOwn (Stab.own _ _ _ _ _ _ _ _ ho39 hC)) e70) e75 (by omega) fun _ h => ⟨Ext.refl _, h⟩
     ·refine stepN rfl fun σ w1 hC h => ?_
      have e76 : (PCell (B8 (P.getD (((64 * j) + ((4) * (t))) + (3)) 0))) (σ 76) w1 := h 76 (by decide)
      have hC : Ext _ w1 := hC
      exact Yk.loadC sha9_ty5 rfl e76 ⟨Ext.refl _, rfl⟩
     ·refine stepN rfl fun σ w1 hC h => ?_
      have e77 := eqo (h 77 (by decide))
      have hC : Ext _ w1 := hC
      exact Yk.wide sha9_ty5 sha9_ty93 e77 ⟨Ext.refl _, rfl⟩
     ·refine stepN rfl fun σ w1 hC h => ?_
      have e69 := eqo (h 69 (by decide))
      have e78 := eqo (h 78 (by decide))
      have hC : Ext _ w1 := hC
      exact Yk.bin e69 e78 rfl (u_or _ _ _) ⟨Ext.refl _, rfl⟩
     ·refine stepN rfl fun σ w1 hC h => ?_
      have e6 := (eqo (h 6 (by decide))).trans T6
      have e38 := eqo (h 38 (by decide))
      have hC : Ext _ w1 := hC
      exact Yk.atArr0 (i := t) sha9_ty95 sha9_sz93 e6 e38 (by omega) ⟨Ext.refl _, rfl⟩
     ·refine stepN rfl fun σ w1 hC h => ?_
      have e80 := eqo (h 80 (by decide))
      have e79 := eqo (h 79 (by decide))
      have hC : Ext _ w1 := hC
      exact Yk.storeU32 (i := t) (v := (((((P.getD ((64 * j) + ((4) * (t))) 0).toUInt32) <<< 24) ||| (((P.getD (((64 * j) + ((4) * (t))) + (1)) 0).toUInt32) <<< 16)) ||| (((P.getD (((64 * j) + ((4) * (t))) + (2)) 0).toUInt32) <<< 8)) ||| ((P.getD (((64 * j) + ((4) * (t))) + (3)) 0).toUInt32)) e80 e79 (eb hC hb64l) (by rw [hpl]; omega) sha9_isz93 fun w2 h1 h2 h3 => ⟨⟨h1, h2, h3⟩, trivial⟩
    intro ρ79 w82 w80 hx81 hS83 he hf
    obtain ⟨-, -, -, -, -, -, -, -, -, -, -, -, -, -, -, -, -, -, -, -, -, -, -, -, -, -, -, -, -, -, -, -, -, -, -, -, -, -, -, -, -, -, -, -⟩ := hf
    obtain ⟨T0, T2, T3, T4, T5, T6, T7, -⟩ := he.hold [(0, _), (2, _), (3, _), (4, _), (5, _), (6, _), (7, _)] ⟨T0, T2, T3, T4, T5, T6, T7, trivial⟩ rfl
    clear he
    have hE := hE.trans hx81
    have hb8 := eb hx81 hb8
    have hA17 := hA17.trans hx81
    have ho39 := Stab.own _ _ _ _ _ _ _ _ ho39 hx81
    have hb21l := eb hx81 hb21l
    have hA56 := hA56.trans hx81
    have hb64l := eb hx81 hb64l
    obtain ⟨hb84, hg85, hs86⟩ := hS83
    have hE := row_fresh hE hg85 (Nat.le_trans hz59 (by omega))
    have hb8 := kb hg85 hb8 (by omega)
    have hA17 := row_fresh hA17 hg85 (Nat.le_trans hz60 (by omega))
    have ho39 := own_kept ho39 hg85 hap63
    have hb21l := kb hg85 hb21l (by omega)
    have hA56 := row_fresh hA56 hg85 (Nat.le_trans (Nat.le_refl _) (by omega))
    clear hb64l
    have hb64l := hb84; clear hb84
    have hl87 := bl hb64l
    have hb64l : w80.heap[n50]? = some (.cells ((Sha.pad64 (Sha.sched B (t + 1))).map fun x => U x).toArray 95 (0, 0)) := blk_eq hb64l (congrArg (List.map fun x => U x) ((congrArg (fun z => (Sha.pad64 (Sha.sched B t)).set t z) (Sha.be4_of P B (64 * j) hBget t hc2)).trans (Sha.sched_step1 B t hc2)))
    refine bN (tN (hK73 _ _ (wt (oM rfl (oS rfl (Yk.bin (xv := NI t) (yv := NI 1) T7 rfl rfl (i64_add _ _ _ (by omega)) (oA rfl (oL_ [(0, v), (2, PQ n2 0), (3, PQ n11 0), (4, v29), (5, NI (64 * j)), (6, PQ n50 0), (7, NI ((t) + (1)))] ⟨T0, T2, T3, T4, T5, T6, rfl, trivial⟩ fun ρ88 ⟨T0, T2, T3, T4, T5, T6, T7, _⟩ => (tN (And.intro ⟨t + 1, T0, T2, T3, T4, T5, T6, T7, hE, hb8, hA17, ho39, hb21l, hA56, blk_eq hb64l (rfl), by omega, trivial⟩ ?_))))))))))
    show 64 - (intOf (ρ88 7)).toNat < 64 - (intOf (ρ69 7)).toNat
    rw [T7, q7]
    simp only [intOf, Int.toNat_natCast]; omega
   refine sk fun K89 hK89 => ?_
   refine wpF_draw [Is (NI t), Is (NI ((t) - (15))), Is (.pointer (some ⟨n50, (t) - (15), none⟩)), Is (U ((Sha.pad64 (Sha.sched B t)).getD ((t) - (15)) 0)), Is (NI t), Is (NI ((t) - (2))), Is (.pointer (some ⟨n50, (t) - (2), none⟩)), Is (U ((Sha.pad64 (Sha.sched B t)).getD ((t) - (2)) 0)), Is (U ((Sha.pad64 (Sha.sched B t)).getD ((t) - (15)) 0)), Is (U ((Sha.pad64 (Sha.sched B t)).getD ((t) - (2)) 0))] (by kernel_rfl) [81, 82, 83, 84, 85, 86, 87, 88, 8, 9] (by kernel_rfl) (by kernel_rfl) (si10 trivial) ?hs7012 ?hQ7012
   case hs7012 =>
    refine ⟨?_, ?_, ?_, ?_, ?_, ?_, ?_, ?_, ?_, ?_, trivial⟩
    ·refine stepN rfl fun σ w1 hC h => ?_
     have e7 := (eqo (h 7 (by decide))).trans T7
     exact Yk.move e7 ⟨Ext.refl _, rfl⟩
    ·refine stepN rfl fun σ w1 hC h => ?_
     have e81 := eqo (h 81 (by decide))
     exact Yk.bin (xv := NI t) (yv := NI 15) e81 rfl rfl (i64_sub _ _ _ (by omega) (by omega)) ⟨Ext.refl _, rfl⟩
    ·refine stepN rfl fun σ w1 hC h => ?_
     have e6 := (eqo (h 6 (by decide))).trans T6
     have e82 := eqo (h 82 (by decide))
     exact Yk.atArr0 (i := (t) - (15)) sha9_ty95 sha9_sz93 e6 e82 (by omega) ⟨Ext.refl _, rfl⟩
    ·refine stepN rfl fun σ w1 hC h => ?_
     have e83 := eqo (h 83 (by decide))
     exact Yk.cell1 sha9_ty93 rfl e83 (cellAt (eb hC hb64l) (word_at (i := (t) - (15)) (by rw [hpl]; omega))) ⟨Ext.refl _, rfl⟩
    ·refine stepN rfl fun σ w1 hC h => ?_
     have e7 := (eqo (h 7 (by decide))).trans T7
     exact Yk.move e7 ⟨Ext.refl _, rfl⟩
    ·refine stepN rfl fun σ w1 hC h => ?_
     have e85 := eqo (h 85 (by decide))
     exact Yk.bin (xv := NI t) (yv := NI 2) e85 rfl rfl (i64_sub _ _ _ (by omega) (by omega)) ⟨Ext.refl _, rfl⟩
    ·refine stepN rfl fun σ w1 hC h => ?_
     have e6 := (eqo (h 6 (by decide))).trans T6
     have e86 := eqo (h 86 (by decide))
     exact Yk.atArr0 (i := (t) - (2)) sha9_ty95 sha9_sz93 e6 e86 (by omega) ⟨Ext.refl _, rfl⟩
    ·refine stepN rfl fun σ w1 hC h => ?_
     have e87 := eqo (h 87 (by decide))
     exact Yk.cell1 sha9_ty93 rfl e87 (cellAt (eb hC hb64l) (word_at (i := (t) - (2)) (by rw [hpl]; omega))) ⟨Ext.refl _, rfl⟩
    ·refine stepN rfl fun σ w1 hC h => ?_
     have e84 := eqo (h 84 (by decide))
     exact Yk.assign e84 ⟨Ext.refl _, rfl⟩
    ·refine stepN rfl fun σ w1 hC h => ?_
     have e88 := eqo (h 88 (by decide))
     exact Yk.assign e88 ⟨Ext.refl _, rfl⟩
   intro ρ90 w91 hx92 he hf
   obtain ⟨-, -, -, -, -, -, -, -, k8, k9, -⟩ := hf
   obtain ⟨T0, T2, T3, T4, T5, T6, T7, -⟩ := he.hold [(0, _), (2, _), (3, _), (4, _), (5, _), (6, _), (7, _)] ⟨T0, T2, T3, T4, T5, T6, T7, trivial⟩ rfl
   clear he
   have hE := hE.trans hx92
   have hb8 := eb hx92 hb8
   have hA17 := hA17.trans hx92
   have ho39 := Stab.own _ _ _ _ _ _ _ _ ho39 hx92
   have hb21l := eb hx92 hb21l
   have hA56 := hA56.trans hx92
   have hb64l := eb hx92 hb64l
   have T8 : ρ90 8 = U ((Sha.pad64 (Sha.sched B t)).getD ((t) - (15)) 0) := k8
   have T9 : ρ90 9 = U ((Sha.pad64 (Sha.sched B t)).getD ((t) - (2)) 0) := k9
   clear k8 k9
   refine tN (hK89 _ _ ?_)
   refine wpF_draw_store 29 (fun (a_ b_ : World) => b_.heap[n50]? = some (.cells (((Sha.pad64 (Sha.sched B t)).set (t) ((((((Sha.rotr ((Sha.pad64 (Sha.sched B t)).getD ((t) - (2)) 0) 17) ^^^ (Sha.rotr ((Sha.pad64 (Sha.sched B t)).getD ((t) - (2)) 0) 19)) ^^^ (((Sha.pad64 (Sha.sched B t)).getD ((t) - (2)) 0) >>> 10)) + ((Sha.pad64 (Sha.sched B t)).getD ((t) - (7)) 0)) + (((Sha.rotr ((Sha.pad64 (Sha.sched B t)).getD ((t) - (15)) 0) 7) ^^^ (Sha.rotr ((Sha.pad64 (Sha.sched B t)).getD ((t) - (15)) 0) 18)) ^^^ (((Sha.pad64 (Sha.sched B t)).getD ((t) - (15)) 0) >>> 3))) + ((Sha.pad64 (Sha.sched B t)).getD ((t) - (16)) 0))).map fun x => U x).toArray 95 (0, 0)) ∧ a_.grownBy b_ (some n50) ∧ b_.heap.size = a_.heap.size) [Is (NI t), Is (U ((Sha.pad64 (Sha.sched B t)).getD ((t) - (2)) 0)), Is (U (Sha.rotr ((Sha.pad64 (Sha.sched B t)).getD ((t) - (2)) 0) 17)), Is (U ((Sha.pad64 (Sha.sched B t)).getD ((t) - (2)) 0)), Is (U (Sha.rotr ((Sha.pad64 (Sha.sched B t)).getD ((t) - (2)) 0) 19)), Is (U ((Sha.rotr ((Sha.pad64 (Sha.sched B t)).getD ((t) - (2)) 0) 17) ^^^ (Sha.rotr ((Sha.pad64 (Sha.sched B t)).getD ((t) - (2)) 0) 19))), Is (U ((Sha.pad64 (Sha.sched B t)).getD ((t) - (2)) 0)), Is (U (((Sha.pad64 (Sha.sched B t)).getD ((t) - (2)) 0) >>> 10)), Is (U (((Sha.rotr ((Sha.pad64 (Sha.sched B t)).getD ((t) - (2)) 0) 17) ^^^ (Sha.rotr ((Sha.pad64 (Sha.sched B t)).getD ((t) - (2)) 0) 19)) ^^^ (((Sha.pad64 (Sha.sched B t)).getD ((t) - (2)) 0) >>> 10))), Is (NI t), Is (NI ((t) - (7))), Is (.pointer (some ⟨n50, (t) - (7), none⟩)), Is (U ((Sha.pad64 (Sha.sched B t)).getD ((t) - (7)) 0)), Is (U ((((Sha.rotr ((Sha.pad64 (Sha.sched B t)).getD ((t) - (2)) 0) 17) ^^^ (Sha.rotr ((Sha.pad64 (Sha.sched B t)).getD ((t) - (2)) 0) 19)) ^^^ (((Sha.pad64 (Sha.sched B t)).getD ((t) - (2)) 0) >>> 10)) + ((Sha.pad64 (Sha.sched B t)).getD ((t) - (7)) 0))), Is (U ((Sha.pad64 (Sha.sched B t)).getD ((t) - (15)) 0)), Is (U (Sha.rotr ((Sha.pad64 (Sha.sched B t)).getD ((t) - (15)) 0) 7)), Is (U ((Sha.pad64 (Sha.sched B t)).getD ((t) - (15)) 0)), Is (U (Sha.rotr ((Sha.pad64 (Sha.sched B t)).getD ((t) - (15)) 0) 18)), Is (U ((Sha.rotr ((Sha.pad64 (Sha.sched B t)).getD ((t) - (15)) 0) 7) ^^^ (Sha.rotr ((Sha.pad64 (Sha.sched B t)).getD ((t) - (15)) 0) 18))), Is (U ((Sha.pad64 (Sha.sched B t)).getD ((t) - (15)) 0)), Is (U (((Sha.pad64 (Sha.sched B t)).getD ((t) - (15)) 0) >>> 3)), Is (U (((Sha.rotr ((Sha.pad64 (Sha.sched B t)).getD ((t) - (15)) 0) 7) ^^^ (Sha.rotr ((Sha.pad64 (Sha.sched B t)).getD ((t) - (15)) 0) 18)) ^^^ (((Sha.pad64 (Sha.sched B t)).getD ((t) - (15)) 0) >>> 3))), Is (U (((((Sha.rotr ((Sha.pad64 (Sha.sched B t)).getD ((t) - (2)) 0) 17) ^^^ (Sha.rotr ((Sha.pad64 (Sha.sched B t)).getD ((t) - (2)) 0) 19)) ^^^ (((Sha.pad64 (Sha.sched B t)).getD ((t) - (2)) 0) >>> 10)) + ((Sha.pad64 (Sha.sched B t)).getD ((t) - (7)) 0)) + (((Sha.rotr ((Sha.pad64 (Sha.sched B t)).getD ((t) - (15)) 0) 7) ^^^ (Sha.rotr ((Sha.pad64 (Sha.sched B t)).getD ((t) - (15)) 0) 18)) ^^^ (((Sha.pad64 (Sha.sched B t)).getD ((t) - (15)) 0) >>> 3)))), Is (NI t), Is (NI ((t) - (16))), Is (.pointer (some ⟨n50, (t) - (16), none⟩)), Is (U ((Sha.pad64 (Sha.sched B t)).getD ((t) - (16)) 0)), Is (U ((((((Sha.rotr ((Sha.pad64 (Sha.sched B t)).getD ((t) - (2)) 0) 17) ^^^ (Sha.rotr ((Sha.pad64 (Sha.sched B t)).getD ((t) - (2)) 0) 19)) ^^^ (((Sha.pad64 (Sha.sched B t)).getD ((t) - (2)) 0) >>> 10)) + ((Sha.pad64 (Sha.sched B t)).getD ((t) - (7)) 0)) + (((Sha.rotr ((Sha.pad64 (Sha.sched B t)).getD ((t) - (15)) 0) 7) ^^^ (Sha.rotr ((Sha.pad64 (Sha.sched B t)).getD ((t) - (15)) 0) 18)) ^^^ (((Sha.pad64 (Sha.sched B t)).getD ((t) - (15)) 0) >>> 3))) + ((Sha.pad64 (Sha.sched B t)).getD ((t) - (16)) 0))), Is (PQ n50 t), (fun _ _ => True)] (by kernel_rfl) [89, 90, 91, 92, 93, 94, 95, 96, 97, 98, 99, 100, 101, 102, 103, 104, 105, 106, 107, 108, 109, 110, 111, 112, 113, 114, 115, 116, 117] (by kernel_rfl) (by kernel_rfl) (by kernel_rfl) rfl (si5 (si12 (si12 ⟨Stab.any, trivial⟩))) (si5 (si12 (si12 ⟨Stab.any, trivial⟩))) ?hs8013 ?hQ8013
   case hs8013 =>
    refine ⟨?_, ?_, ?_, ?_, ?_, ?_, ?_, ?_, ?_, ?_, ?_, ?_, ?_, ?_, ?_, ?_, ?_, ?_, ?_, ?_, ?_, ?_, ?_, ?_, ?_, ?_, ?_, ?_, ?_, ?_, trivial⟩
    ·refine stepN rfl fun σ w1 hC h => ?_
     have e7 := (eqo (h 7 (by decide))).trans T7
     have hC : Ext _ w1 := hC
     exact Yk.move e7 ⟨Ext.refl _, rfl⟩
    ·refine stepN rfl fun σ w1 hC h => ?_
     have e9 := (eqo (h 9 (by decide))).trans T9
     have hC : Ext _ w1 := hC
     exact Yk.move e9 ⟨Ext.refl _, rfl⟩
    ·refine stepN rfl fun σ w1 hC h => ?_
     have e90 := eqo (h 90 (by decide))
     have hC : Ext _ w1 := hC
     refine Yk.callA2 sha9_pl59 e90 (vr (.int .u64 ((17 : Nat) : Int)) rfl) ((rot_any _ ((Sha.pad64 (Sha.sched B t)).getD ((t) - (2)) 0) 17 (by decide) (by decide)).mono ?_)
     rintro e w2 ⟨rfl, hx⟩
     exact ⟨_, rfl, hx, rfl⟩
    ·refine stepN rfl fun σ w1 hC h => ?_
     have e9 := (eqo (h 9 (by decide))).trans T9
     have hC : Ext _ w1 := hC
     exact Yk.move e9 ⟨Ext.refl _, rfl⟩
    ·refine stepN rfl fun σ w1 hC h => ?_
     have e92 := eqo (h 92 (by decide))
     have hC : Ext _ w1 := hC
     refine Yk.callA2 sha9_pl59 e92 (vr (.int .u64 ((19 : Nat) : Int)) rfl) ((rot_any _ ((Sha.pad64 (Sha.sched B t)).getD ((t) - (2)) 0) 19 (by decide) (by decide)).mono ?_)
     rintro e w2 ⟨rfl, hx⟩
     exact ⟨_, rfl, hx, rfl⟩
    ·refine stepN rfl fun σ w1 hC h => ?_
     have e91 := eqo (h 91 (by decide))
     have e93 := eqo (h 93 (by decide))
     have hC : Ext _ w1 := hC
     exact Yk.bin e91 e93 rfl (u_xor _ _ _) ⟨Ext.refl _, rfl⟩
    ·refine stepN rfl fun σ w1 hC h => ?_
     have e9 := (eqo (h 9 (by decide))).trans T9
     have hC : Ext _ w1 := hC
     exact Yk.move e9 ⟨Ext.refl _, rfl⟩
    ·refine stepN rfl fun σ w1 hC h => ?_
     have e95 := eqo (h 95 (by decide))
     have hC : Ext _ w1 := hC
     exact Yk.bin e95 (vr (.int .u64 ((10 : Nat) : Int)) rfl) rfl (u_shr _ _ _ 10 (by decide)) ⟨Ext.refl _, rfl⟩
    ·refine stepN rfl fun σ w1 hC h => ?_
     have e94 := eqo (h 94 (by decide))
     have e96 := eqo (h 96 (by decide))
     have hC : Ext _ w1 := hC
     exact Yk.bin e94 e96 rfl (u_xor _ _ _) ⟨Ext.refl _, rfl⟩
    ·refine stepN rfl fun σ w1 hC h => ?_
     have e7 := (eqo (h 7 (by decide))).trans T7
     have hC : Ext _ w1 := hC
     exact Yk.move e7 ⟨Ext.refl _, rfl⟩
    ·refine stepN rfl fun σ w1 hC h => ?_
     have e98 := eqo (h 98 (by decide))
     have hC : Ext _ w1 := hC
     exact Yk.bin (xv := NI t) (yv := NI 7) e98 rfl rfl (i64_sub _ _ _ (by omega) (by omega)) ⟨Ext.refl _, rfl⟩
    ·refine stepN rfl fun σ w1 hC h => ?_
     have e6 := (eqo (h 6 (by decide))).trans T6
     have e99 := eqo (h 99 (by decide))
     have hC : Ext _ w1 := hC
     exact Yk.atArr0 (i := (t) - (7)) sha9_ty95 sha9_sz93 e6 e99 (by omega) ⟨Ext.refl _, rfl⟩
    ·refine stepN rfl fun σ w1 hC h => ?_
     have e100 := eqo (h 100 (by decide))
     have hC : Ext _ w1 := hC
     exact Yk.cell1 sha9_ty93 rfl e100 (cellAt (eb hC hb64l) (word_at (i := (t) - (7)) (by rw [hpl]; omega))) ⟨Ext.refl _, rfl⟩
    ·refine stepN rfl fun σ w1 hC h => ?_
     have e97 := eqo (h 97 (by decide))
     have e101 := eqo (h 101 (by decide))
     have hC : Ext _ w1 := hC
     exact Yk.bin e97 e101 rfl (u_add _ _ _) ⟨Ext.refl _, rfl⟩
    ·refine stepN rfl fun σ w1 hC h => ?_
     have e8 := (eqo (h 8 (by decide))).trans T8
     have hC : Ext _ w1 := hC
     exact Yk.move e8 ⟨Ext.refl _, rfl⟩
    ·refine stepN rfl fun σ w1 hC h => ?_
     have e103 := eqo (h 103 (by decide))
     have hC : Ext _ w1 := hC
     refine Yk.callA2 sha9_pl59 e103 (vr (.int .u64 ((7 : Nat) : Int)) rfl) ((rot_any _ ((Sha.pad64 (Sha.sched B t)).getD ((t) - (15)) 0) 7 (by decide) (by decide)).mono ?_)
     rintro e w2 ⟨rfl, hx⟩
     exact ⟨_, rfl, hx, rfl⟩
    ·refine stepN rfl fun σ w1 hC h => ?_
     have e8 := (eqo (h 8 (by decide))).trans T8
     have hC : Ext _ w1 := hC
     exact Yk.move e8 ⟨Ext.refl _, rfl⟩
    ·refine stepN rfl fun σ w1 hC h => ?_
     have e105 := eqo (h 105 (by decide))
     have hC : Ext _ w1 := hC
     refine Yk.callA2 sha9_pl59 e105 (vr (.int .u64 ((18 : Nat) : Int)) rfl) ((rot_any _ ((Sha.pad64 (Sha.sched B t)).getD ((t) - (15)) 0) 18 (by decide) (by decide)).mono ?_)
     rintro e w2 ⟨rfl, hx⟩
     exact ⟨_, rfl, hx, rfl⟩
    ·refine stepN rfl fun σ w1 hC h => ?_
     have e104 := eqo (h 104 (by decide))
     have e106 := eqo (h 106 (by decide))
     have hC : Ext _ w1 := hC
     exact Yk.bin e104 e106 rfl (u_xor _ _ _) ⟨Ext.refl _, rfl⟩
    ·refine stepN rfl fun σ w1 hC h => ?_
     have e8 := (eqo (h 8 (by decide))).trans T8
     have hC : Ext _ w1 := hC
     exact Yk.move e8 ⟨Ext.refl _, rfl⟩
    ·refine stepN rfl fun σ w1 hC h => ?_
     have e108 := eqo (h 108 (by decide))
     have hC : Ext _ w1 := hC
     exact Yk.bin e108 (vr (.int .u64 ((3 : Nat) : Int)) rfl) rfl (u_shr _ _ _ 3 (by decide)) ⟨Ext.refl _, rfl⟩
    ·refine stepN rfl fun σ w1 hC h => ?_
     have e107 := eqo (h 107 (by decide))
     have e109 := eqo (h 109 (by decide))
     have hC : Ext _ w1 := hC
     exact Yk.bin e107 e109 rfl (u_xor _ _ _) ⟨Ext.refl _, rfl⟩
    ·refine stepN rfl fun σ w1 hC h => ?_
     have e102 := eqo (h 102 (by decide))
     have e110 := eqo (h 110 (by decide))
     have hC : Ext _ w1 := hC
     exact Yk.bin e102 e110 rfl (u_add _ _ _) ⟨Ext.refl _, rfl⟩
    ·refine stepN rfl fun σ w1 hC h => ?_
     have e7 := (eqo (h 7 (by decide))).trans T7
     have hC : Ext _ w1 := hC
     exact Yk.move e7 ⟨Ext.refl _, rfl⟩
    ·refine stepN rfl fun σ w1 hC h => ?_
     have e112 := eqo (h 112 (by decide))
     have hC : Ext _ w1 := hC
     exact Yk.bin (xv := NI t) (yv := NI 16) e112 rfl rfl (i64_sub _ _ _ (by omega) (by omega)) ⟨Ext.refl _, rfl⟩
    ·refine stepN rfl fun σ w1 hC h => ?_
     have e6 := (eqo (h 6 (by decide))).trans T6
     have e113 := eqo (h 113 (by decide))
     have hC : Ext _ w1 := hC
     exact Yk.atArr0 (i := (t) - (16)) sha9_ty95 sha9_sz93 e6 e113 (by omega) ⟨Ext.refl _, rfl⟩
    ·refine stepN rfl fun σ w1 hC h => ?_
     have e114 := eqo (h 114 (by decide))
     have hC : Ext _ w1 := hC
     exact Yk.cell1 sha9_ty93 rfl e114 (cellAt (eb hC hb64l) (word_at (i := (t) - (16)) (by rw [hpl]; omega))) ⟨Ext.refl _, rfl⟩
    ·refine stepN rfl fun σ w1 hC h => ?_
     have e111 := eqo (h 111 (by decide))
     have e115 := eqo (h 115 (by decide))
     have hC : Ext _ w1 := hC
     exact Yk.bin e111 e115 rfl (u_add _ _ _) ⟨Ext.refl _, rfl⟩
    ·refine stepN rfl fun σ w1 hC h => ?_
     have e6 := (eqo (h 6 (by decide))).trans T6
     have e89 := eqo (h 89 (by decide))
     have hC : Ext _ w1 := hC
     exact Yk.atArr0 (i := t) sha9_ty95 sha9_sz93 e6 e89 (by omega) ⟨Ext.refl _, rfl⟩
    ·refine stepN rfl fun σ w1 hC h => ?_
     have e117 := eqo (h 117 (by decide))
     have e116 := eqo (h 116 (by decide))
     have hC : Ext _ w1 := hC
     exact Yk.storeU32 (i := t) (v := (((((Sha.rotr ((Sha.pad64 (Sha.sched B t)).getD ((t) - (2)) 0) 17) ^^^ (Sha.rotr ((Sha.pad64 (Sha.sched B t)).getD ((t) - (2)) 0) 19)) ^^^ (((Sha.pad64 (Sha.sched B t)).getD ((t) - (2)) 0) >>> 10)) + ((Sha.pad64 (Sha.sched B t)).getD ((t) - (7)) 0)) + (((Sha.rotr ((Sha.pad64 (Sha.sched B t)).getD ((t) - (15)) 0) 7) ^^^ (Sha.rotr ((Sha.pad64 (Sha.sched B t)).getD ((t) - (15)) 0) 18)) ^^^ (((Sha.pad64 (Sha.sched B t)).getD ((t) - (15)) 0) >>> 3))) + ((Sha.pad64 (Sha.sched B t)).getD ((t) - (16)) 0)) e117 e116 (eb hC hb64l) (by rw [hpl]; omega) sha9_isz93 fun w2 h1 h2 h3 => ⟨⟨h1, h2, h3⟩, trivial⟩
   intro ρ97 w100 w98 hx99 hS101 he hf
   obtain ⟨-, -, -, -, -, -, -, -, -, -, -, -, -, -, -, -, -, -, -, -, -, -, -, -, -, -, -, -, -, -⟩ := hf
   obtain ⟨T0, T2, T3, T4, T5, T6, T7, T8, T9, -⟩ := he.hold [(0, _), (2, _), (3, _), (4, _), (5, _), (6, _), (7, _), (8, _), (9, _)] ⟨T0, T2, T3, T4, T5, T6, T7, T8, T9, trivial⟩ rfl
   clear he
   have hE := hE.trans hx99
   have hb8 := eb hx99 hb8
   have hA17 := hA17.trans hx99
   have ho39 := Stab.own _ _ _ _ _ _ _ _ ho39 hx99
   have hb21l := eb hx99 hb21l
   have hA56 := hA56.trans hx99
   have hb64l := eb hx99 hb64l
   obtain ⟨hb102, hg103, hs104⟩ := hS101
   have hE := row_fresh hE hg103 (Nat.le_trans hz59 (by omega))
   have hb8 := kb hg103 hb8 (by omega)
   have hA17 := row_fresh hA17 hg103 (Nat.le_trans hz60 (by omega))
   have ho39 := own_kept ho39 hg103 hap63
   have hb21l := kb hg103 hb21l (by omega)
   have hA56 := row_fresh hA56 hg103 (Nat.le_trans (Nat.le_refl _) (by omega))
   clear hb64l
   have hb64l := hb102; clear hb102
   have hl105 := bl hb64l
   have hb64l : w98.heap[n50]? = some (.cells ((Sha.pad64 (Sha.sched B (t + 1))).map fun x => U x).toArray 95 (0, 0)) := blk_eq hb64l (congrArg (List.map fun x => U x) (Sha.sched_step2 B t (by omega) hc1))
   refine bN (tN (hK73 _ _ (wt (oM rfl (oS rfl (Yk.bin (xv := NI t) (yv := NI 1) T7 rfl rfl (i64_add _ _ _ (by omega)) (oA rfl (oL_ [(0, v), (2, PQ n2 0), (3, PQ n11 0), (4, v29), (5, NI (64 * j)), (6, PQ n50 0), (7, NI ((t) + (1))), (8, U ((Sha.pad64 (Sha.sched B t)).getD ((t) - (15)) 0)), (9, U ((Sha.pad64 (Sha.sched B t)).getD ((t) - (2)) 0))] ⟨T0, T2, T3, T4, T5, T6, rfl, T8, T9, trivial⟩ fun ρ106 ⟨T0, T2, T3, T4, T5, T6, T7, T8, T9, _⟩ => (tN (And.intro ⟨t + 1, T0, T2, T3, T4, T5, T6, T7, hE, hb8, hA17, ho39, hb21l, hA56, blk_eq hb64l (rfl), by omega, trivial⟩ ?_))))))))))
   show 64 - (intOf (ρ106 7)).toNat < 64 - (intOf (ρ69 7)).toNat
   rw [T7, q7]
   simp only [intOf, Int.toNat_natCast]; omega
  obtain ⟨F, hF⟩ : ∃ F, F = Sha.sched B 64 := ⟨_, rfl⟩
  have hb64l : w70.heap[n50]? = some (.cells (F.map fun x => U x).toArray 95 (0, 0)) := blk_eq hb64l (by rw [show t = 64 by omega, ← hF, Sha.pad64_full _ (by rw [hF, Sha.sched_length])])
  have hFl : F.length = 64 := by rw [hF, Sha.sched_length]
  refine wpF_exit (thenF_exit (thenF_exit (inBlockF_hit (tN (hK66 _ _ (sk fun K107 hK107 => ?_))))))
  refine wpF_draw [Is (PQ n11 0), Is (U ((Sj).getD (0) 0)), Is (PQ n11 1), Is (U ((Sj).getD (1) 0)), Is (PQ n11 2), Is (U ((Sj).getD (2) 0)), Is (PQ n11 3), Is (U ((Sj).getD (3) 0)), Is (PQ n11 4), Is (U ((Sj).getD (4) 0)), Is (PQ n11 5), Is (U ((Sj).getD (5) 0)), Is (PQ n11 6), Is (U ((Sj).getD (6) 0)), Is (PQ n11 7), Is (U ((Sj).getD (7) 0)), Is (U ((Sj).getD (0) 0)), Is (U ((Sj).getD (1) 0)), Is (U ((Sj).getD (2) 0)), Is (U ((Sj).getD (3) 0)), Is (U ((Sj).getD (4) 0)), Is (U ((Sj).getD (5) 0)), Is (U ((Sj).getD (6) 0)), Is (U ((Sj).getD (7) 0))] (by kernel_rfl) [118, 119, 120, 121, 122, 123, 124, 125, 126, 127, 128, 129, 130, 131, 132, 133, 10, 11, 12, 13, 14, 15, 16, 17] (by kernel_rfl) (by kernel_rfl) (si12 (si12 trivial)) ?hs9014 ?hQ9014
  case hs9014 =>
   refine ⟨?_, ?_, ?_, ?_, ?_, ?_, ?_, ?_, ?_, ?_, ?_, ?_, ?_, ?_, ?_, ?_, ?_, ?_, ?_, ?_, ?_, ?_, ?_, ?_, trivial⟩
   ·refine stepN rfl fun σ w1 hC h => ?_
    have e3 := (eqo (h 3 (by decide))).trans T3
    exact Yk.atArr0 (i := 0) sha9_ty94 sha9_sz93 e3 (vr (NI 0) rfl) (by omega) ⟨Ext.refl _, rfl⟩
   ·refine stepN rfl fun σ w1 hC h => ?_
    have e118 := eqo (h 118 (by decide))
    exact Yk.cell1 sha9_ty93 rfl e118 (cellAt (eb hC hb21l) (word_at (i := 0) (by rw [hSl]; omega))) ⟨Ext.refl _, rfl⟩
   ·refine stepN rfl fun σ w1 hC h => ?_
    have e3 := (eqo (h 3 (by decide))).trans T3
    exact Yk.atArr0 (i := 1) sha9_ty94 sha9_sz93 e3 (vr (NI 1) rfl) (by omega) ⟨Ext.refl _, rfl⟩
   ·refine stepN rfl fun σ w1 hC h => ?_
    have e120 := eqo (h 120 (by decide))
    exact Yk.cell1 sha9_ty93 rfl e120 (cellAt (eb hC hb21l) (word_at (i := 1) (by rw [hSl]; omega))) ⟨Ext.refl _, rfl⟩
   ·refine stepN rfl fun σ w1 hC h => ?_
    have e3 := (eqo (h 3 (by decide))).trans T3
    exact Yk.atArr0 (i := 2) sha9_ty94 sha9_sz93 e3 (vr (NI 2) rfl) (by omega) ⟨Ext.refl _, rfl⟩
   ·refine stepN rfl fun σ w1 hC h => ?_
    have e122 := eqo (h 122 (by decide))
    exact Yk.cell1 sha9_ty93 rfl e122 (cellAt (eb hC hb21l) (word_at (i := 2) (by rw [hSl]; omega))) ⟨Ext.refl _, rfl⟩
   ·refine stepN rfl fun σ w1 hC h => ?_
    have e3 := (eqo (h 3 (by decide))).trans T3
    exact Yk.atArr0 (i := 3) sha9_ty94 sha9_sz93 e3 (vr (NI 3) rfl) (by omega) ⟨Ext.refl _, rfl⟩
   ·refine stepN rfl fun σ w1 hC h => ?_
    have e124 := eqo (h 124 (by decide))
    exact Yk.cell1 sha9_ty93 rfl e124 (cellAt (eb hC hb21l) (word_at (i := 3) (by rw [hSl]; omega))) ⟨Ext.refl _, rfl⟩
   ·refine stepN rfl fun σ w1 hC h => ?_
    have e3 := (eqo (h 3 (by decide))).trans T3
    exact Yk.atArr0 (i := 4) sha9_ty94 sha9_sz93 e3 (vr (NI 4) rfl) (by omega) ⟨Ext.refl _, rfl⟩
   ·refine stepN rfl fun σ w1 hC h => ?_
    have e126 := eqo (h 126 (by decide))
    exact Yk.cell1 sha9_ty93 rfl e126 (cellAt (eb hC hb21l) (word_at (i := 4) (by rw [hSl]; omega))) ⟨Ext.refl _, rfl⟩
   ·refine stepN rfl fun σ w1 hC h => ?_
    have e3 := (eqo (h 3 (by decide))).trans T3
    exact Yk.atArr0 (i := 5) sha9_ty94 sha9_sz93 e3 (vr (NI 5) rfl) (by omega) ⟨Ext.refl _, rfl⟩
   ·refine stepN rfl fun σ w1 hC h => ?_
    have e128 := eqo (h 128 (by decide))
    exact Yk.cell1 sha9_ty93 rfl e128 (cellAt (eb hC hb21l) (word_at (i := 5) (by rw [hSl]; omega))) ⟨Ext.refl _, rfl⟩
   ·refine stepN rfl fun σ w1 hC h => ?_
    have e3 := (eqo (h 3 (by decide))).trans T3
    exact Yk.atArr0 (i := 6) sha9_ty94 sha9_sz93 e3 (vr (NI 6) rfl) (by omega) ⟨Ext.refl _, rfl⟩
   ·refine stepN rfl fun σ w1 hC h => ?_
    have e130 := eqo (h 130 (by decide))
    exact Yk.cell1 sha9_ty93 rfl e130 (cellAt (eb hC hb21l) (word_at (i := 6) (by rw [hSl]; omega))) ⟨Ext.refl _, rfl⟩
   ·refine stepN rfl fun σ w1 hC h => ?_
    have e3 := (eqo (h 3 (by decide))).trans T3
    exact Yk.atArr0 (i := 7) sha9_ty94 sha9_sz93 e3 (vr (NI 7) rfl) (by omega) ⟨Ext.refl _, rfl⟩
   ·refine stepN rfl fun σ w1 hC h => ?_
    have e132 := eqo (h 132 (by decide))
    exact Yk.cell1 sha9_ty93 rfl e132 (cellAt (eb hC hb21l) (word_at (i := 7) (by rw [hSl]; omega))) ⟨Ext.refl _, rfl⟩
   ·refine stepN rfl fun σ w1 hC h => ?_
    have e119 := eqo (h 119 (by decide))
    exact Yk.assign e119 ⟨Ext.refl _, rfl⟩
   ·refine stepN rfl fun σ w1 hC h => ?_
    have e121 := eqo (h 121 (by decide))
    exact Yk.assign e121 ⟨Ext.refl _, rfl⟩
   ·refine stepN rfl fun σ w1 hC h => ?_
    have e123 := eqo (h 123 (by decide))
    exact Yk.assign e123 ⟨Ext.refl _, rfl⟩
   ·refine stepN rfl fun σ w1 hC h => ?_
    have e125 := eqo (h 125 (by decide))
    exact Yk.assign e125 ⟨Ext.refl _, rfl⟩
   ·refine stepN rfl fun σ w1 hC h => ?_
    have e127 := eqo (h 127 (by decide))
    exact Yk.assign e127 ⟨Ext.refl _, rfl⟩
   ·refine stepN rfl fun σ w1 hC h => ?_
    have e129 := eqo (h 129 (by decide))
    exact Yk.assign e129 ⟨Ext.refl _, rfl⟩
   ·refine stepN rfl fun σ w1 hC h => ?_
    have e131 := eqo (h 131 (by decide))
    exact Yk.assign e131 ⟨Ext.refl _, rfl⟩
   ·refine stepN rfl fun σ w1 hC h => ?_
    have e133 := eqo (h 133 (by decide))
    exact Yk.assign e133 ⟨Ext.refl _, rfl⟩
  intro ρ108 w109 hx110 he hf
  obtain ⟨-, -, -, -, -, -, -, -, -, -, -, -, -, -, -, -, k10, k11, k12, k13, k14, k15, k16, k17, -⟩ := hf
  obtain ⟨T0, T2, T3, T4, T5, T6, T7, -⟩ := he.hold [(0, _), (2, _), (3, _), (4, _), (5, _), (6, _), (7, _)] ⟨T0, T2, T3, T4, T5, T6, T7, trivial⟩ rfl
  clear he
  have hE := hE.trans hx110
  have hb8 := eb hx110 hb8
  have hA17 := hA17.trans hx110
  have ho39 := Stab.own _ _ _ _ _ _ _ _ ho39 hx110
  have hb21l := eb hx110 hb21l
  have hA56 := hA56.trans hx110
  have hb64l := eb hx110 hb64l
  have T10 : ρ108 10 = U ((Sj).getD (0) 0) := k10
  have T11 : ρ108 11 = U ((Sj).getD (1) 0) := k11
  have T12 : ρ108 12 = U ((Sj).getD (2) 0) := k12
  have T13 : ρ108 13 = U ((Sj).getD (3) 0) := k13
  have T14 : ρ108 14 = U ((Sj).getD (4) 0) := k14
  have T15 : ρ108 15 = U ((Sj).getD (5) 0) := k15
  have T16 : ρ108 16 = U ((Sj).getD (6) 0) := k16
  have T17 : ρ108 17 = U ((Sj).getD (7) 0) := k17
  clear k10 k11 k12 k13 k14 k15 k16 k17
  refine tN (hK107 _ _ (sk fun K111 hK111 => (sk fun K112 hK112 => (wt (oA rfl (oL_ [(0, v), (2, PQ n2 0), (3, PQ n11 0), (4, v29), (5, NI (64 * j)), (6, PQ n50 0), (7, NI t), (10, U ((Sj).getD (0) 0)), (11, U ((Sj).getD (1) 0)), (12, U ((Sj).getD (2) 0)), (13, U ((Sj).getD (3) 0)), (14, U ((Sj).getD (4) 0)), (15, U ((Sj).getD (5) 0)), (16, U ((Sj).getD (6) 0)), (17, U ((Sj).getD (7) 0)), (18, NI 0)] ⟨T0, T2, T3, T4, T5, T6, T7, T10, T11, T12, T13, T14, T15, T16, T17, rfl, trivial⟩ fun ρ113 ⟨T0, T2, T3, T4, T5, T6, T7, T10, T11, T12, T13, T14, T15, T16, T17, T18, _⟩ => (tN (hK112 _ _ (wpF_block (wpF_loop (fun (ρ : Slots) (wz : World) => ∃ r : Nat, ρ 0 = (v : Value) ∧ ρ 2 = (PQ n2 0 : Value) ∧ ρ 3 = (PQ n11 0 : Value) ∧ ρ 4 = (v29 : Value) ∧ ρ 5 = (NI (64 * j) : Value) ∧ ρ 6 = (PQ n50 0 : Value) ∧ ρ 7 = (NI t : Value) ∧ ρ 18 = (NI r : Value) ∧ ρ 10 = (U ((Sha.turned Sj F r).getD 0 0) : Value) ∧ ρ 11 = (U ((Sha.turned Sj F r).getD 1 0) : Value) ∧ ρ 12 = (U ((Sha.turned Sj F r).getD 2 0) : Value) ∧ ρ 13 = (U ((Sha.turned Sj F r).getD 3 0) : Value) ∧ ρ 14 = (U ((Sha.turned Sj F r).getD 4 0) : Value) ∧ ρ 15 = (U ((Sha.turned Sj F r).getD 5 0) : Value) ∧ ρ 16 = (U ((Sha.turned Sj F r).getD 6 0) : Value) ∧ ρ 17 = (U ((Sha.turned Sj F r).getD 7 0) : Value) ∧ Ext w wz ∧ wz.heap[n2]? = some (.cells (Lib.byteCells (List.replicate 32 0)).toArray 26 (0, 0)) ∧ Ext w3 wz ∧ wz.ownsRow w23.heap.size 5 1 v29 (P : List UInt8).length (Lib.byteCells (P)) ∧ wz.heap[n11]? = some (.cells (Sj.map fun x => U x).toArray 94 (0, 0)) ∧ Ext w44 wz ∧ wz.heap[n50]? = some (.cells (F.map fun x => U x).toArray 95 (0, 0)) ∧ (r ≤ 64) ∧ True) (fun ρ _ => 64 - (intOf (ρ 18)).toNat) ⟨0, T0, T2, T3, T4, T5, T6, T7, T18, T10, T11, T12, T13, T14, T15, T16, T17, hE, hb8, hA17, ho39, hb21l, hA56, hb64l, Nat.zero_le _, trivial⟩ ?_))))))))))
  clear hE hb8 hA17 ho39 hb21l hA56 hb64l
  rintro ρ114 w115 ⟨r, T0, T2, T3, T4, T5, T6, T7, T18, T10, T11, T12, T13, T14, T15, T16, T17, hE, hb8, hA17, ho39, hb21l, hA56, hb64l, hr64, -⟩
  have q18 := T18
  refine sk fun K116 hK116 => (sk fun K117 hK117 => (wt (oM rfl (oS rfl (Yk.eqI (a := (r : Nat)) (b := (64 : Nat)) T18 rfl (k_lss _ _ _ _) (oL_ [(0, v), (2, PQ n2 0), (3, PQ n11 0), (4, v29), (5, NI (64 * j)), (6, PQ n50 0), (7, NI t), (10, U ((Sha.turned Sj F r).getD 0 0)), (11, U ((Sha.turned Sj F r).getD 1 0)), (12, U ((Sha.turned Sj F r).getD 2 0)), (13, U ((Sha.turned Sj F r).getD 3 0)), (14, U ((Sha.turned Sj F r).getD 4 0)), (15, U ((Sha.turned Sj F r).getD 5 0)), (16, U ((Sha.turned Sj F r).getD 6 0)), (17, U ((Sha.turned Sj F r).getD 7 0)), (18, NI r), (135, .bool (decide ((r) < (64))))] ⟨T0, T2, T3, T4, T5, T6, T7, T10, T11, T12, T13, T14, T15, T16, T17, T18, rfl, trivial⟩ fun ρ118 ⟨T0, T2, T3, T4, T5, T6, T7, T10, T11, T12, T13, T14, T15, T16, T17, T18, T135, _⟩ => (tN (hK117 _ _ ?_))))))))
  refine wpF_cond ((r) < (64)) T135 (fun hc3 => ?_) (fun hc3 => ?_)
  ·refine wpF_skip (tN (hK116 _ _ (sk fun K119 hK119 => (wpF_block (sk fun K120 hK120 => ?_)))))
   refine wpF_draw [Is (U ((Sha.turned Sj F r).getD 7 0)), Is (U ((Sha.turned Sj F r).getD 4 0)), Is (U (Sha.rotr ((Sha.turned Sj F r).getD 4 0) 6)), Is (U ((Sha.turned Sj F r).getD 4 0)), Is (U (Sha.rotr ((Sha.turned Sj F r).getD 4 0) 11)), Is (U ((Sha.rotr ((Sha.turned Sj F r).getD 4 0) 6) ^^^ (Sha.rotr ((Sha.turned Sj F r).getD 4 0) 11))), Is (U ((Sha.turned Sj F r).getD 4 0)), Is (U (Sha.rotr ((Sha.turned Sj F r).getD 4 0) 25)), Is (U (((Sha.rotr ((Sha.turned Sj F r).getD 4 0) 6) ^^^ (Sha.rotr ((Sha.turned Sj F r).getD 4 0) 11)) ^^^ (Sha.rotr ((Sha.turned Sj F r).getD 4 0) 25))), Is (U (((Sha.turned Sj F r).getD 7 0) + (((Sha.rotr ((Sha.turned Sj F r).getD 4 0) 6) ^^^ (Sha.rotr ((Sha.turned Sj F r).getD 4 0) 11)) ^^^ (Sha.rotr ((Sha.turned Sj F r).getD 4 0) 25)))), Is (U ((Sha.turned Sj F r).getD 4 0)), Is (U ((Sha.turned Sj F r).getD 5 0)), Is (U (((Sha.turned Sj F r).getD 4 0) &&& ((Sha.turned Sj F r).getD 5 0))), Is (U ((Sha.turned Sj F r).getD 4 0)), Is (U (~~~((Sha.turned Sj F r).getD 4 0))), Is (U ((Sha.turned Sj F r).getD 6 0)), Is (U ((~~~((Sha.turned Sj F r).getD 4 0)) &&& ((Sha.turned Sj F r).getD 6 0))), Is (U ((((Sha.turned Sj F r).getD 4 0) &&& ((Sha.turned Sj F r).getD 5 0)) ^^^ ((~~~((Sha.turned Sj F r).getD 4 0)) &&& ((Sha.turned Sj F r).getD 6 0)))), Is (U ((((Sha.turned Sj F r).getD 7 0) + (((Sha.rotr ((Sha.turned Sj F r).getD 4 0) 6) ^^^ (Sha.rotr ((Sha.turned Sj F r).getD 4 0) 11)) ^^^ (Sha.rotr ((Sha.turned Sj F r).getD 4 0) 25))) + ((((Sha.turned Sj F r).getD 4 0) &&& ((Sha.turned Sj F r).getD 5 0)) ^^^ ((~~~((Sha.turned Sj F r).getD 4 0)) &&& ((Sha.turned Sj F r).getD 6 0))))), Is (NI r), Is (U (Sha.words.getD (r) 0)), Is (U (((((Sha.turned Sj F r).getD 7 0) + (((Sha.rotr ((Sha.turned Sj F r).getD 4 0) 6) ^^^ (Sha.rotr ((Sha.turned Sj F r).getD 4 0) 11)) ^^^ (Sha.rotr ((Sha.turned Sj F r).getD 4 0) 25))) + ((((Sha.turned Sj F r).getD 4 0) &&& ((Sha.turned Sj F r).getD 5 0)) ^^^ ((~~~((Sha.turned Sj F r).getD 4 0)) &&& ((Sha.turned Sj F r).getD 6 0)))) + (Sha.words.getD (r) 0))), Is (NI r), Is (PQ n50 r), Is (U ((F).getD (r) 0)), Is (U ((((((Sha.turned Sj F r).getD 7 0) + (((Sha.rotr ((Sha.turned Sj F r).getD 4 0) 6) ^^^ (Sha.rotr ((Sha.turned Sj F r).getD 4 0) 11)) ^^^ (Sha.rotr ((Sha.turned Sj F r).getD 4 0) 25))) + ((((Sha.turned Sj F r).getD 4 0) &&& ((Sha.turned Sj F r).getD 5 0)) ^^^ ((~~~((Sha.turned Sj F r).getD 4 0)) &&& ((Sha.turned Sj F r).getD 6 0)))) + (Sha.words.getD (r) 0)) + ((F).getD (r) 0))), Is (U ((((((Sha.turned Sj F r).getD 7 0) + (((Sha.rotr ((Sha.turned Sj F r).getD 4 0) 6) ^^^ (Sha.rotr ((Sha.turned Sj F r).getD 4 0) 11)) ^^^ (Sha.rotr ((Sha.turned Sj F r).getD 4 0) 25))) + ((((Sha.turned Sj F r).getD 4 0) &&& ((Sha.turned Sj F r).getD 5 0)) ^^^ ((~~~((Sha.turned Sj F r).getD 4 0)) &&& ((Sha.turned Sj F r).getD 6 0)))) + (Sha.words.getD (r) 0)) + ((F).getD (r) 0)))] (by kernel_rfl) [138, 139, 140, 141, 142, 143, 144, 145, 146, 147, 148, 149, 150, 151, 152, 153, 154, 155, 156, 157, 158, 159, 160, 161, 162, 163, 19] (by kernel_rfl) (by kernel_rfl) (si3 (si12 (si12 trivial))) ?hs10018 ?hQ10018
   case hs10018 =>
    refine ⟨?_, ?_, ?_, ?_, ?_, ?_, ?_, ?_, ?_, ?_, ?_, ?_, ?_, ?_, ?_, ?_, ?_, ?_, ?_, ?_, ?_, ?_, ?_, ?_, ?_, ?_, ?_, trivial⟩
    ·refine stepN rfl fun σ w1 hC h => ?_
     have e17 := (eqo (h 17 (by decide))).trans T17
     exact Yk.move e17 ⟨Ext.refl _, rfl⟩
    ·refine stepN rfl fun σ w1 hC h => ?_
     have e14 := (eqo (h 14 (by decide))).trans T14
     exact Yk.move e14 ⟨Ext.refl _, rfl⟩
    ·refine stepN rfl fun σ w1 hC h => ?_
     have e139 := eqo (h 139 (by decide))
     refine Yk.callA2 sha9_pl59 e139 (vr (.int .u64 ((6 : Nat) : Int)) rfl) ((rot_any _ ((Sha.turned Sj F r).getD 4 0) 6 (by decide) (by decide)).mono ?_)
     rintro e w2 ⟨rfl, hx⟩
     exact ⟨_, rfl, hx, rfl⟩
    ·refine stepN rfl fun σ w1 hC h => ?_
     have e14 := (eqo (h 14 (by decide))).trans T14
     exact Yk.move e14 ⟨Ext.refl _, rfl⟩
    ·refine stepN rfl fun σ w1 hC h => ?_
     have e141 := eqo (h 141 (by decide))
     refine Yk.callA2 sha9_pl59 e141 (vr (.int .u64 ((11 : Nat) : Int)) rfl) ((rot_any _ ((Sha.turned Sj F r).getD 4 0) 11 (by decide) (by decide)).mono ?_)
     rintro e w2 ⟨rfl, hx⟩
     exact ⟨_, rfl, hx, rfl⟩
    ·refine stepN rfl fun σ w1 hC h => ?_
     have e140 := eqo (h 140 (by decide))
     have e142 := eqo (h 142 (by decide))
     exact Yk.bin e140 e142 rfl (u_xor _ _ _) ⟨Ext.refl _, rfl⟩
    ·refine stepN rfl fun σ w1 hC h => ?_
     have e14 := (eqo (h 14 (by decide))).trans T14
     exact Yk.move e14 ⟨Ext.refl _, rfl⟩
    ·refine stepN rfl fun σ w1 hC h => ?_
     have e144 := eqo (h 144 (by decide))
     refine Yk.callA2 sha9_pl59 e144 (vr (.int .u64 ((25 : Nat) : Int)) rfl) ((rot_any _ ((Sha.turned Sj F r).getD 4 0) 25 (by decide) (by decide)).mono ?_)
     rintro e w2 ⟨rfl, hx⟩
     exact ⟨_, rfl, hx, rfl⟩
    ·refine stepN rfl fun σ w1 hC h => ?_
     have e143 := eqo (h 143 (by decide))
     have e145 := eqo (h 145 (by decide))
     exact Yk.bin e143 e145 rfl (u_xor _ _ _) ⟨Ext.refl _, rfl⟩
    ·refine stepN rfl fun σ w1 hC h => ?_
     have e138 := eqo (h 138 (by decide))
     have e146 := eqo (h 146 (by decide))
     exact Yk.bin e138 e146 rfl (u_add _ _ _) ⟨Ext.refl _, rfl⟩
    ·refine stepN rfl fun σ w1 hC h => ?_
     have e14 := (eqo (h 14 (by decide))).trans T14
     exact Yk.move e14 ⟨Ext.refl _, rfl⟩
    ·refine stepN rfl fun σ w1 hC h => ?_
     have e15 := (eqo (h 15 (by decide))).trans T15
     exact Yk.move e15 ⟨Ext.refl _, rfl⟩
    ·refine stepN rfl fun σ w1 hC h => ?_
     have e148 := eqo (h 148 (by decide))
     have e149 := eqo (h 149 (by decide))
     exact Yk.bin e148 e149 rfl (u_and _ _ _) ⟨Ext.refl _, rfl⟩
    ·refine stepN rfl fun σ w1 hC h => ?_
     have e14 := (eqo (h 14 (by decide))).trans T14
     exact Yk.move e14 ⟨Ext.refl _, rfl⟩
    ·refine stepN rfl fun σ w1 hC h => ?_
     have e151 := eqo (h 151 (by decide))
     exact Yk.not32 e151 ⟨Ext.refl _, rfl⟩
    ·refine stepN rfl fun σ w1 hC h => ?_
     have e16 := (eqo (h 16 (by decide))).trans T16
     exact Yk.move e16 ⟨Ext.refl _, rfl⟩
    ·refine stepN rfl fun σ w1 hC h => ?_
     have e152 := eqo (h 152 (by decide))
     have e153 := eqo (h 153 (by decide))
     exact Yk.bin e152 e153 rfl (u_and _ _ _) ⟨Ext.refl _, rfl⟩
    ·refine stepN rfl fun σ w1 hC h => ?_
     have e150 := eqo (h 150 (by decide))
     have e154 := eqo (h 154 (by decide))
     exact Yk.bin e150 e154 rfl (u_xor _ _ _) ⟨Ext.refl _, rfl⟩
    ·refine stepN rfl fun σ w1 hC h => ?_
     have e147 := eqo (h 147 (by decide))
     have e155 := eqo (h 155 (by decide))
     exact Yk.bin e147 e155 rfl (u_add _ _ _) ⟨Ext.refl _, rfl⟩
    ·refine stepN rfl fun σ w1 hC h => ?_
     have e18 := (eqo (h 18 (by decide))).trans T18
     exact Yk.move e18 ⟨Ext.refl _, rfl⟩
    ·refine stepN rfl fun σ w1 hC h => ?_
     have e157 := eqo (h 157 (by decide))
     refine Yk.callA1 sha9_pl60 e157 ((key_any _ (r) (by omega)).mono ?_)
     rintro e w2 ⟨rfl, hx⟩
     exact ⟨_, rfl, hx, rfl⟩
    ·refine stepN rfl fun σ w1 hC h => ?_
     have e156 := eqo (h 156 (by decide))
     have e158 := eqo (h 158 (by decide))
     exact Yk.bin e156 e158 rfl (u_add _ _ _) ⟨Ext.refl _, rfl⟩
    ·refine stepN rfl fun σ w1 hC h => ?_
     have e18 := (eqo (h 18 (by decide))).trans T18
     exact Yk.move e18 ⟨Ext.refl _, rfl⟩
    ·refine stepN rfl fun σ w1 hC h => ?_
     have e6 := (eqo (h 6 (by decide))).trans T6
     have e160 := eqo (h 160 (by decide))
     exact Yk.atArr0 (i := r) sha9_ty95 sha9_sz93 e6 e160 (by omega) ⟨Ext.refl _, rfl⟩
    ·refine stepN rfl fun σ w1 hC h => ?_
     have e161 := eqo (h 161 (by decide))
     exact Yk.cell1 sha9_ty93 rfl e161 (cellAt (eb hC hb64l) (word_at (i := r) (by rw [hFl]; omega))) ⟨Ext.refl _, rfl⟩
    ·refine stepN rfl fun σ w1 hC h => ?_
     have e159 := eqo (h 159 (by decide))
     have e162 := eqo (h 162 (by decide))
     exact Yk.bin e159 e162 rfl (u_add _ _ _) ⟨Ext.refl _, rfl⟩
    ·refine stepN rfl fun σ w1 hC h => ?_
     have e163 := eqo (h 163 (by decide))
     exact Yk.assign e163 ⟨Ext.refl _, rfl⟩
   intro ρ121 w122 hx123 he hf
   obtain ⟨-, -, -, -, -, -, -, -, -, -, -, -, -, -, -, -, -, -, -, -, -, -, -, -, -, -, k19, -⟩ := hf
   obtain ⟨T0, T2, T3, T4, T5, T6, T7, T10, T11, T12, T13, T14, T15, T16, T17, T18, -⟩ := he.hold [(0, _), (2, _), (3, _), (4, _), (5, _), (6, _), (7, _), (10, _), (11, _), (12, _), (13, _), (14, _), (15, _), (16, _), (17, _), (18, _)] ⟨T0, T2, T3, T4, T5, T6, T7, T10, T11, T12, T13, T14, T15, T16, T17, T18, trivial⟩ rfl
   clear he
   have hE := hE.trans hx123
   have hb8 := eb hx123 hb8
   have hA17 := hA17.trans hx123
   have ho39 := Stab.own _ _ _ _ _ _ _ _ ho39 hx123
   have hb21l := eb hx123 hb21l
   have hA56 := hA56.trans hx123
   have hb64l := eb hx123 hb64l
   have T19 : ρ121 19 = U ((((((Sha.turned Sj F r).getD 7 0) + (((Sha.rotr ((Sha.turned Sj F r).getD 4 0) 6) ^^^ (Sha.rotr ((Sha.turned Sj F r).getD 4 0) 11)) ^^^ (Sha.rotr ((Sha.turned Sj F r).getD 4 0) 25))) + ((((Sha.turned Sj F r).getD 4 0) &&& ((Sha.turned Sj F r).getD 5 0)) ^^^ ((~~~((Sha.turned Sj F r).getD 4 0)) &&& ((Sha.turned Sj F r).getD 6 0)))) + (Sha.words.getD (r) 0)) + ((F).getD (r) 0)) := k19
   clear k19
   refine tN (hK120 _ _ (sk fun K124 hK124 => (wt (oM rfl (oS rfl (Yk.callA2 sha9_pl59 T10 (vr (.int .u64 ((2 : Nat) : Int)) rfl) ((rot_any _ ((Sha.turned Sj F r).getD 0 0) 2 (by decide) (by decide)).mono ?_)))))))
   rintro e w126 ⟨rfl, hx125⟩
   refine ⟨_, rfl, ?_⟩
   have hE := hE.trans hx125
   have hb8 := eb hx125 hb8
   have hA17 := hA17.trans hx125
   have ho39 := Stab.own _ _ _ _ _ _ _ _ ho39 hx125
   have hb21l := eb hx125 hb21l
   have hA56 := hA56.trans hx125
   have hb64l := eb hx125 hb64l
   refine oM rfl (oS rfl (Yk.callA2 sha9_pl59 T10 (vr (.int .u64 ((13 : Nat) : Int)) rfl) ((rot_any _ ((Sha.turned Sj F r).getD 0 0) 13 (by decide) (by decide)).mono ?_)))
   rintro e w128 ⟨rfl, hx127⟩
   refine ⟨_, rfl, ?_⟩
   have hE := hE.trans hx127
   have hb8 := eb hx127 hb8
   have hA17 := hA17.trans hx127
   have ho39 := Stab.own _ _ _ _ _ _ _ _ ho39 hx127
   have hb21l := eb hx127 hb21l
   have hA56 := hA56.trans hx127
   have hb64l := eb hx127 hb64l
   refine oS rfl (Yk.bin (vr (U (Sha.rotr ((Sha.turned Sj F r).getD 0 0) 2)) rfl) (vr (U (Sha.rotr ((Sha.turned Sj F r).getD 0 0) 13)) rfl) rfl (u_xor _ _ _) (oM rfl (oS rfl (Yk.callA2 sha9_pl59 T10 (vr (.int .u64 ((22 : Nat) : Int)) rfl) ((rot_any _ ((Sha.turned Sj F r).getD 0 0) 22 (by decide) (by decide)).mono ?_)))))
   rintro e w130 ⟨rfl, hx129⟩
   refine ⟨_, rfl, ?_⟩
   have hE := hE.trans hx129
   have hb8 := eb hx129 hb8
   have hA17 := hA17.trans hx129
   have ho39 := Stab.own _ _ _ _ _ _ _ _ ho39 hx129
   have hb21l := eb hx129 hb21l
   have hA56 := hA56.trans hx129
   have hb64l := eb hx129 hb64l
   refine oS rfl (Yk.bin (vr (U ((Sha.rotr ((Sha.turned Sj F r).getD 0 0) 2) ^^^ (Sha.rotr ((Sha.turned Sj F r).getD 0 0) 13))) rfl) (vr (U (Sha.rotr ((Sha.turned Sj F r).getD 0 0) 22)) rfl) rfl (u_xor _ _ _) (oM rfl (oM rfl (oS rfl (Yk.bin T10 T11 rfl (u_and _ _ _) (oM rfl (oM rfl (oS rfl (Yk.bin T10 T12 rfl (u_and _ _ _) (oS rfl (Yk.bin (vr (U (((Sha.turned Sj F r).getD 0 0) &&& ((Sha.turned Sj F r).getD 1 0))) rfl) (vr (U (((Sha.turned Sj F r).getD 0 0) &&& ((Sha.turned Sj F r).getD 2 0))) rfl) rfl (u_xor _ _ _) (oM rfl (oM rfl (oS rfl (Yk.bin T11 T12 rfl (u_and _ _ _) (oS rfl (Yk.bin (vr (U ((((Sha.turned Sj F r).getD 0 0) &&& ((Sha.turned Sj F r).getD 1 0)) ^^^ (((Sha.turned Sj F r).getD 0 0) &&& ((Sha.turned Sj F r).getD 2 0)))) rfl) (vr (U (((Sha.turned Sj F r).getD 1 0) &&& ((Sha.turned Sj F r).getD 2 0))) rfl) rfl (u_xor _ _ _) (oS rfl (Yk.bin (vr (U (((Sha.rotr ((Sha.turned Sj F r).getD 0 0) 2) ^^^ (Sha.rotr ((Sha.turned Sj F r).getD 0 0) 13)) ^^^ (Sha.rotr ((Sha.turned Sj F r).getD 0 0) 22))) rfl) (vr (U (((((Sha.turned Sj F r).getD 0 0) &&& ((Sha.turned Sj F r).getD 1 0)) ^^^ (((Sha.turned Sj F r).getD 0 0) &&& ((Sha.turned Sj F r).getD 2 0))) ^^^ (((Sha.turned Sj F r).getD 1 0) &&& ((Sha.turned Sj F r).getD 2 0)))) rfl) rfl (u_add _ _ _) (oA rfl (oZ (tN (hK124 _ _ ?_)))))))))))))))))))))))
   refine wt (oM rfl (oM rfl (oM rfl (oM rfl (oM rfl (oS rfl (Yk.bin T13 T19 rfl (u_add _ _ _) (oM rfl (oM rfl (oM rfl (oM rfl (oM rfl (oS rfl (Yk.bin T19 (vr (U ((((Sha.rotr ((Sha.turned Sj F r).getD 0 0) 2) ^^^ (Sha.rotr ((Sha.turned Sj F r).getD 0 0) 13)) ^^^ (Sha.rotr ((Sha.turned Sj F r).getD 0 0) 22)) + (((((Sha.turned Sj F r).getD 0 0) &&& ((Sha.turned Sj F r).getD 1 0)) ^^^ (((Sha.turned Sj F r).getD 0 0) &&& ((Sha.turned Sj F r).getD 2 0))) ^^^ (((Sha.turned Sj F r).getD 1 0) &&& ((Sha.turned Sj F r).getD 2 0))))) rfl) rfl (u_add _ _ _) (oA rfl (oA rfl (oA rfl ?_)))))))))))))))))
   refine oA rfl (oA rfl (oA rfl (oA rfl (oA rfl (oL_ [(0, v), (2, PQ n2 0), (3, PQ n11 0), (4, v29), (5, NI (64 * j)), (6, PQ n50 0), (7, NI t), (10, U (((((((Sha.turned Sj F r).getD 7 0) + (((Sha.rotr ((Sha.turned Sj F r).getD 4 0) 6) ^^^ (Sha.rotr ((Sha.turned Sj F r).getD 4 0) 11)) ^^^ (Sha.rotr ((Sha.turned Sj F r).getD 4 0) 25))) + ((((Sha.turned Sj F r).getD 4 0) &&& ((Sha.turned Sj F r).getD 5 0)) ^^^ ((~~~((Sha.turned Sj F r).getD 4 0)) &&& ((Sha.turned Sj F r).getD 6 0)))) + (Sha.words.getD (r) 0)) + ((F).getD (r) 0)) + ((((Sha.rotr ((Sha.turned Sj F r).getD 0 0) 2) ^^^ (Sha.rotr ((Sha.turned Sj F r).getD 0 0) 13)) ^^^ (Sha.rotr ((Sha.turned Sj F r).getD 0 0) 22)) + (((((Sha.turned Sj F r).getD 0 0) &&& ((Sha.turned Sj F r).getD 1 0)) ^^^ (((Sha.turned Sj F r).getD 0 0) &&& ((Sha.turned Sj F r).getD 2 0))) ^^^ (((Sha.turned Sj F r).getD 1 0) &&& ((Sha.turned Sj F r).getD 2 0)))))), (11, U ((Sha.turned Sj F r).getD 0 0)), (12, U ((Sha.turned Sj F r).getD 1 0)), (13, U ((Sha.turned Sj F r).getD 2 0)), (14, U (((Sha.turned Sj F r).getD 3 0) + ((((((Sha.turned Sj F r).getD 7 0) + (((Sha.rotr ((Sha.turned Sj F r).getD 4 0) 6) ^^^ (Sha.rotr ((Sha.turned Sj F r).getD 4 0) 11)) ^^^ (Sha.rotr ((Sha.turned Sj F r).getD 4 0) 25))) + ((((Sha.turned Sj F r).getD 4 0) &&& ((Sha.turned Sj F r).getD 5 0)) ^^^ ((~~~((Sha.turned Sj F r).getD 4 0)) &&& ((Sha.turned Sj F r).getD 6 0)))) + (Sha.words.getD (r) 0)) + ((F).getD (r) 0)))), (15, U ((Sha.turned Sj F r).getD 4 0)), (16, U ((Sha.turned Sj F r).getD 5 0)), (17, U ((Sha.turned Sj F r).getD 6 0)), (18, NI r), (19, U ((((((Sha.turned Sj F r).getD 7 0) + (((Sha.rotr ((Sha.turned Sj F r).getD 4 0) 6) ^^^ (Sha.rotr ((Sha.turned Sj F r).getD 4 0) 11)) ^^^ (Sha.rotr ((Sha.turned Sj F r).getD 4 0) 25))) + ((((Sha.turned Sj F r).getD 4 0) &&& ((Sha.turned Sj F r).getD 5 0)) ^^^ ((~~~((Sha.turned Sj F r).getD 4 0)) &&& ((Sha.turned Sj F r).getD 6 0)))) + (Sha.words.getD (r) 0)) + ((F).getD (r) 0))), (20, U ((((Sha.rotr ((Sha.turned Sj F r).getD 0 0) 2) ^^^ (Sha.rotr ((Sha.turned Sj F r).getD 0 0) 13)) ^^^ (Sha.rotr ((Sha.turned Sj F r).getD 0 0) 22)) + (((((Sha.turned Sj F r).getD 0 0) &&& ((Sha.turned Sj F r).getD 1 0)) ^^^ (((Sha.turned Sj F r).getD 0 0) &&& ((Sha.turned Sj F r).getD 2 0))) ^^^ (((Sha.turned Sj F r).getD 1 0) &&& ((Sha.turned Sj F r).getD 2 0)))))] ⟨T0, T2, T3, T4, T5, T6, T7, rfl, T10, T11, T12, rfl, T14, T15, T16, T18, T19, rfl, trivial⟩ fun ρ131 ⟨T0, T2, T3, T4, T5, T6, T7, T10, T11, T12, T13, T14, T15, T16, T17, T18, T19, T20, _⟩ => (bN (tN (hK119 _ _ (wt (oM rfl (oS rfl (Yk.bin (xv := NI r) (yv := NI 1) T18 rfl rfl (i64_add _ _ _ (by omega)) (oA rfl (oL_ [(0, v), (2, PQ n2 0), (3, PQ n11 0), (4, v29), (5, NI (64 * j)), (6, PQ n50 0), (7, NI t), (10, U (((((((Sha.turned Sj F r).getD 7 0) + (((Sha.rotr ((Sha.turned Sj F r).getD 4 0) 6) ^^^ (Sha.rotr ((Sha.turned Sj F r).getD 4 0) 11)) ^^^ (Sha.rotr ((Sha.turned Sj F r).getD 4 0) 25))) + ((((Sha.turned Sj F r).getD 4 0) &&& ((Sha.turned Sj F r).getD 5 0)) ^^^ ((~~~((Sha.turned Sj F r).getD 4 0)) &&& ((Sha.turned Sj F r).getD 6 0)))) + (Sha.words.getD (r) 0)) + ((F).getD (r) 0)) + ((((Sha.rotr ((Sha.turned Sj F r).getD 0 0) 2) ^^^ (Sha.rotr ((Sha.turned Sj F r).getD 0 0) 13)) ^^^ (Sha.rotr ((Sha.turned Sj F r).getD 0 0) 22)) + (((((Sha.turned Sj F r).getD 0 0) &&& ((Sha.turned Sj F r).getD 1 0)) ^^^ (((Sha.turned Sj F r).getD 0 0) &&& ((Sha.turned Sj F r).getD 2 0))) ^^^ (((Sha.turned Sj F r).getD 1 0) &&& ((Sha.turned Sj F r).getD 2 0)))))), (11, U ((Sha.turned Sj F r).getD 0 0)), (12, U ((Sha.turned Sj F r).getD 1 0)), (13, U ((Sha.turned Sj F r).getD 2 0)), (14, U (((Sha.turned Sj F r).getD 3 0) + ((((((Sha.turned Sj F r).getD 7 0) + (((Sha.rotr ((Sha.turned Sj F r).getD 4 0) 6) ^^^ (Sha.rotr ((Sha.turned Sj F r).getD 4 0) 11)) ^^^ (Sha.rotr ((Sha.turned Sj F r).getD 4 0) 25))) + ((((Sha.turned Sj F r).getD 4 0) &&& ((Sha.turned Sj F r).getD 5 0)) ^^^ ((~~~((Sha.turned Sj F r).getD 4 0)) &&& ((Sha.turned Sj F r).getD 6 0)))) + (Sha.words.getD (r) 0)) + ((F).getD (r) 0)))), (15, U ((Sha.turned Sj F r).getD 4 0)), (16, U ((Sha.turned Sj F r).getD 5 0)), (17, U ((Sha.turned Sj F r).getD 6 0)), (18, NI ((r) + (1))), (19, U ((((((Sha.turned Sj F r).getD 7 0) + (((Sha.rotr ((Sha.turned Sj F r).getD 4 0) 6) ^^^ (Sha.rotr ((Sha.turned Sj F r).getD 4 0) 11)) ^^^ (Sha.rotr ((Sha.turned Sj F r).getD 4 0) 25))) + ((((Sha.turned Sj F r).getD 4 0) &&& ((Sha.turned Sj F r).getD 5 0)) ^^^ ((~~~((Sha.turned Sj F r).getD 4 0)) &&& ((Sha.turned Sj F r).getD 6 0)))) + (Sha.words.getD (r) 0)) + ((F).getD (r) 0))), (20, U ((((Sha.rotr ((Sha.turned Sj F r).getD 0 0) 2) ^^^ (Sha.rotr ((Sha.turned Sj F r).getD 0 0) 13)) ^^^ (Sha.rotr ((Sha.turned Sj F r).getD 0 0) 22)) + (((((Sha.turned Sj F r).getD 0 0) &&& ((Sha.turned Sj F r).getD 1 0)) ^^^ (((Sha.turned Sj F r).getD 0 0) &&& ((Sha.turned Sj F r).getD 2 0))) ^^^ (((Sha.turned Sj F r).getD 1 0) &&& ((Sha.turned Sj F r).getD 2 0)))))] ⟨T0, T2, T3, T4, T5, T6, T7, T10, T11, T12, T13, T14, T15, T16, T17, rfl, T19, T20, trivial⟩ fun ρ132 ⟨T0, T2, T3, T4, T5, T6, T7, T10, T11, T12, T13, T14, T15, T16, T17, T18, T19, T20, _⟩ => ?_))))))))))))))
   refine tN (And.intro ⟨r + 1, T0, T2, T3, T4, T5, T6, T7, T18, T10.trans (congrArg (fun z => U z) (UInt32.add_assoc _ _ _).symm), T11, T12, T13, T14, T15, T16, T17, hE, hb8, hA17, ho39, hb21l, hA56, hb64l, by omega, trivial⟩ ?_)
   show 64 - (intOf (ρ132 18)).toNat < 64 - (intOf (ρ114 18)).toNat
   rw [T18, q18]
   simp only [intOf, Int.toNat_natCast]; omega
  obtain ⟨T, hT⟩ : ∃ T, T = Sha.turned Sj F 64 := ⟨_, rfl⟩
  have hTl : T.length = 8 := by rw [hT, Sha.turned_length _ _ hSl]
  have hr64e : r = 64 := by omega
  rw [hr64e, ← hT] at T10 T11 T12 T13 T14 T15 T16 T17
  refine wpF_exit (thenF_exit (thenF_exit (inBlockF_hit (tN (hK111 _ _ (sk fun K133 hK133 => (wt (oS rfl (Yk.atArr0 (i := 0) sha9_ty94 sha9_sz93 T3 (vr (NI 0) rfl) (by omega) (oS rfl (Yk.cell1 sha9_ty93 rfl (vr (PQ n11 0) rfl) (cellAt hb21l (word_at (i := 0) (by rw [hSl]; omega))) (oM rfl (oS rfl (Yk.bin (vr (U ((Sj).getD (0) 0)) rfl) T10 rfl (u_add _ _ _) (oS rfl (Yk.atArr0 (i := 0) sha9_ty94 sha9_sz93 T3 (vr (NI 0) rfl) (by omega) (oS rfl (Yk.storeU32 (i := 0) (v := ((Sj).getD (0) 0) + (T.getD 0 0)) (vr (PQ n11 0) rfl) (vr (U (((Sj).getD (0) 0) + (T.getD 0 0))) rfl) hb21l (by rw [hSl]; omega) sha9_isz93 fun w134 hb135 hg136 hs137 => ?_))))))))))))))))))
  have hE := row_fresh hE hg136 (Nat.le_trans hz19 (by omega))
  have hb8 := kb hg136 hb8 (by omega)
  have hA17 := row_fresh hA17 hg136 (Nat.le_trans (Nat.le_refl _) (by omega))
  have ho39 := own_kept ho39 hg136 hap38
  clear hA56
  have hb64l := kb hg136 hb64l (by omega)
  clear hb21l
  have hb21l := hb135; clear hb135
  have hl138 := bl hb21l
  refine oZ ?_
  have hb21l : w134.heap[n11]? = some (.cells ((Sha.adding Sj T 1).map fun x => U x).toArray 94 (0, 0)) := blk_eq hb21l (rfl)
  refine tN (hK133 _ _ (sk fun K139 hK139 => (wt (oS rfl (Yk.atArr0 (i := 1) sha9_ty94 sha9_sz93 T3 (vr (NI 1) rfl) (by omega) (oS rfl (Yk.cell1 sha9_ty93 rfl (vr (PQ n11 1) rfl) (cellAt hb21l (word_at (i := 1) (by rw [Sha.adding_length, hSl]; omega))) (oM rfl (oS rfl (Yk.bin (vr (U ((Sha.adding Sj T 1).getD (1) 0)) rfl) T11 rfl (u_add _ _ _) (oS rfl (Yk.atArr0 (i := 1) sha9_ty94 sha9_sz93 T3 (vr (NI 1) rfl) (by omega) (oS rfl (Yk.storeU32 (i := 1) (v := ((Sha.adding Sj T 1).getD (1) 0) + (T.getD 1 0)) (vr (PQ n11 1) rfl) (vr (U (((Sha.adding Sj T 1).getD (1) 0) + (T.getD 1 0))) rfl) hb21l (by rw [Sha.adding_length, hSl]; omega) sha9_isz93 fun w140 hb141 hg142 hs143 => ?_))))))))))))))
  have hE := row_fresh hE hg142 (Nat.le_trans hz19 (by omega))
  have hb8 := kb hg142 hb8 (by omega)
  have hA17 := row_fresh hA17 hg142 (Nat.le_trans (Nat.le_refl _) (by omega))
  have ho39 := own_kept ho39 hg142 hap38
  have hb64l := kb hg142 hb64l (by omega)
  clear hb21l
  have hb21l := hb141; clear hb141
  have hl144 := bl hb21l
  refine oZ ?_
  have hb21l : w140.heap[n11]? = some (.cells ((Sha.adding Sj T 2).map fun x => U x).toArray 94 (0, 0)) := blk_eq hb21l (rfl)
  refine tN (hK139 _ _ (sk fun K145 hK145 => (wt (oS rfl (Yk.atArr0 (i := 2) sha9_ty94 sha9_sz93 T3 (vr (NI 2) rfl) (by omega) (oS rfl (Yk.cell1 sha9_ty93 rfl (vr (PQ n11 2) rfl) (cellAt hb21l (word_at (i := 2) (by rw [Sha.adding_length, hSl]; omega))) (oM rfl (oS rfl (Yk.bin (vr (U ((Sha.adding Sj T 2).getD (2) 0)) rfl) T12 rfl (u_add _ _ _) (oS rfl (Yk.atArr0 (i := 2) sha9_ty94 sha9_sz93 T3 (vr (NI 2) rfl) (by omega) (oS rfl (Yk.storeU32 (i := 2) (v := ((Sha.adding Sj T 2).getD (2) 0) + (T.getD 2 0)) (vr (PQ n11 2) rfl) (vr (U (((Sha.adding Sj T 2).getD (2) 0) + (T.getD 2 0))) rfl) hb21l (by rw [Sha.adding_length, hSl]; omega) sha9_isz93 fun w146 hb147 hg148 hs149 => ?_))))))))))))))
  have hE := row_fresh hE hg148 (Nat.le_trans hz19 (by omega))
  have hb8 := kb hg148 hb8 (by omega)
  have hA17 := row_fresh hA17 hg148 (Nat.le_trans (Nat.le_refl _) (by omega))
  have ho39 := own_kept ho39 hg148 hap38
  have hb64l := kb hg148 hb64l (by omega)
  clear hb21l
  have hb21l := hb147; clear hb147
  have hl150 := bl hb21l
  refine oZ ?_
  have hb21l : w146.heap[n11]? = some (.cells ((Sha.adding Sj T 3).map fun x => U x).toArray 94 (0, 0)) := blk_eq hb21l (rfl)
  refine tN (hK145 _ _ (sk fun K151 hK151 => (wt (oS rfl (Yk.atArr0 (i := 3) sha9_ty94 sha9_sz93 T3 (vr (NI 3) rfl) (by omega) (oS rfl (Yk.cell1 sha9_ty93 rfl (vr (PQ n11 3) rfl) (cellAt hb21l (word_at (i := 3) (by rw [Sha.adding_length, hSl]; omega))) (oM rfl (oS rfl (Yk.bin (vr (U ((Sha.adding Sj T 3).getD (3) 0)) rfl) T13 rfl (u_add _ _ _) (oS rfl (Yk.atArr0 (i := 3) sha9_ty94 sha9_sz93 T3 (vr (NI 3) rfl) (by omega) (oS rfl (Yk.storeU32 (i := 3) (v := ((Sha.adding Sj T 3).getD (3) 0) + (T.getD 3 0)) (vr (PQ n11 3) rfl) (vr (U (((Sha.adding Sj T 3).getD (3) 0) + (T.getD 3 0))) rfl) hb21l (by rw [Sha.adding_length, hSl]; omega) sha9_isz93 fun w152 hb153 hg154 hs155 => ?_))))))))))))))
  have hE := row_fresh hE hg154 (Nat.le_trans hz19 (by omega))
  have hb8 := kb hg154 hb8 (by omega)
  have hA17 := row_fresh hA17 hg154 (Nat.le_trans (Nat.le_refl _) (by omega))
  have ho39 := own_kept ho39 hg154 hap38
  have hb64l := kb hg154 hb64l (by omega)
  clear hb21l
  have hb21l := hb153; clear hb153
  have hl156 := bl hb21l
  refine oZ ?_
  have hb21l : w152.heap[n11]? = some (.cells ((Sha.adding Sj T 4).map fun x => U x).toArray 94 (0, 0)) := blk_eq hb21l (rfl)
  refine tN (hK151 _ _ (sk fun K157 hK157 => (wt (oS rfl (Yk.atArr0 (i := 4) sha9_ty94 sha9_sz93 T3 (vr (NI 4) rfl) (by omega) (oS rfl (Yk.cell1 sha9_ty93 rfl (vr (PQ n11 4) rfl) (cellAt hb21l (word_at (i := 4) (by rw [Sha.adding_length, hSl]; omega))) (oM rfl (oS rfl (Yk.bin (vr (U ((Sha.adding Sj T 4).getD (4) 0)) rfl) T14 rfl (u_add _ _ _) (oS rfl (Yk.atArr0 (i := 4) sha9_ty94 sha9_sz93 T3 (vr (NI 4) rfl) (by omega) (oS rfl (Yk.storeU32 (i := 4) (v := ((Sha.adding Sj T 4).getD (4) 0) + (T.getD 4 0)) (vr (PQ n11 4) rfl) (vr (U (((Sha.adding Sj T 4).getD (4) 0) + (T.getD 4 0))) rfl) hb21l (by rw [Sha.adding_length, hSl]; omega) sha9_isz93 fun w158 hb159 hg160 hs161 => ?_))))))))))))))
  have hE := row_fresh hE hg160 (Nat.le_trans hz19 (by omega))
  have hb8 := kb hg160 hb8 (by omega)
  have hA17 := row_fresh hA17 hg160 (Nat.le_trans (Nat.le_refl _) (by omega))
  have ho39 := own_kept ho39 hg160 hap38
  have hb64l := kb hg160 hb64l (by omega)
  clear hb21l
  have hb21l := hb159; clear hb159
  have hl162 := bl hb21l
  refine oZ ?_
  have hb21l : w158.heap[n11]? = some (.cells ((Sha.adding Sj T 5).map fun x => U x).toArray 94 (0, 0)) := blk_eq hb21l (rfl)
  refine tN (hK157 _ _ (sk fun K163 hK163 => (wt (oS rfl (Yk.atArr0 (i := 5) sha9_ty94 sha9_sz93 T3 (vr (NI 5) rfl) (by omega) (oS rfl (Yk.cell1 sha9_ty93 rfl (vr (PQ n11 5) rfl) (cellAt hb21l (word_at (i := 5) (by rw [Sha.adding_length, hSl]; omega))) (oM rfl (oS rfl (Yk.bin (vr (U ((Sha.adding Sj T 5).getD (5) 0)) rfl) T15 rfl (u_add _ _ _) (oS rfl (Yk.atArr0 (i := 5) sha9_ty94 sha9_sz93 T3 (vr (NI 5) rfl) (by omega) (oS rfl (Yk.storeU32 (i := 5) (v := ((Sha.adding Sj T 5).getD (5) 0) + (T.getD 5 0)) (vr (PQ n11 5) rfl) (vr (U (((Sha.adding Sj T 5).getD (5) 0) + (T.getD 5 0))) rfl) hb21l (by rw [Sha.adding_length, hSl]; omega) sha9_isz93 fun w164 hb165 hg166 hs167 => ?_))))))))))))))
  have hE := row_fresh hE hg166 (Nat.le_trans hz19 (by omega))
  have hb8 := kb hg166 hb8 (by omega)
  have hA17 := row_fresh hA17 hg166 (Nat.le_trans (Nat.le_refl _) (by omega))
  have ho39 := own_kept ho39 hg166 hap38
  have hb64l := kb hg166 hb64l (by omega)
  clear hb21l
  have hb21l := hb165; clear hb165
  have hl168 := bl hb21l
  refine oZ ?_
  have hb21l : w164.heap[n11]? = some (.cells ((Sha.adding Sj T 6).map fun x => U x).toArray 94 (0, 0)) := blk_eq hb21l (rfl)
  refine tN (hK163 _ _ (sk fun K169 hK169 => (wt (oS rfl (Yk.atArr0 (i := 6) sha9_ty94 sha9_sz93 T3 (vr (NI 6) rfl) (by omega) (oS rfl (Yk.cell1 sha9_ty93 rfl (vr (PQ n11 6) rfl) (cellAt hb21l (word_at (i := 6) (by rw [Sha.adding_length, hSl]; omega))) (oM rfl (oS rfl (Yk.bin (vr (U ((Sha.adding Sj T 6).getD (6) 0)) rfl) T16 rfl (u_add _ _ _) (oS rfl (Yk.atArr0 (i := 6) sha9_ty94 sha9_sz93 T3 (vr (NI 6) rfl) (by omega) (oS rfl (Yk.storeU32 (i := 6) (v := ((Sha.adding Sj T 6).getD (6) 0) + (T.getD 6 0)) (vr (PQ n11 6) rfl) (vr (U (((Sha.adding Sj T 6).getD (6) 0) + (T.getD 6 0))) rfl) hb21l (by rw [Sha.adding_length, hSl]; omega) sha9_isz93 fun w170 hb171 hg172 hs173 => ?_))))))))))))))
  have hE := row_fresh hE hg172 (Nat.le_trans hz19 (by omega))
  have hb8 := kb hg172 hb8 (by omega)
  have hA17 := row_fresh hA17 hg172 (Nat.le_trans (Nat.le_refl _) (by omega))
  have ho39 := own_kept ho39 hg172 hap38
  have hb64l := kb hg172 hb64l (by omega)
  clear hb21l
  have hb21l := hb171; clear hb171
  have hl174 := bl hb21l
  refine oZ ?_
  have hb21l : w170.heap[n11]? = some (.cells ((Sha.adding Sj T 7).map fun x => U x).toArray 94 (0, 0)) := blk_eq hb21l (rfl)
  refine tN (hK169 _ _ (wt (oS rfl (Yk.atArr0 (i := 7) sha9_ty94 sha9_sz93 T3 (vr (NI 7) rfl) (by omega) (oS rfl (Yk.cell1 sha9_ty93 rfl (vr (PQ n11 7) rfl) (cellAt hb21l (word_at (i := 7) (by rw [Sha.adding_length, hSl]; omega))) (oM rfl (oS rfl (Yk.bin (vr (U ((Sha.adding Sj T 7).getD (7) 0)) rfl) T17 rfl (u_add _ _ _) (oS rfl (Yk.atArr0 (i := 7) sha9_ty94 sha9_sz93 T3 (vr (NI 7) rfl) (by omega) (oS rfl (Yk.storeU32 (i := 7) (v := ((Sha.adding Sj T 7).getD (7) 0) + (T.getD 7 0)) (vr (PQ n11 7) rfl) (vr (U (((Sha.adding Sj T 7).getD (7) 0) + (T.getD 7 0))) rfl) hb21l (by rw [Sha.adding_length, hSl]; omega) sha9_isz93 fun w175 hb176 hg177 hs178 => ?_)))))))))))))
  have hE := row_fresh hE hg177 (Nat.le_trans hz19 (by omega))
  have hb8 := kb hg177 hb8 (by omega)
  have hA17 := row_fresh hA17 hg177 (Nat.le_trans (Nat.le_refl _) (by omega))
  have ho39 := own_kept ho39 hg177 hap38
  have hb64l := kb hg177 hb64l (by omega)
  clear hb21l
  have hb21l := hb176; clear hb176
  have hl179 := bl hb21l
  refine oL_ [(0, v), (2, PQ n2 0), (3, PQ n11 0), (4, v29), (5, NI (64 * j)), (6, PQ n50 0), (7, NI t), (10, U (T.getD 0 0)), (11, U (T.getD 1 0)), (12, U (T.getD 2 0)), (13, U (T.getD 3 0)), (14, U (T.getD 4 0)), (15, U (T.getD 5 0)), (16, U (T.getD 6 0)), (17, U (T.getD 7 0)), (18, NI r)] ⟨T0, T2, T3, T4, T5, T6, T7, T10, T11, T12, T13, T14, T15, T16, T17, T18, trivial⟩ fun ρ180 ⟨T0, T2, T3, T4, T5, T6, T7, T10, T11, T12, T13, T14, T15, T16, T17, T18, _⟩ => ?_
  have hb21l : w175.heap[n11]? = some (.cells ((Sha.adding Sj T 8).map fun x => U x).toArray 94 (0, 0)) := blk_eq hb21l (rfl)
  refine bN (tN (hK48 _ _ (wt (oM rfl (oS rfl (Yk.bin (xv := NI (64 * j)) (yv := NI 64) T5 rfl rfl (i64_add _ _ _ (by omega)) (oA rfl (oL_ [(0, v), (2, PQ n2 0), (3, PQ n11 0), (4, v29), (5, NI ((64 * j) + (64))), (6, PQ n50 0), (7, NI t), (10, U (T.getD 0 0)), (11, U (T.getD 1 0)), (12, U (T.getD 2 0)), (13, U (T.getD 3 0)), (14, U (T.getD 4 0)), (15, U (T.getD 5 0)), (16, U (T.getD 6 0)), (17, U (T.getD 7 0)), (18, NI r)] ⟨T0, T2, T3, T4, rfl, T6, T7, T10, T11, T12, T13, T14, T15, T16, T17, T18, trivial⟩ fun ρ181 ⟨T0, T2, T3, T4, T5, T6, T7, T10, T11, T12, T13, T14, T15, T16, T17, T18, _⟩ => (tN (And.intro ⟨j + 1, T0, T2, T3, T4, T5, hE, hb8, hA17, ho39, blk_eq hb21l (congrArg (List.map fun x => U x) (by rw [Sha.add8 hSl hTl, hT, hF, Sha.blocks_snoc, ← hSj, ← hB]; rfl)), by omega, trivial⟩ ?_))))))))))
  show P.length - (intOf (ρ181 5)).toNat < P.length - (intOf (ρ43 5)).toNat
  rw [T5, q5]
  simp only [intOf, Int.toNat_natCast]; omega
 obtain ⟨Sf, hSe⟩ : ∃ Sf, Sf = Sha.blocks Sha.first P j := ⟨_, rfl⟩
 have hb21l : w44.heap[n11]? = some (.cells (Sf.map fun x => U x).toArray 94 (0, 0)) := blk_eq hb21l (by rw [hSe])
 have hSf : Sf.length = 8 := by rw [hSe, Sha.blocks_length _ _ _ rfl]
 have hjK : j = P.length / 64 := by omega
 refine wpF_exit (thenF_exit (thenF_exit (inBlockF_hit (tN (hK40 _ _ (sk fun K182 hK182 => (wt (oS rfl (Yk.alloc (cs := (Lib.byteCells (List.replicate 32 0)).toArray) sha9_al26 fun n183 w184 hn185 hb186 hx187 hs188 => ?_)))))))))
 have hA189 := Ext.refl w44
 have hea190 := hE
 have hea191 := hA17
 have hz192 := hE.size
 have hz193 := hA17.size
 have hlt194 := lte (bl hb8) hn185
 have hlt195 := lte (bl hb21l) hn185
 have hap196 : OB v29 n183 := own_newer ho39 (by omega)
 have hE := hE.trans hx187
 have hb8 := eb hx187 hb8
 have hA17 := hA17.trans hx187
 have ho39 := Stab.own _ _ _ _ _ _ _ _ ho39 hx187
 have hb21l := eb hx187 hb21l
 have hA189 := hA189.trans hx187
 have hb197 := hb186; clear hb186
 have hl198 : n183 < w184.heap.size := by omega
 refine oZ (tN (hK182 _ _ (sk fun K199 hK199 => (sk fun K200 hK200 => (wt (oA rfl (oL_ [(0, v), (2, PQ n2 0), (3, PQ n11 0), (4, v29), (5, NI (64 * j)), (21, PQ n183 0), (22, NI 0)] ⟨T0, T2, T3, T4, T5, rfl, rfl, trivial⟩ fun ρ201 ⟨T0, T2, T3, T4, T5, T21, T22, _⟩ => (tN (hK200 _ _ (wpF_block (wpF_loop (fun (ρ : Slots) (wz : World) => ∃ q : Nat, ρ 0 = (v : Value) ∧ ρ 2 = (PQ n2 0 : Value) ∧ ρ 3 = (PQ n11 0 : Value) ∧ ρ 4 = (v29 : Value) ∧ ρ 5 = (NI (64 * j) : Value) ∧ ρ 21 = (PQ n183 0 : Value) ∧ ρ 22 = (NI q : Value) ∧ Ext w wz ∧ wz.heap[n2]? = some (.cells (Lib.byteCells (List.replicate 32 0)).toArray 26 (0, 0)) ∧ Ext w3 wz ∧ wz.ownsRow w23.heap.size 5 1 v29 (P : List UInt8).length (Lib.byteCells (P)) ∧ wz.heap[n11]? = some (.cells (Sf.map fun x => U x).toArray 94 (0, 0)) ∧ Ext w44 wz ∧ wz.heap[n183]? = some (.cells (Lib.byteCells (Sha.outs Sf q)).toArray 26 (0, 0)) ∧ (q ≤ 8) ∧ True) (fun ρ _ => 8 - (intOf (ρ 22)).toNat) ⟨0, T0, T2, T3, T4, T5, T21, T22, hE, hb8, hA17, ho39, hb21l, hA189, blk_eq hb197 (rfl), Nat.zero_le _, trivial⟩ ?_)))))))))))
 clear hb197
 clear hE hb8 hA17 ho39 hb21l hA189
 rintro ρ202 w203 ⟨q, T0, T2, T3, T4, T5, T21, T22, hE, hb8, hA17, ho39, hb21l, hA189, hb197l, hq, -⟩
 have q22 := T22
 refine sk fun K204 hK204 => (sk fun K205 hK205 => (wt (oM rfl (oS rfl (Yk.eqI (a := (q : Nat)) (b := (8 : Nat)) T22 rfl (k_lss _ _ _ _) (oZ (tN (hK205 _ _ ?_))))))))
 refine wpF_cond ((q) < (8)) (vr (.bool (decide ((q) < (8)))) rfl) (fun hc4 => ?_) (fun hc4 => ?_)
 ·refine wpF_skip (tN (hK204 _ _ (sk fun K206 hK206 => (wpF_block (sk fun K207 hK207 => (wt (oM rfl (oS rfl (Yk.bin (xv := NI 4) (yv := NI q) rfl T22 rfl (i64_mul _ _ _ (by omega)) (oM rfl (oS rfl (Yk.atArr0 (i := q) sha9_ty94 sha9_sz93 T3 T22 (by omega) (oS rfl (Yk.cell1 sha9_ty93 rfl (vr (PQ n11 q) rfl) (cellAt hb21l (word_at (i := q) (by rw [hSf]; omega))) (oS rfl (Yk.bin (vr (U ((Sf).getD (q) 0)) rfl) (vr (.int .u64 ((24 : Nat) : Int)) rfl) rfl (u_shr _ _ _ 24 (by decide)) (oS rfl (Yk.narrow sha9_ty93 sha9_ty5 (vr (U (((Sf).getD (q) 0) >>> 24)) rfl) (oS rfl (Yk.atArr0 (i := (4) * (q)) sha9_ty26 sha9_sz5 T21 (vr (NI ((4) * (q))) rfl) (by omega) (oS rfl (Yk.storeB8 (i := (4) * (q)) (v := (((Sf).getD (q) 0) >>> 24).toUInt8) (vr (.pointer (some ⟨n183, (4) * (q), none⟩)) rfl) (vr (B8 ((((Sf).getD (q) 0) >>> 24).toUInt8)) rfl) hb197l (by rw [Sha.outs_length _ hSf _ (by omega)]; omega) sha9_isz5 fun w208 hb209 hg210 hs211 => ?_))))))))))))))))))))))
  have hE := row_fresh hE hg210 (Nat.le_trans hz192 (by omega))
  have hb8 := kb hg210 hb8 (by omega)
  have hA17 := row_fresh hA17 hg210 (Nat.le_trans hz193 (by omega))
  have ho39 := own_kept ho39 hg210 hap196
  have hb21l := kb hg210 hb21l (by omega)
  have hA189 := row_fresh hA189 hg210 (Nat.le_trans (Nat.le_refl _) (by omega))
  clear hb197l
  have hb197l := hb209; clear hb209
  have hl212 := bl hb197l
  refine oZ (tN (hK207 _ _ (sk fun K213 hK213 => (wt (oM rfl (oS rfl (Yk.bin (xv := NI 4) (yv := NI q) rfl T22 rfl (i64_mul _ _ _ (by omega)) (oS rfl (Yk.bin (xv := NI ((4) * (q))) (yv := NI 1) rfl rfl rfl (i64_add _ _ _ (by omega)) (oM rfl (oS rfl (Yk.atArr0 (i := q) sha9_ty94 sha9_sz93 T3 T22 (by omega) (oS rfl (Yk.cell1 sha9_ty93 rfl (vr (PQ n11 q) rfl) (cellAt hb21l (word_at (i := q) (by rw [hSf]; omega))) (oS rfl (Yk.bin (vr (U ((Sf).getD (q) 0)) rfl) (vr (.int .u64 ((16 : Nat) : Int)) rfl) rfl (u_shr _ _ _ 16 (by decide)) (oS rfl (Yk.narrow sha9_ty93 sha9_ty5 (vr (U (((Sf).getD (q) 0) >>> 16)) rfl) (oS rfl (Yk.atArr0 (i := ((4) * (q)) + (1)) sha9_ty26 sha9_sz5 T21 (vr (NI (((4) * (q)) + (1))) rfl) (by omega) (oS rfl (Yk.storeB8 (i := ((4) * (q)) + (1)) (v := (((Sf).getD (q) 0) >>> 16).toUInt8) (vr (.pointer (some ⟨n183, ((4) * (q)) + (1), none⟩)) rfl) (vr (B8 ((((Sf).getD (q) 0) >>> 16).toUInt8)) rfl) hb197l (by rw [List.length_set, Sha.outs_length _ hSf _ (by omega)]; omega) sha9_isz5 fun w214 hb215 hg216 hs217 => ?_))))))))))))))))))))))
  have hE := row_fresh hE hg216 (Nat.le_trans hz192 (by omega))
  have hb8 := kb hg216 hb8 (by omega)
  have hA17 := row_fresh hA17 hg216 (Nat.le_trans hz193 (by omega))
  have ho39 := own_kept ho39 hg216 hap196
  have hb21l := kb hg216 hb21l (by omega)
  have hA189 := row_fresh hA189 hg216 (Nat.le_trans (Nat.le_refl _) (by omega))
  clear hb197l
  have hb197l := hb215; clear hb215
  have hl218 := bl hb197l
  refine oZ (tN (hK213 _ _ (sk fun K219 hK219 => (wt (oM rfl (oS rfl (Yk.bin (xv := NI 4) (yv := NI q) rfl T22 rfl (i64_mul _ _ _ (by omega)) (oS rfl (Yk.bin (xv := NI ((4) * (q))) (yv := NI 2) rfl rfl rfl (i64_add _ _ _ (by omega)) (oM rfl (oS rfl (Yk.atArr0 (i := q) sha9_ty94 sha9_sz93 T3 T22 (by omega) (oS rfl (Yk.cell1 sha9_ty93 rfl (vr (PQ n11 q) rfl) (cellAt hb21l (word_at (i := q) (by rw [hSf]; omega))) (oS rfl (Yk.bin (vr (U ((Sf).getD (q) 0)) rfl) (vr (.int .u64 ((8 : Nat) : Int)) rfl) rfl (u_shr _ _ _ 8 (by decide)) (oS rfl (Yk.narrow sha9_ty93 sha9_ty5 (vr (U (((Sf).getD (q) 0) >>> 8)) rfl) (oS rfl (Yk.atArr0 (i := ((4) * (q)) + (2)) sha9_ty26 sha9_sz5 T21 (vr (NI (((4) * (q)) + (2))) rfl) (by omega) (oS rfl (Yk.storeB8 (i := ((4) * (q)) + (2)) (v := (((Sf).getD (q) 0) >>> 8).toUInt8) (vr (.pointer (some ⟨n183, ((4) * (q)) + (2), none⟩)) rfl) (vr (B8 ((((Sf).getD (q) 0) >>> 8).toUInt8)) rfl) hb197l (by rw [List.length_set, List.length_set, Sha.outs_length _ hSf _ (by omega)]; omega) sha9_isz5 fun w220 hb221 hg222 hs223 => ?_))))))))))))))))))))))
  have hE := row_fresh hE hg222 (Nat.le_trans hz192 (by omega))
  have hb8 := kb hg222 hb8 (by omega)
  have hA17 := row_fresh hA17 hg222 (Nat.le_trans hz193 (by omega))
  have ho39 := own_kept ho39 hg222 hap196
  have hb21l := kb hg222 hb21l (by omega)
  have hA189 := row_fresh hA189 hg222 (Nat.le_trans (Nat.le_refl _) (by omega))
  clear hb197l
  have hb197l := hb221; clear hb221
  have hl224 := bl hb197l
  refine oZ (tN (hK219 _ _ (wt (oM rfl (oS rfl (Yk.bin (xv := NI 4) (yv := NI q) rfl T22 rfl (i64_mul _ _ _ (by omega)) (oS rfl (Yk.bin (xv := NI ((4) * (q))) (yv := NI 3) rfl rfl rfl (i64_add _ _ _ (by omega)) (oM rfl (oS rfl (Yk.atArr0 (i := q) sha9_ty94 sha9_sz93 T3 T22 (by omega) (oS rfl (Yk.cell1 sha9_ty93 rfl (vr (PQ n11 q) rfl) (cellAt hb21l (word_at (i := q) (by rw [hSf]; omega))) (oS rfl (Yk.narrow sha9_ty93 sha9_ty5 (vr (U ((Sf).getD (q) 0)) rfl) (oS rfl (Yk.atArr0 (i := ((4) * (q)) + (3)) sha9_ty26 sha9_sz5 T21 (vr (NI (((4) * (q)) + (3))) rfl) (by omega) (oS rfl (Yk.storeB8 (i := ((4) * (q)) + (3)) (v := ((Sf).getD (q) 0).toUInt8) (vr (.pointer (some ⟨n183, ((4) * (q)) + (3), none⟩)) rfl) (vr (B8 (((Sf).getD (q) 0).toUInt8)) rfl) hb197l (by rw [List.length_set, List.length_set, List.length_set, Sha.outs_length _ hSf _ (by omega)]; omega) sha9_isz5 fun w225 hb226 hg227 hs228 => ?_)))))))))))))))))))
  have hE := row_fresh hE hg227 (Nat.le_trans hz192 (by omega))
  have hb8 := kb hg227 hb8 (by omega)
  have hA17 := row_fresh hA17 hg227 (Nat.le_trans hz193 (by omega))
  have ho39 := own_kept ho39 hg227 hap196
  have hb21l := kb hg227 hb21l (by omega)
  have hA189 := row_fresh hA189 hg227 (Nat.le_trans (Nat.le_refl _) (by omega))
  clear hb197l
  have hb197l := hb226; clear hb226
  have hl229 := bl hb197l
  refine oZ (bN (tN (hK206 _ _ (wt (oM rfl (oS rfl (Yk.bin (xv := NI q) (yv := NI 1) T22 rfl rfl (i64_add _ _ _ (by omega)) (oA rfl (oL_ [(0, v), (2, PQ n2 0), (3, PQ n11 0), (4, v29), (5, NI (64 * j)), (21, PQ n183 0), (22, NI ((q) + (1)))] ⟨T0, T2, T3, T4, T5, T21, rfl, trivial⟩ fun ρ230 ⟨T0, T2, T3, T4, T5, T21, T22, _⟩ => (tN (And.intro ⟨q + 1, T0, T2, T3, T4, T5, T21, T22, hE, hb8, hA17, ho39, hb21l, hA189, blk_eq hb197l (congrArg Lib.byteCells (Sha.outs_step Sf hSf q hc4)), by omega, trivial⟩ ?_)))))))))))
  show 8 - (intOf (ρ230 22)).toNat < 8 - (intOf (ρ202 22)).toNat
  rw [T22, q22]
  simp only [intOf, Int.toNat_natCast]; omega
 refine wpF_exit (thenF_exit (thenF_exit (inBlockF_hit (tN (hK199 _ _ (sk fun K231 hK231 => (wt (oS rfl (Yk.loadAll T21 hb197l sha9_ty26 rfl (by rw [List.size_toArray, Lib.byteCells_length, Sha.outs_length _ hSf _ (by omega)]; exact sha9_isz26) (oS rfl (Yk.storeAll T2 (vr (AB (Sha.outs Sf q)) rfl) hb8 (by rw [List.size_toArray, Lib.byteCells_length, Sha.outs_length _ hSf _ (by omega)]; rfl) (by rw [List.size_toArray, Lib.byteCells_length, Sha.outs_length _ hSf _ (by omega)]; exact sha9_isz26) (byteCells_one _) fun w232 hb233 hg234 hs235 => ?_)))))))))))
 have hE := row_fresh hE hg234 (Nat.le_trans (Nat.le_refl _) (by omega))
 clear hA17
 have ho39 := own_kept ho39 hg234 hap37
 have hb21l := kb hg234 hb21l (by omega)
 clear hA189
 have hb197l := kb hg234 hb197l (by omega)
 clear hb8
 have hb8 := hb233; clear hb233
 have hl236 := bl hb8
 refine oZ (tN (hK231 _ _ (wpF_ret (postF_ret (fn := Tryd.f34) _ rfl [AB (Sha.outs Sf q)] (AB (Sha.outs Sf q)) rfl ⟨ResF.row T2 hb8 sha9_ty26 rfl (by rw [List.size_toArray, Lib.byteCells_length, Sha.outs_length _ hSf _ (by omega)]; exact sha9_isz26), trivial⟩ ?_))))
 refine ⟨?_, hE⟩
 have e : Sha.outs Sf q = Sha.sum l := by rw [show q = 8 by omega, Sha.outs_all Sf hSf, hSe, hjK, hP]; rfl
 rw [e]
end Go.Proofs.YtejpjjhkjdpeaaaDoor
