/- Walks over frames that are functions on slots: laws for each form of code, each operation shown alone. They hold of any program. -/
import Derived.Test.YtfjmbcjcgdfkfaaSteps
import Derived.Scope
import Derived.Laws.Rows
namespace Go.Proofs.Ytfjmbcjcgdfkfaa
open Go.RowKit

/-- A frame's slots. -/
abbrev Slots := Tmp → Value
def upd (ρ : Slots) (d : Tmp) (v : Value) : Slots := fun t => cond (Nat.beq t d) v (ρ t)
def updO (ρ : Slots) (d : Option Tmp) (v : Value) : Slots := match d with
  | none => ρ
  | some d => upd ρ d v
structure Fits (n : Nat) (ρ : Slots) (a : Act) : Prop where
  size : a.tmps.size = n
  defers : a.defers = []
  get : ∀ t, a.tmps.getD t undef = ρ t
theorem Fits.eval {n : Nat} {ρ : Slots} {a : Act} (h : Fits n ρ a) : a.eval = evalR ρ := by
  funext x
  cases x with
  | tmp t => exact h.get t
  | _ => rfl
theorem Fits.put {n : Nat} {ρ : Slots} {a : Act} (h : Fits n ρ a) (d : Option Tmp) (hd : ∀ t, d = some t → t < n) (v : Value) : Fits n (updO ρ d v) (a.put d v) := by
  cases d with
  | none => exact h
  | some d =>
    have hdn := hd d rfl
    refine ⟨by simp [Act.put, h.size], h.defers, fun t => ?_⟩
    have hg := h.get t
    simp only [updO, upd, Act.put, Array.getD_eq_getD_getElem?, Array.getElem?_setIfInBounds, h.size] at hg ⊢
    by_cases htd : t = d
    · subst htd
      simp [hdn]
    · have hb : Nat.beq t d = false := by
        cases hb : Nat.beq t d with
        | false => rfl
        | true => exact absurd (Nat.eq_of_beq_eq_true hb) htd
      rw [hb, if_neg (fun e => htd e.symm)]
      exact hg

theorem getD_bool {T : Array Value} {d : Nat} {b : Bool} (h : T.getD d undef = .bool b) : T[d]? = some (.bool b) := by
  rw [Array.getD_eq_getD_getElem?] at h
  cases hx : T[d]? with
  | none => rw [hx] at h; cases h
  | some x => rw [hx] at h; simp at h; rw [h]
abbrev PostF := Exit → Slots → World → Prop
def wpF (P : Program) (n : Nat) (c : Code) (Q : PostF) (ρ : Slots) (w : World) : Prop :=
  ∀ a, Fits n ρ a → c.wp P (fun e a' w' => ∃ ρ', Fits n ρ' a' ∧ Q e ρ' w') a w
def thenF (K : Slots → World → Prop) (Q : PostF) : PostF
  | .normal, ρ, w => K ρ w
  | e, ρ, w => Q e ρ w
def inBlockF (id : Nat) (Q : PostF) : PostF
  | .exit id', ρ, w => if id' = id then Q .normal ρ w else Q (.exit id') ρ w
  | e, ρ, w => Q e ρ w
def noGotoF (Q : PostF) : PostF
  | .goto _, _, _ => False
  | e, ρ, w => Q e ρ w
section
variable {P : Program} {n : Nat} {Q : PostF} {ρ : Slots} {w : World}
theorem wpF_mono {c : Code} {Q' : PostF} (h : wpF P n c Q ρ w) (hq : ∀ e ρ w, Q e ρ w → Q' e ρ w) : wpF P n c Q' ρ w :=
  fun a ha => wp_mono (h a ha) fun e _ w ⟨ρ', hf, hQ⟩ => ⟨ρ', hf, hq e ρ' w hQ⟩
theorem wpF_skip (h : Q .normal ρ w) : wpF P n .skip Q ρ w := fun _ ha => wp_skip ⟨ρ, ha, h⟩
theorem wpF_exit {id : Nat} (h : Q (.exit id) ρ w) : wpF P n (.exit id) Q ρ w := fun _ ha => wp_exit ⟨ρ, ha, h⟩
theorem wpF_ret (h : Q .ret ρ w) : wpF P n .ret Q ρ w := fun _ ha => wp_ret ⟨ρ, ha, h⟩
theorem wpF_seq {x y : Code} (h : wpF P n x (thenF (wpF P n y Q) Q) ρ w) : wpF P n (.seq x y) Q ρ w := fun a ha =>
  wp_seq (wp_mono (h a ha) fun e a' w' ⟨ρ', hf, hQ⟩ => by
    cases e with
    | normal => exact hQ a' hf
    | _ => exact ⟨ρ', hf, hQ⟩)
/-- What comes behind stays under a name. -/
theorem wpF_seq_k {x y : Code} (h : ∀ K : Slots → World → Prop, (∀ ρ w, wpF P n y Q ρ w → K ρ w) → wpF P n x (thenF K Q) ρ w) : wpF P n (.seq x y) Q ρ w := wpF_seq (h _ fun _ _ h => h)
theorem wpF_true {c : Operand} {x y : Code} (hc : evalR ρ c = .bool true) (h : wpF P n x Q ρ w) : wpF P n (.cond c x y) Q ρ w := fun a ha => wp_cond_true (by rw [ha.eval]; exact hc) (h a ha)
theorem wpF_false {c : Operand} {x y : Code} (hc : evalR ρ c = .bool false) (h : wpF P n y Q ρ w) : wpF P n (.cond c x y) Q ρ w := fun a ha => wp_cond_false (by rw [ha.eval]; exact hc) (h a ha)
theorem wpF_cond {c : Operand} {x y : Code} (p : Prop) [Decidable p] (hc : evalR ρ c = .bool (decide p)) (h1 : p → wpF P n x Q ρ w) (h2 : ¬ p → wpF P n y Q ρ w) : wpF P n (.cond c x y) Q ρ w := by
  by_cases hp : p
  · exact wpF_true (by rw [hc, decide_eq_true hp]) (h1 hp)
  · exact wpF_false (by rw [hc, decide_eq_false hp]) (h2 hp)
theorem wpF_condB {c : Operand} {x y : Code} (b : Bool) (hc : evalR ρ c = .bool b) (h1 : b = true → wpF P n x Q ρ w) (h2 : b = false → wpF P n y Q ρ w) : wpF P n (.cond c x y) Q ρ w := by
  cases b
  · exact wpF_false hc (h2 rfl)
  · exact wpF_true hc (h1 rfl)
theorem wpF_block {id : Nat} {c : Code} (h : wpF P n c (inBlockF id Q) ρ w) : wpF P n (.block id c) Q ρ w := fun a ha =>
  wp_block (wp_mono (h a ha) fun e a' w' ⟨ρ', hf, hQ⟩ => by
    cases e with
    | exit id' =>
      simp only [inBlockF] at hQ
      simp only [Exit.inBlock]
      split at hQ
      · rw [if_pos ‹_›]; exact ⟨ρ', hf, hQ⟩
      · rw [if_neg ‹_›]; exact ⟨ρ', hf, hQ⟩
    | _ => exact ⟨ρ', hf, hQ⟩)
theorem wpF_scope {c : Code} (h : wpF P n c (noGotoF Q) ρ w) : wpF P n (.scope c) Q ρ w := fun a ha =>
  wp_scope_straight (wp_mono (h a ha) fun e a' w' ⟨ρ', hf, hQ⟩ => by
    cases e with
    | goto l => exact hQ
    | _ => exact ⟨ρ', hf, hQ⟩)
theorem wpF_loop {c : Code} (I : Slots → World → Prop) (μ : Slots → World → Nat) (h0 : I ρ w)
    (round : ∀ ρ w, I ρ w → wpF P n c (thenF (fun ρ' w' => I ρ' w' ∧ μ ρ' w' < μ ρ w) Q) ρ w) : wpF P n (.loop c) Q ρ w := by
  intro a ha
  refine wp_loop (fun a w => ∃ ρ, Fits n ρ a ∧ I ρ w) (fun a w => μ (fun t => a.tmps.getD t undef) w) ⟨ρ, ha, h0⟩ ?_
  rintro a w ⟨ρ, hf, hI⟩
  have he : (fun t => a.tmps.getD t undef) = ρ := funext hf.get
  refine wp_mono (round ρ w hI a hf) fun e a' w' ⟨ρ', hf', hQ⟩ => ?_
  cases e with
  | normal => exact ⟨⟨ρ', hf', hQ.1⟩, by rw [he, show (fun t => a'.tmps.getD t undef) = ρ' from funext hf'.get]; exact hQ.2⟩
  | _ => exact ⟨ρ', hf', hQ⟩

/-! ### A region in the order of the text, operation by operation -/
def opsF (P : Program) (ops : Array Oper) (n : Nat) (Q : PostF) (l : List Oper) (ρ : Slots) (w : World) : Prop :=
  ∀ a, Fits n ρ a → wpList P ops (fun e a' w' => ∃ ρ', Fits n ρ' a' ∧ Q e ρ' w') l a w
def roomB (l : List Oper) (n : Nat) : Bool := l.all fun o => match o.dst with | some d => Nat.blt d n | none => true
theorem wpF_text {id : Nat} {l : List Oper} (h : opsF P l.toArray n Q l ρ w) : wpF P n (.region id l.toArray false) Q ρ w := fun a ha => wp_region_lit (h a ha)
theorem opsF_nil {ops : Array Oper} (h : Q .normal ρ w) : opsF P ops n Q [] ρ w := fun _ ha => ⟨ρ, ha, h⟩
theorem opsF_step {ops : Array Oper} {rest : List Oper} {dst : Option Tmp} {op : Op} {ty : TypeId} {pos : String} {af : Array Edge} (hd : (match dst with | some d => Nat.blt d n | none => true) = true)
    (h : YieldsK P (fun v w' => opsF P ops n Q rest (updO ρ dst v) w') ((execOp (evalR ρ) ⟨dst, op, ty, pos, af, none⟩).run P w)) : opsF P ops n Q (⟨dst, op, ty, pos, af, none⟩ :: rest) ρ w := by
  intro a ha
  have hdn : ∀ t, dst = some t → t < n := fun t ht => by subst ht; exact Nat.le_of_ble_eq_true hd
  refine wpList_plain rfl fun K hK => ?_
  unfold Oper.wp Oper.upon
  rw [ha.eval]
  have hput := fun v => ha.put dst hdn v
  revert h
  generalize (execOp (evalR ρ) ⟨dst, op, ty, pos, af, none⟩).run P w = r
  intro h
  match r, h with
  | .ok (.value v) w', h => exact hK _ _ (h _ (hput v))
  | .ok .skip w', h => exact hK _ _ (h _ (hput undef))
  | .ok (.enter f args) w', h =>
    refine Calls.mono h ?_
    rintro e w'' ⟨v, rfl, hk⟩
    exact hK _ _ (hk _ (hput v))
/-- .. under a guard that says yes. -/
theorem opsF_on {ops : Array Oper} {rest : List Oper} {dst : Option Tmp} {op : Op} {ty : TypeId} {pos : String} {af : Array Edge} {g : Nat} {want : Bool} {d : Tmp} (hd : (match dst with | some d => Nat.blt d n | none => true) = true) (hg : (ops[g]?).bind (·.dst) = some d) (hv : ρ d = .bool want)
    (h : YieldsK P (fun v w' => opsF P ops n Q rest (updO ρ dst v) w') ((execOp (evalR ρ) ⟨dst, op, ty, pos, af, some (g, want)⟩).run P w)) : opsF P ops n Q (⟨dst, op, ty, pos, af, some (g, want)⟩ :: rest) ρ w := by
  intro a ha
  have hdn : ∀ t, dst = some t → t < n := fun t ht => by subst ht; exact Nat.le_of_ble_eq_true hd
  have hw : Region.wanted ⟨dst, op, ty, pos, af, some (g, want)⟩ (yielded ops a.tmps) = true := by
    have := getD_bool ((ha.get d).trans hv)
    simp only [Region.wanted, yielded, hg]
    simp [this]
  refine wpList_step fun K hK => ?_
  rw [if_pos hw]
  unfold Oper.wp Oper.upon
  rw [ha.eval]
  have hput := fun v => ha.put dst hdn v
  revert h
  generalize (execOp (evalR ρ) ⟨dst, op, ty, pos, af, some (g, want)⟩).run P w = r
  intro h
  match r, h with
  | .ok (.value v) w', h => exact hK _ _ (h _ (hput v))
  | .ok .skip w', h => exact hK _ _ (h _ (hput undef))
  | .ok (.enter f args) w', h =>
    refine Calls.mono h ?_
    rintro e w'' ⟨v, rfl, hk⟩
    exact hK _ _ (hk _ (hput v))
theorem opsF_off {ops : Array Oper} {rest : List Oper} {o : Oper} {g : Nat} {want b : Bool} {d : Tmp} (hgd : o.guard = some (g, want)) (hd : (match o.dst with | some d => Nat.blt d n | none => true) = true) (hg : (ops[g]?).bind (·.dst) = some d) (hv : ρ d = .bool b) (hb : (b == want) = false)
    (h : opsF P ops n Q rest (updO ρ o.dst undef) w) : opsF P ops n Q (o :: rest) ρ w := by
  intro a ha
  have hdn : ∀ t, o.dst = some t → t < n := fun t ht => by rw [ht] at hd; exact Nat.le_of_ble_eq_true hd
  have hw : Region.wanted o (yielded ops a.tmps) = false := by
    have := getD_bool ((ha.get d).trans hv)
    simp only [Region.wanted, hgd, yielded, hg]
    simpa [this] using hb
  refine wpList_step fun K hK => ?_
  rw [if_neg (by rw [hw]; simp)]
  exact hK _ _ (h _ (ha.put o.dst hdn undef))

/-! ### A region that draws its order, by facts -/
def LookF (l : List Oper) (Φ : Nat → Fact) (ρ : Slots) (n : Nat) (t : Tmp) (x : Value) (w : World) : Prop :=
  match writer l t n with
  | none => x = ρ t
  | some k => Φ k x w
def StepF (P : Program) (l : List Oper) (C : Nat → World → Prop) (R : Nat → World → World → Prop) (Φ : Nat → Fact) (ρ : Slots) (n : Nat) (o : Oper) : Prop :=
  ∀ (σ : Slots) (w : World), C n w → (∀ t ∈ o.looksAt l.toArray, LookF l Φ ρ n t (σ t) w) →
    if wantedR l o σ = true then YieldsK P (fun v w' => R n w w' ∧ Φ n v w') ((execOp (evalR σ) o).run P w) else Φ n undef w
def StepsF (P : Program) (l : List Oper) (C : Nat → World → Prop) (R : Nat → World → World → Prop) (Φ : Nat → Fact) (ρ : Slots) : Nat → List Oper → Prop
  | _, [] => True
  | n, o :: r => StepF P l C R Φ ρ n o ∧ StepsF P l C R Φ ρ (n + 1) r
theorem StepsF.ok {l : List Oper} {C : Nat → World → Prop} {R : Nat → World → World → Prop} {Φ : Nat → Fact} {T : Array Value} (hT : ∀ t, T.getD t undef = ρ t) : ∀ (r : List Oper) (k : Nat), StepsF P l C R Φ ρ k r → StepsOk P l C R Φ T k r
  | [], _, _ => trivial
  | o :: r, k, h => ⟨fun σ w hC hl => h.1 σ w hC (fun t ht => by
      have := hl t ht
      unfold LookFact at this
      unfold LookF
      split
      · rename_i e; rw [e] at this; rw [← hT]; exact this
      · rename_i e; rw [e] at this; exact this), StepsF.ok hT r (k + 1) h.2⟩
theorem wrote_slots {T : Array Value} (hT : ∀ t, T.getD t undef = ρ t) (ds : List Tmp) (hds : ∀ d ∈ ds, d < T.size) (u : Slots) : ∀ t, (wrote T ds u).getD t undef = if t ∈ ds then u t else ρ t := fun t => by
  by_cases ht : t < T.size
  · rw [wrote_get u t ds T ht, ← hT]
  · have h1 : (wrote T ds u).getD t undef = undef := by
      rw [Array.getD_eq_getD_getElem?, Array.getElem?_eq_none (by rw [wrote_size]; omega), Option.getD_none]
    have h2 : T.getD t undef = undef := by rw [Array.getD_eq_getD_getElem?, Array.getElem?_eq_none (by omega), Option.getD_none]
    rw [h1, if_neg (fun h => ht (hds t h)), ← hT, h2]
theorem good_room {l : List Oper} {n : Nat} (hg : goodB l n = true) (ds : List Tmp) (hds : slotsW l = ds) : ∀ d ∈ ds, d < n := by
  intro d hd
  rw [← hds] at hd
  unfold slotsW at hd
  rw [List.mem_eraseDups, List.mem_filterMap] at hd
  obtain ⟨o, ho, hod⟩ := hd
  obtain ⟨j, hj⟩ := List.getElem?_of_mem ho
  exact (good_of hg).room j o d hj hod
/-- What each written slot holds behind the region; the others are as they were. -/
structure EndF (ds : List Tmp) (ρ ρ' : Slots) : Prop where
  old : ∀ t, ds.contains t = false → ρ' t = ρ t
theorem EndF.at_ {ds : List Tmp} {ρ ρ' : Slots} (h : EndF ds ρ ρ') {t : Tmp} {v : Value} (hv : ρ t = v) (ht : ds.contains t = false) : ρ' t = v := (h.old t ht).trans hv
/-- none that was there is turned. -/
theorem wpF_draw {l : List Oper} (Φs : List Fact) {id : Nat} (hm : P.follows .mixedOrders = true) (ds : List Tmp) (hg : goodB l n = true) (hds : slotsW l = ds) (hst : AllStab Ext Φs) (hs : StepsF P l (fun _ => Ext w) (fun _ => Ext) (facts Φs) ρ 0 l)
    (hQ : ∀ (ρ' : Slots) w', Ext w w' → EndF ds ρ ρ' → EndFacts l (fun _ => []) (facts Φs) ρ' w' ds → Q .normal ρ' w') : wpF P n (.region id l.toArray true) Q ρ w := by
  intro a ha
  obtain ⟨T, df⟩ := a
  have hz : T.size = n := ha.size
  subst hz
  refine wp_region_ext Φs hm T df hg ds hds hst (StepsF.ok ha.get l 0 hs) fun u w' hE hf => ?_
  have hw := wrote_slots ha.get ds (good_room hg ds hds) u
  refine ⟨fun t => if t ∈ ds then u t else ρ t, ⟨by rw [wrote_size], ha.defers, hw⟩, hQ _ w' hE ⟨fun t ht => if_neg (by simpa using ht)⟩ ?_⟩
  have key : ∀ es : List Tmp, (∀ d ∈ es, d ∈ ds) → EndFacts l (fun _ => []) (facts Φs) u w' es → EndFacts l (fun _ => []) (facts Φs) (fun t => if t ∈ ds then u t else ρ t) w' es := by
    intro es
    induction es with
    | nil => exact fun _ _ => trivial
    | cons d es ih =>
      intro hm h
      refine ⟨?_, ih (fun x hx => hm x (by simp [hx])) h.2⟩
      have := h.1
      simp only [if_pos (hm d (by simp))]
      exact this
  exact key ds (fun _ h => h) hf
/-- .. the last operation turns memory (S). -/
theorem wpF_draw_store {l : List Oper} (k : Nat) (S : World → World → Prop) (Φs : List Fact) {id : Nat} (hm : P.follows .mixedOrders = true) (ds : List Tmp) (hg : goodB l n = true) (hn : lastB l k = true) (hds : slotsW l = ds) (hSr : (l[k]?.bind (·.guard)) = none) (hst : AllStab Ext Φs) (hsS : AllStab S Φs) (hs : StepsF P l (fun _ => Ext w) (fun m => if m = k then S else Ext) (facts Φs) ρ 0 l)
    (hQ : ∀ (ρ' : Slots) w1 w', Ext w w1 → S w1 w' → EndF ds ρ ρ' → EndFacts l (fun _ => []) (facts Φs) ρ' w' ds → Q .normal ρ' w') : wpF P n (.region id l.toArray true) Q ρ w := by
  intro a ha
  obtain ⟨T, df⟩ := a
  have hz : T.size = n := ha.size
  subst hz
  refine wp_region_store k S Φs hm T df hg hn ds hds hSr hst hsS (StepsF.ok ha.get l 0 hs) fun u w1 w' hE hS hf => ?_
  have hw := wrote_slots ha.get ds (good_room hg ds hds) u
  refine ⟨fun t => if t ∈ ds then u t else ρ t, ⟨by rw [wrote_size], ha.defers, hw⟩, hQ _ w1 w' hE hS ⟨fun t ht => if_neg (by simpa using ht)⟩ ?_⟩
  have key : ∀ es : List Tmp, (∀ d ∈ es, d ∈ ds) → EndFacts l (fun _ => []) (facts Φs) u w' es → EndFacts l (fun _ => []) (facts Φs) (fun t => if t ∈ ds then u t else ρ t) w' es := by
    intro es
    induction es with
    | nil => exact fun _ _ => trivial
    | cons d es ih =>
      intro hm h
      refine ⟨?_, ih (fun x hx => hm x (by simp [hx])) h.2⟩
      have := h.1
      simp only [if_pos (hm d (by simp))]
      exact this
  exact key ds (fun _ h => h) hf
/-- Kept by S, but for those that are named. -/
def AllStabX (S : World → World → Prop) (ks : List Nat) : Nat → List Fact → Prop
  | _, [] => True
  | i, φ :: r => (ks.contains i = true ∨ Stab S φ) ∧ AllStabX S ks (i + 1) r
theorem AllStabX.get {S : World → World → Prop} {ks : List Nat} : ∀ (Φs : List Fact) (j : Nat), AllStabX S ks j Φs → ∀ i, j + i ∉ ks → Stab S (Φs.getD i (fun _ _ => True))
  | [], _, _, i, _ => by simpa using Stab.any
  | φ :: r, j, h, 0, hi => by
    rcases h.1 with h1 | h1
    · exact absurd (by simpa using h1) hi
    · simpa using h1
  | φ :: r, j, h, i + 1, hi => by
    simpa using AllStabX.get r (j + 1) h.2 i (by rwa [show j + 1 + i = j + (i + 1) by omega])
open Classical in
/-- The last operation turns memory (S), and does away with some facts. -/
theorem wpF_draw_storeK {l : List Oper} (k : Nat) (ks : List Nat) (S : World → World → Prop) (Φs : List Fact) {id : Nat} (hm : P.follows .mixedOrders = true) (ds : List Tmp) (hg : goodB l n = true) (hn : lastB l k = true) (hkl : killB l (fun m => if m = k then ks else []) = true) (hds : slotsW l = ds) (hSr : (l[k]?.bind (·.guard)) = none) (hst : AllStab Ext Φs) (hsS : AllStabX S ks 0 Φs) (hs : StepsF P l (fun _ => Ext w) (fun m => if m = k then S else Ext) (facts Φs) ρ 0 l)
    (hQ : ∀ (ρ' : Slots) w1 w', Ext w w1 → S w1 w' → EndF ds ρ ρ' → EndFacts l (fun m => if m = k then ks else []) (facts Φs) ρ' w' ds → Q .normal ρ' w') : wpF P n (.region id l.toArray true) Q ρ w := by
  intro a ha
  obtain ⟨T, df⟩ := a
  have hz : T.size = n := ha.size
  subst hz
  obtain ⟨hl, hb⟩ := lastB_iff hn
  refine wp_region_core (fun m => if m = k then ks else []) (fun _ => Ext w) (fun listed w' => if On listed k then ∃ w2, Ext w w2 ∧ S w2 w' else Ext w w') (fun m => if m = k then S else Ext) (facts Φs) hm T df hg hkl ds hds
    (fun m i hm' hi hne hbit w1 w' hc hr => ?_) (fun m listed w1 w' hm' hsz hoff hmm hE hR => lastE hn m listed w1 w' hm' hsz hoff hmm hE hR) (fun m i _ _ hi _ _ v w1 w' => ?_) (fun m o w1 ho hgo => ?_) (fun _ _ => (Below.refl _ _).drew) (by rw [if_neg On.not_replicate]; exact (Below.refl _ _).drew) (StepsF.ok ha.get l 0 hs) (fun u listed w' hall hE hf => ?_)
  · by_cases hkn : m = k
    · subst hkn
      rw [hb i (by omega)] at hbit
      cases hbit
    · rw [if_neg hkn] at hr
      exact hc.trans hr
  · by_cases hkn : m = k
    · rw [if_pos hkn] at hi ⊢
      exact hsS.get Φs 0 i (by rwa [Nat.zero_add]) v w1 w'
    · rw [if_neg hkn]; exact hst.get Φs i v w1 w'
  · by_cases hkn : m = k
    · subst hkn; rw [ho] at hSr; simp only [Option.bind_some] at hSr; rw [hSr] at hgo; cases hgo
    · rw [if_neg hkn]; exact Ext.refl w1
  · rw [if_pos (hall k (by omega))] at hE
    obtain ⟨w1, h1, h2⟩ := hE
    have hw := wrote_slots ha.get ds (good_room hg ds hds) u
    refine ⟨fun t => if t ∈ ds then u t else ρ t, ⟨by rw [wrote_size], ha.defers, hw⟩, hQ _ w1 w' h1 h2 ⟨fun t ht => if_neg (by simpa using ht)⟩ ?_⟩
    have key : ∀ es : List Tmp, (∀ d ∈ es, d ∈ ds) → EndFacts l (fun m => if m = k then ks else []) (facts Φs) u w' es → EndFacts l (fun m => if m = k then ks else []) (facts Φs) (fun t => if t ∈ ds then u t else ρ t) w' es := by
      intro es
      induction es with
      | nil => exact fun _ _ => trivial
      | cons d es ih =>
        intro hm h
        refine ⟨?_, ih (fun x hx => hm x (by simp [hx])) h.2⟩
        have := h.1
        simp only [if_pos (hm d (by simp))]
        exact this
    exact key ds (fun _ h => h) hf
/-- .. one operation (number k, bound behind those ahead of it and ahead of the others) turns memory. -/
theorem wpF_draw_mid {l : List Oper} (k : Nat) (Φs : List Fact) {id : Nat} (hm : P.follows .mixedOrders = true) (ds : List Tmp) (hg : goodB l n = true) (hk : midB l k = true) (hds : slotsW l = ds) (hgk : (l[k]?.bind (·.guard)) = none) (hst : AllStab Ext Φs) (hsT : AllStab (fun _ _ => True) (Φs.take k))
    (hs : StepsF P l (fun m => if m ≤ k then Ext w else fun _ => True) (fun m => if m = k then fun _ _ => True else Ext) (facts Φs) ρ 0 l)
    (hQ : ∀ (ρ' : Slots) w', EndF ds ρ ρ' → EndFacts l (fun _ => []) (facts Φs) ρ' w' ds → Q .normal ρ' w') : wpF P n (.region id l.toArray true) Q ρ w := by
  intro a ha
  obtain ⟨T, df⟩ := a
  have hz : T.size = n := ha.size
  subst hz
  refine wp_region_mid k Φs hm T df hg hk ds hds hst hsT hgk (StepsF.ok ha.get l 0 hs) fun u w' hf => ?_
  have hw := wrote_slots ha.get ds (good_room hg ds hds) u
  refine ⟨fun t => if t ∈ ds then u t else ρ t, ⟨by rw [wrote_size], ha.defers, hw⟩, hQ _ w' ⟨fun t ht => if_neg (by simpa using ht)⟩ ?_⟩
  have key : ∀ es : List Tmp, (∀ d ∈ es, d ∈ ds) → EndFacts l (fun _ => []) (facts Φs) u w' es → EndFacts l (fun _ => []) (facts Φs) (fun t => if t ∈ ds then u t else ρ t) w' es := by
    intro es
    induction es with
    | nil => exact fun _ _ => trivial
    | cons d es ih =>
      intro hm h
      refine ⟨?_, ih (fun x hx => hm x (by simp [hx])) h.2⟩
      have := h.1
      simp only [if_pos (hm d (by simp))]
      exact this
  exact key ds (fun _ h => h) hf
variable {l : List Oper} {Φ : Nat → Fact}
theorem stepN {C : Nat → World → Prop} {R : Nat → World → World → Prop} {k : Nat} {o : Oper} (hg : o.guard = none)
    (h : ∀ σ w, C k w → (∀ t ∈ o.looksAt l.toArray, LookF l Φ ρ k t (σ t) w) → YieldsK P (fun v w' => R k w w' ∧ Φ k v w') ((execOp (evalR σ) o).run P w)) : StepF P l C R Φ ρ k o := by
  intro σ w hC hl
  have : wantedR l o σ = true := by unfold wantedR; rw [hg]
  rw [if_pos this]
  exact h σ w hC hl
theorem stepY {C : Nat → World → Prop} {R : Nat → World → World → Prop} {k : Nat} {o : Oper} (g : Nat) (want : Bool) (d : Tmp) (hg : o.guard = some (g, want)) (hd : (l[g]?).bind (·.dst) = some d)
    (hv : ∀ x w, LookF l Φ ρ k d x w → x = .bool want)
    (h : ∀ σ w, C k w → (∀ t ∈ o.looksAt l.toArray, LookF l Φ ρ k t (σ t) w) → YieldsK P (fun v w' => R k w w' ∧ Φ k v w') ((execOp (evalR σ) o).run P w)) : StepF P l C R Φ ρ k o := by
  intro σ w hC hl
  have hin : d ∈ o.looksAt l.toArray := by
    unfold Oper.looksAt
    refine List.mem_append_right _ ?_
    rw [hg]
    simp [hd]
  have : wantedR l o σ = true := by
    unfold wantedR
    rw [hg]
    simp only [hd, hv _ _ (hl d hin)]
    simp
  rw [if_pos this]
  exact h σ w hC hl
theorem stepX {C : Nat → World → Prop} {R : Nat → World → World → Prop} {k : Nat} {o : Oper} (g : Nat) (want : Bool) (d : Tmp) (hg : o.guard = some (g, want)) (hd : (l[g]?).bind (·.dst) = some d)
    (hv : ∀ x w, LookF l Φ ρ k d x w → x ≠ .bool want) (hu : ∀ w, Φ k undef w) : StepF P l C R Φ ρ k o := by
  intro σ w hC hl
  have hin : d ∈ o.looksAt l.toArray := by
    unfold Oper.looksAt
    refine List.mem_append_right _ ?_
    rw [hg]
    simp [hd]
  have : wantedR l o σ = false := by
    unfold wantedR
    rw [hg]
    simp only [hd]
    have h1 := hv _ _ (hl d hin)
    cases hx : σ d <;> simp
    rename_i b
    intro hb
    exact h1 (by rw [hx, hb])
  rw [if_neg (by rw [this]; simp)]
  exact hu w

/-! ### A function is entered; it returns -/
def postF (P : Program) (fn : Func) (R : Ending → World → Prop) : PostF
  | .normal, ρ, w | .ret, ρ, w => ∀ tmps : Array Value, (∀ t, tmps.getD t undef = ρ t) → ∃ v, (results fn tmps).run P w = .ok v w ∧ R (.returned v) w
  | _, _, _ => False
/-- The frame at the beginning. -/
structure Begun (args : List Value) (ρ : Slots) : Prop where
  get : ∀ t, ρ t = args.getD t undef
theorem calls_of_wpF {f : FuncId} {fn : Func} {c : Code} {args : List Value} {R : Ending → World → Prop} (hf : P.funcs[f]? = some fn) (hb : fn.body = some c) (m : Nat) (hm : fn.ntmps = m) (hn : args.length ≤ m)
    (h : ∀ ρ, Begun args ρ → wpF P m c (postF P fn R) ρ w) : Calls P f args.toArray w R := by
  subst hm
  refine calls_of_wp hf hb ?_
  have hget : ∀ t, (args.toArray ++ Array.replicate (fn.ntmps - args.toArray.size) undef).getD t undef = args.getD t undef := fun t => by
    simp only [Array.getD_eq_getD_getElem?, List.getD_eq_getElem?_getD, Array.getElem?_append, List.size_toArray, List.getElem?_toArray]
    by_cases ht : t < args.length
    · rw [if_pos ht]
    · rw [if_neg ht, List.getElem?_eq_none (by omega), Array.getElem?_replicate]
      split <;> rfl
  refine wp_mono (h (fun t => args.getD t undef) ⟨fun _ => rfl⟩ _ ⟨?_, rfl, hget⟩) ?_
  · simp
    omega
  · rintro e a' w' ⟨ρ', hf', hQ⟩
    have fin : (∀ tmps : Array Value, (∀ t, tmps.getD t undef = ρ' t) → ∃ v, (results fn tmps).run P w' = .ok v w' ∧ R (.returned v) w') → a'.defers = [] ∧ ∃ v, (results fn a'.tmps).run P w' = .ok v w' ∧ R (.returned v) w' :=
      fun h => ⟨hf'.defers, h a'.tmps hf'.get⟩
    cases e with
    | normal => exact fin hQ
    | ret => exact fin hQ
    | exit _ => exact hQ.elim
    | goto _ => exact hQ.elim
    | panic _ => exact hQ.elim
    | outgrown => exact hQ.elim
/-- What a result's variable holds. -/
def ResF (P : Program) (ρ : Slots) (w : World) : ResultVar → Value → Prop
  | .tmp t, v => ρ t = v
  | .cell p ty, v => ∃ a, ρ p = .pointer (some a) ∧ (loadVar ty a).run P w = .ok v w
def ResAll (P : Program) (ρ : Slots) (w : World) : List ResultVar → List Value → Prop
  | [], [] => True
  | r :: rs, v :: vs => ResF P ρ w r v ∧ ResAll P ρ w rs vs
  | _, _ => False
/-- The value of one result. -/
def resOf (tmps : Array Value) : ResultVar → Sem Value
  | .tmp t => pure (tmps.getD t undef)
  | .cell a t => do loadVar t (← asAddr (tmps.getD a undef))
theorem results_list {ρ : Slots} {w : World} {tmps : Array Value} (ht : ∀ t, tmps.getD t undef = ρ t) : ∀ (rs : List ResultVar) (vs : List Value), ResAll P ρ w rs vs → (rs.mapM (resOf tmps)).run P w = Result.ok vs w
  | [], [], _ => by simp [Sem.run_pure]
  | [], _ :: _, h => h.elim
  | _ :: _, [], h => h.elim
  | r :: rs, v :: vs, h => by
    have ih := results_list ht rs vs h.2
    have h1 : (resOf tmps r).run P w = .ok v w := by
      have h1 := h.1
      cases r with
      | tmp t =>
        simp only [ResF] at h1
        simp only [resOf, ht, h1, Sem.run_pure]
      | cell p ty =>
        obtain ⟨a, ha, hl⟩ := h1
        simp only [resOf, ht, ha, asAddr, Sem.run_bind, Sem.run_pure, Result.andThen_ok, hl]
    rw [List.mapM_cons, Sem.run_bind, h1]
    simp only [Result.andThen_ok, Sem.run_bind, ih, Sem.run_pure]
/-- Results as they are handed back. -/
def tupled : List Value → Value
  | [v] => v
  | vs => .tuple vs.toArray
theorem results_fn {fn : Func} {rs : List ResultVar} (hrs : fn.results = rs.toArray) {tmps : Array Value} (ht : ∀ t, tmps.getD t undef = ρ t) {vs : List Value} (h : ResAll P ρ w rs vs) :
    (results fn tmps).run P w = .ok (tupled vs) w := by
  have h1 := results_list ht rs vs h
  have he : results fn tmps = (do let vs ← fn.results.mapM (resOf tmps); pure (if h : vs.size = 1 then vs[0] else .tuple vs)) := by
    unfold results
    congr 1
  rw [he, hrs, List.mapM_toArray, Sem.run_bind]
  have hm : ((List.toArray <$> rs.mapM (resOf tmps)) : Sem (Array Value)).run P w = .ok vs.toArray w := by
    show ((rs.mapM (resOf tmps)).bind (fun x => Sem.pure x.toArray)).run P w = _
    rw [show (rs.mapM (resOf tmps)).bind (fun x => Sem.pure x.toArray) = (do let x ← rs.mapM (resOf tmps); pure x.toArray) from rfl, Sem.run_bind, h1]
    rfl
  rw [hm]
  simp only [Result.andThen_ok, Sem.run_pure]
  match vs with
  | [] => rfl
  | [v] => rfl
  | _ :: _ :: _ => simp [tupled]
theorem postF_ret {fn : Func} {R : Ending → World → Prop} (rs : List ResultVar) (hrs : fn.results = rs.toArray) (vs : List Value) (v : Value) (hv : tupled vs = v) (h : ResAll P ρ w rs vs) (hR : R (.returned v) w) : postF P fn R .ret ρ w :=
  fun _ ht => ⟨_, results_fn hrs ht h, by rw [hv]; exact hR⟩
theorem postF_end {fn : Func} {R : Ending → World → Prop} (rs : List ResultVar) (hrs : fn.results = rs.toArray) (vs : List Value) (v : Value) (hv : tupled vs = v) (h : ResAll P ρ w rs vs) (hR : R (.returned v) w) : postF P fn R .normal ρ w :=
  fun _ ht => ⟨_, results_fn hrs ht h, by rw [hv]; exact hR⟩
theorem ResF.row {p : Tmp} {ty : TypeId} {g : Nat} {t : TypeId} {cs : Array Value} {fr : Nat × Nat} {d : TypeDesc} (hp : ρ p = .pointer (some ⟨g, 0, none⟩)) (hg : w.heap[g]? = some (.cells cs t fr))
    (hu : P.underlying ty = some d) (hd : (match d with | .struct _ | .array _ _ => true | _ => false) = true) (hi : (P.info? ty).map (·.size) = some cs.size) : ResF P ρ w (.cell p ty) (.agg cs) :=
  ⟨_, hp, run_loadVar_row w g t ty cs fr d hg hu hd hi⟩
end
end Go.Proofs.Ytfjmbcjcgdfkfaa
