/- A region that draws its order, by facts: for each operation a fact on the value that it yields, kept by whatever the other operations do to the world; each operation shown to yield its fact out of the facts of those that it looks at. Then at the region's end all facts hold, whatever order was drawn. It holds of any program. -/
import Derived.WalkKit
import Derived.Orders
import Derived.Below
namespace Go.Proofs.Ytfjmbcjcgdfkfaa
open Go.RowKit
/-- A fact on a value in a world. -/
abbrev Fact := Value → World → Prop
/-- The value is this one. -/
def Is (v : Value) : Fact := fun x _ => x = v
/-- Operands read by a function on slots. -/
def evalR (ρ : Tmp → Value) : Operand → Value
  | .tmp t => ρ t
  | .const v => v
  | .global g => .pointer (some ⟨g, 0, none⟩)
  | .func f => .func (.func f) #[] #[]
theorem evalR_eq (a : Act) : evalR (fun t => a.tmps.getD t undef) = a.eval := by
  funext x
  cases x <;> rfl
/-- The operation, carried out, yields a value and a world of which K holds. -/
def YieldsK (P : Program) (K : Value → World → Prop) : Result Next → Prop
  | .ok (.value v) w => K v w
  | .ok .skip w => K undef w
  | .ok (.enter f args) w => Calls P f args w fun e w' => ∃ v, e = .returned v ∧ K v w'
  | _ => False
/-- The last operation ahead of number n that writes slot t. -/
def writer (l : List Oper) (t : Tmp) : Nat → Option Nat
  | 0 => none
  | n + 1 => if (l[n]?.bind (·.dst)) = some t then some n else writer l t n
/-- What is known of a slot when operation n comes up. -/
def LookFact (l : List Oper) (Φ : Nat → Fact) (T : Array Value) (n : Nat) (t : Tmp) (x : Value) (w : World) : Prop :=
  match writer l t n with
  | none => x = T.getD t undef
  | some k => Φ k x w
/-- Is the operation wanted, by what its guard's slot holds? -/
def wantedR (l : List Oper) (o : Oper) (ρ : Tmp → Value) : Bool :=
  match o.guard with
  | none => true
  | some (g, want) => match (l[g]?).bind (·.dst) with
    | some t => (match ρ t with | .bool b => b == want | _ => false)
    | none => false
/-- One operation's step. -/
def StepOk (P : Program) (l : List Oper) (C : Nat → World → Prop) (R : Nat → World → World → Prop) (Φ : Nat → Fact) (T : Array Value) (n : Nat) (o : Oper) : Prop :=
  ∀ (ρ : Tmp → Value) (w : World), C n w → (∀ t ∈ o.looksAt l.toArray, LookFact l Φ T n t (ρ t) w) →
    if wantedR l o ρ = true then YieldsK P (fun v w' => R n w w' ∧ Φ n v w') ((execOp (evalR ρ) o).run P w) else Φ n undef w
/-- All steps, from number n on. -/
def StepsOk (P : Program) (l : List Oper) (C : Nat → World → Prop) (R : Nat → World → World → Prop) (Φ : Nat → Fact) (T : Array Value) : Nat → List Oper → Prop
  | _, [] => True
  | n, o :: r => StepOk P l C R Φ T n o ∧ StepsOk P l C R Φ T (n + 1) r
theorem StepsOk.get {P : Program} {l : List Oper} {C : Nat → World → Prop} {R : Nat → World → World → Prop} {Φ : Nat → Fact} {T : Array Value} :
    ∀ (r : List Oper) (n : Nat), StepsOk P l C R Φ T n r → ∀ k o, r[k]? = some o → StepOk P l C R Φ T (n + k) o
  | [], _, _, k, o, h => by simp at h
  | x :: r, n, h, 0, o, hk => by simp at hk; subst hk; exact h.1
  | x :: r, n, h, k + 1, o, hk => by
    have := StepsOk.get r (n + 1) h.2 k o (by simpa using hk)
    rwa [show n + (k + 1) = n + 1 + k by omega]

/-! ### The edges' closure, as bits -/
def maskOf (acc : List Nat) (o : Oper) : Nat :=
  o.after.toList.foldl (fun s e => if Region.binds .any e then s ||| 2 ^ e.on ||| acc.getD e.on 0 else s) 0
def masks : List Oper → List Nat → List Nat
  | [], acc => acc
  | o :: r, acc => masks r (acc ++ [maskOf acc o])
theorem maskFold (acc : List Nat) (k : Nat) : ∀ (es : List Edge) (s : Nat), (es.foldl (fun s e => if Region.binds .any e then s ||| 2 ^ e.on ||| acc.getD e.on 0 else s) s).testBit k = true →
    s.testBit k = true ∨ ∃ e ∈ es, Region.binds .any e = true ∧ (e.on = k ∨ (acc.getD e.on 0).testBit k = true)
  | [], s, h => .inl h
  | e :: es, s, h => by
    rw [List.foldl_cons] at h
    rcases maskFold acc k es _ h with h1 | ⟨e', he', hb, hx⟩
    · by_cases hb : Region.binds .any e = true
      · rw [if_pos hb] at h1
        simp only [Nat.testBit_or, Bool.or_eq_true] at h1
        rcases h1 with (h1 | h1) | h1
        · exact .inl h1
        · rw [Nat.testBit_two_pow] at h1
          exact .inr ⟨e, by simp, hb, .inl (by simpa using h1)⟩
        · exact .inr ⟨e, by simp, hb, .inr h1⟩
      · rw [if_neg hb] at h1
        exact .inl h1
    · exact .inr ⟨e', by simp [he'], hb, hx⟩
theorem maskOf_spec {acc : List Nat} {o : Oper} {k : Nat} (h : (maskOf acc o).testBit k = true) :
    ∃ e ∈ o.after, Region.binds .any e = true ∧ (e.on = k ∨ (acc.getD e.on 0).testBit k = true) := by
  rcases maskFold acc k _ _ h with h1 | ⟨e, he, hb, hx⟩
  · simp at h1
  · exact ⟨e, by simpa using he, hb, hx⟩
theorem masks_length : ∀ (r : List Oper) (acc : List Nat), (masks r acc).length = acc.length + r.length
  | [], acc => by simp [masks]
  | o :: r, acc => by rw [masks, masks_length r]; simp; omega
theorem masks_pre : ∀ (r : List Oper) (acc : List Nat) (k : Nat), k < acc.length → (masks r acc)[k]? = acc[k]?
  | [], acc, k, _ => rfl
  | o :: r, acc, k, h => by
    rw [masks, masks_pre r _ k (by simp; omega), List.getElem?_append_left h]
/-- Each mask is that of the operation over masks that come to the same. -/
theorem masks_at (l : List Oper) : ∀ (r : List Oper) (acc : List Nat), acc.length + r.length = l.length → (∀ j, r[j]? = l[acc.length + j]?) →
    (∀ i o k, i < acc.length → l[i]? = some o → (acc.getD i 0).testBit k = true → ∃ e ∈ o.after, Region.binds .any e = true ∧ (e.on = k ∨ (e.on < i ∧ (acc.getD e.on 0).testBit k = true))) →
    ∀ i o k, l[i]? = some o → ((masks r acc).getD i 0).testBit k = true → ∃ e ∈ o.after, Region.binds .any e = true ∧ (e.on = k ∨ (e.on < i ∧ ((masks r acc).getD e.on 0).testBit k = true))
  | [], acc, hl, _, hacc, i, o, k, hi, h => by
    have : i < l.length := (List.getElem?_eq_some_iff.1 hi).1
    exact hacc i o k (by simp at hl; omega) hi h
  | x :: r, acc, hl, hr, hacc, i, o, k, hi, h => by
    rw [masks] at h ⊢
    refine masks_at l r (acc ++ [maskOf acc x]) (by simp at hl ⊢; omega) (fun j => by have := hr (j + 1); simp at this ⊢; rw [this]; congr 1; omega) ?_ i o k hi h
    intro i o k hlt ho ht
    have keep : ∀ j, j < acc.length → (acc ++ [maskOf acc x]).getD j 0 = acc.getD j 0 := fun j hj => by
      simp [List.getD, List.getElem?_append_left hj]
    simp at hlt
    by_cases hia : i < acc.length
    · rw [keep i hia] at ht
      obtain ⟨e, he, hb, hx⟩ := hacc i o k hia ho ht
      exact ⟨e, he, hb, hx.imp id (fun h2 => ⟨h2.1, by rw [keep _ (by omega)]; exact h2.2⟩)⟩
    · have hie : i = acc.length := by omega
      subst hie
      have hx0 : x = o := by
        have := hr 0
        simp [ho] at this
        exact this
      subst hx0
      have e1 : (acc ++ [maskOf acc x]).getD acc.length 0 = maskOf acc x := by simp [List.getD]
      rw [e1] at ht
      obtain ⟨e, he, hb, hx⟩ := maskOf_spec ht
      refine ⟨e, he, hb, hx.imp id (fun h2 => ?_)⟩
      by_cases hl : e.on < acc.length
      · exact ⟨hl, by rw [keep _ hl]; exact h2⟩
      · simp [List.getD, List.getElem?_eq_none (show acc.length ≤ e.on by omega)] at h2

/-- The check on a region: edges lead back; whoever names a slot that another one writes is bound to it by the edges. -/
def slotsOf (l : List Oper) (o : Oper) : List Tmp := o.dst.toList ++ o.looksAt l.toArray
def goodB (l : List Oper) (size : Nat) : Bool :=
  let m := masks l []
  l.zipIdx.all fun (o, j) =>
    (o.after.all fun e => !Region.binds .any e || e.on < j) &&
    (match o.dst with | some d => decide (d < size) | none => true) &&
    l.zipIdx.all fun (p, i) => decide (j ≤ i) || ((match p.dst with | some d => !(slotsOf l o).contains d | none => true) && (match o.dst with | some d => !(slotsOf l p).contains d | none => true)) || (m.getD j 0).testBit i
structure Good (l : List Oper) (size : Nat) : Prop where
  back : ∀ (j : Nat) (o : Oper), l[j]? = some o → ∀ e ∈ o.after, Region.binds .any e = true → e.on < j
  room : ∀ (j : Nat) (o : Oper) (d : Tmp), l[j]? = some o → o.dst = some d → d < size
  tied : ∀ (j : Nat) (o : Oper) (i : Nat) (p : Oper) (d : Tmp), l[j]? = some o → l[i]? = some p → i < j → (p.dst = some d ∧ d ∈ slotsOf l o ∨ o.dst = some d ∧ d ∈ slotsOf l p) → ((masks l []).getD j 0).testBit i = true
theorem good_of {l : List Oper} {size : Nat} (h : goodB l size = true) : Good l size := by
  unfold goodB at h
  simp only [List.all_eq_true] at h
  have hz : ∀ j o, l[j]? = some o → (o, j) ∈ l.zipIdx := fun j o ho => by
    rw [List.mem_zipIdx_iff_getElem?]
    exact ho
  refine ⟨fun j o ho e he hb => ?_, fun j o d ho hd => ?_, fun j o i p d ho hp hij hx => ?_⟩
  · have := h _ (hz j o ho)
    simp only [Bool.and_eq_true] at this
    have h2 := Array.all_eq_true_iff_forall_mem.1 this.1.1 e he
    simpa [hb] using h2
  · have := h _ (hz j o ho)
    simp only [Bool.and_eq_true, hd] at this
    simpa using this.1.2
  · have := h _ (hz j o ho)
    simp only [Bool.and_eq_true, List.all_eq_true] at this
    have h2 := this.2 _ (hz i p hp)
    simp only [Bool.or_eq_true, decide_eq_true_eq, Bool.and_eq_true] at h2
    rcases h2 with (h2 | h2) | h2
    · omega
    · exfalso
      rcases hx with ⟨h3, h4⟩ | ⟨h3, h4⟩
      · have h5 := h2.1
        rw [h3] at h5
        simp at h5
        exact h5 h4
      · have h5 := h2.2
        rw [h3] at h5
        simp at h5
        exact h5 h4
    · exact h2

/-- Whoever looks at a fact that another operation does away with is bound to come ahead of that one. -/
def killB (l : List Oper) (kill : Nat → List Nat) : Bool :=
  let m := masks l []
  l.zipIdx.all fun (o, j) => (List.range l.length).all fun n => decide (n = j) || (kill n).all fun k => (m.getD n 0).testBit j || (o.looksAt l.toArray).all fun t => writer l t j != some k
theorem kill_of {l : List Oper} {kill : Nat → List Nat} (h : killB l kill = true) (j n k : Nat) (o : Oper) (t : Tmp) (ho : l[j]? = some o) (hn : n < l.length) (hne : n ≠ j) (hk : k ∈ kill n) (ht : t ∈ o.looksAt l.toArray) (hw : writer l t j = some k) : ((masks l []).getD n 0).testBit j = true := by
  unfold killB at h
  simp only [List.all_eq_true] at h
  have h1 := h (o, j) (by rw [List.mem_zipIdx_iff_getElem?]; exact ho) n (by simpa using hn)
  simp only [Bool.or_eq_true, decide_eq_true_eq, hne, false_or, List.all_eq_true] at h1
  rcases h1 k hk with h2 | h2
  · exact h2
  · have := h2 t ht
    simp [hw] at this

section
variable {P : Program} {l : List Oper} {kill : Nat → List Nat} {C : Nat → World → Prop} {E : Array Bool → World → Prop} {R : Nat → World → World → Prop} {Φ : Nat → Fact} {a0 : Act}
def On (listed : Array Bool) (i : Nat) : Prop := listed.getD i false = true
theorem On.lt {listed : Array Bool} {i : Nat} (h : On listed i) : i < listed.size := by
  unfold On at h
  rcases Nat.lt_or_ge i listed.size with h' | h'
  · exact h'
  · simp [Array.getElem?_eq_none h'] at h
theorem on_set {listed : Array Bool} {i j : Nat} (hi : i < listed.size) : On (listed.setIfInBounds i true) j ↔ j = i ∨ On listed j := by
  unfold On
  by_cases h : i = j
  · subst h; simp [hi]
  · simp [Array.getElem?_setIfInBounds_ne h, Ne.symm h]
/-- What holds while the region runs, in whatever order. -/
structure Inv (l : List Oper) (kill : Nat → List Nat) (C : Nat → World → Prop) (E : Array Bool → World → Prop) (Φ : Nat → Fact) (a0 : Act) (listed : Array Bool) (a : Act) (w : World) : Prop where
  size : listed.size = l.length
  closed : ∀ i o, l[i]? = some o → On listed i → ∀ e ∈ o.after, Region.binds .any e = true → On listed e.on
  defers : a.defers = a0.defers
  tmps : a.tmps.size = a0.tmps.size
  cls : ∀ n, n < l.length → ¬ On listed n → C n w
  ecl : E listed w
  old : ∀ t, (∀ k o, l[k]? = some o → o.dst = some t → ¬ On listed k) → a.tmps.getD t undef = a0.tmps.getD t undef
  new : ∀ t k o, l[k]? = some o → o.dst = some t → On listed k → (∀ k' o', k < k' → l[k']? = some o' → o'.dst = some t → ¬ On listed k') → (∀ n, On listed n → k ∉ kill n) → Φ k (a.tmps.getD t undef) w
theorem Inv.mask {listed : Array Bool} {a : Act} {w : World} (h : Inv l kill C E Φ a0 listed a w) :
    ∀ (i k : Nat), On listed i → ((masks l []).getD i 0).testBit k = true → On listed k := by
  intro i
  induction i using Nat.strongRecOn with
  | _ i ih =>
    intro k hi hk
    have hlt : i < l.length := by have := hi.lt; rw [h.size] at this; exact this
    have ho : l[i]? = some l[i] := List.getElem?_eq_getElem hlt
    obtain ⟨e, he, hb, hx⟩ := masks_at l l [] (by simp) (by simp) (fun i o k hi => by simp at hi) i l[i] k ho hk
    have hon := h.closed i _ ho hi e he hb
    rcases hx with rfl | ⟨hlt2, ht⟩
    · exact hon
    · exact ih e.on hlt2 k hon ht
/-- At an operation that is ready: the masks' bits are listed. -/
theorem Inv.maskReady {listed : Array Bool} {a : Act} {w : World} (h : Inv l kill C E Φ a0 listed a w) {i : Nat} {o : Oper} (ho : l[i]? = some o)
    (hall : ∀ e ∈ o.after, Region.binds .any e = true → On listed e.on) {k : Nat} (hk : ((masks l []).getD i 0).testBit k = true) : On listed k := by
  obtain ⟨e, he, hb, hx⟩ := masks_at l l [] (by simp) (by simp) (fun i o k hi => by simp at hi) i o k ho hk
  have hon := hall e he hb
  rcases hx with rfl | ⟨_, ht⟩
  · exact hon
  · exact h.mask _ _ hon ht
theorem writer_none {t : Tmp} : ∀ (n : Nat), writer l t n = none → ∀ (k : Nat) (o : Oper), k < n → l[k]? = some o → o.dst ≠ some t
  | 0, _, k, o, hk, _ => by omega
  | n + 1, h, k, o, hk, ho => by
    unfold writer at h
    split at h
    · cases h
    · rename_i hne
      by_cases hkn : k = n
      · subst hkn; intro hd; simp [ho, hd] at hne
      · exact writer_none n h k o (by omega) ho
theorem writer_some {t : Tmp} {k : Nat} : ∀ (n : Nat), writer l t n = some k → k < n ∧ (∃ o, l[k]? = some o ∧ o.dst = some t) ∧ ∀ (k' : Nat) (o' : Oper), k < k' → k' < n → l[k']? = some o' → o'.dst ≠ some t
  | 0, h => by cases h
  | n + 1, h => by
    unfold writer at h
    split at h
    · rename_i he
      have hkn : n = k := Option.some.inj h
      subst hkn
      refine ⟨by omega, ?_, fun k' o' h1 h2 => by omega⟩
      cases ho : l[n]? with
      | none => simp [ho] at he
      | some o => exact ⟨o, rfl, by simpa [ho] using he⟩
    · rename_i hne
      obtain ⟨h1, h2, h3⟩ := writer_some n h
      refine ⟨by omega, h2, fun k' o' hk hk' ho' hd => ?_⟩
      by_cases he : k' = n
      · subst he; simp [ho', hd] at hne
      · exact h3 k' o' hk (by omega) ho' hd
/-- What a slot holds when a ready operation comes up. -/
theorem Inv.look (g : Good l a0.tmps.size) (hkl : killB l kill = true) {listed : Array Bool} {a : Act} {w : World} (h : Inv l kill C E Φ a0 listed a w) {i : Nat} {o : Oper} (ho : l[i]? = some o) (hi : ¬ On listed i)
    (hall : ∀ e ∈ o.after, Region.binds .any e = true → On listed e.on) (t : Tmp) (ht : t ∈ o.looksAt l.toArray) : LookFact l Φ a0.tmps i t (a.tmps.getD t undef) w := by
  have hlate : ∀ k o', i ≤ k → l[k]? = some o' → o'.dst = some t → ¬ On listed k := fun k o' hk ho' hd hon => by
    by_cases he : k = i
    · subst he; exact hi hon
    · exact hi (h.mask k i hon (g.tied k o' i o t ho' ho (by omega) (.inr ⟨hd, List.mem_append_right _ ht⟩)))
  unfold LookFact
  split
  · rename_i hw
    refine h.old t fun k o' ho' hd hon => ?_
    by_cases hk : k < i
    · exact writer_none _ hw k o' hk ho' hd
    · exact hlate k o' (by omega) ho' hd hon
  · rename_i k hw
    obtain ⟨hk, ⟨ok, hok, hdk⟩, hno⟩ := writer_some _ hw
    refine h.new t k ok hok hdk (h.maskReady ho hall (g.tied i o k ok t ho hok hk (.inl ⟨hdk, List.mem_append_right _ ht⟩))) (fun k' o' hkk ho' hd => ?_) (fun n hon hkn => ?_)
    · by_cases hki : k' < i
      · exact absurd hd (hno k' o' hkk hki ho')
      · exact hlate k' o' (by omega) ho' hd
    · have hne : n ≠ i := fun e => hi (e ▸ hon)
      exact hi (h.mask n i hon (kill_of hkl i n k o t ho (by have := hon.lt; rw [h.size] at this; exact this) hne hkn ht hw))
/-- Behind the operation. -/
theorem Inv.put (g : Good l a0.tmps.size) (hC : ∀ n m, n < l.length → m < l.length → n ≠ m → ((masks l []).getD n 0).testBit m = false → ∀ w w', C m w → R n w w' → C m w') (hE : ∀ n listed w w', n < l.length → listed.size = l.length → ¬ On listed n → (∀ i k, On listed i ∨ i = n → ((masks l []).getD i 0).testBit k = true → On listed k) → E listed w → R n w w' → E (listed.setIfInBounds n true) w') (hΦ : ∀ n i, n < l.length → i < l.length → i ∉ kill n → i ≠ n → ((masks l []).getD i 0).testBit n = false → ∀ v w w', Φ i v w → R n w w' → Φ i v w') {listed : Array Bool} {a : Act} {w : World} (h : Inv l kill C E Φ a0 listed a w) {i : Nat} {o : Oper} (ho : l[i]? = some o) (hi : ¬ On listed i)
    (hall : ∀ e ∈ o.after, Region.binds .any e = true → On listed e.on) {v : Value} {w' : World} (hR : R i w w') (hv : Φ i v w') : Inv l kill C E Φ a0 (listed.setIfInBounds i true) (a.put o.dst v) w' := by
  have hil : i < listed.size := by rw [h.size]; exact (List.getElem?_eq_some_iff.1 ho).1
  have hget : ∀ t, o.dst ≠ some t → (a.put o.dst v).tmps.getD t undef = a.tmps.getD t undef := fun t ht => by
    cases hd : o.dst with
    | none => rfl
    | some d =>
      have hne : d ≠ t := fun e => ht (by rw [hd, e])
      simp [Act.put, Array.getElem?_setIfInBounds_ne hne]
  have hilen : i < l.length := (List.getElem?_eq_some_iff.1 ho).1
  refine ⟨by simpa using h.size, fun j oj hj hon e he hb => ?_, ?_, ?_, fun m hm hno => ?_, hE i listed w w' hilen h.size hi (fun j k hj hk => hj.elim (fun hj => h.mask j k hj hk) (fun hj => by subst hj; exact h.maskReady ho hall hk)) h.ecl hR, fun t ht => ?_, fun t k ok hk hd hon hlast hkl => ?_⟩
  · rcases (on_set hil).1 hon with rfl | hon
    · obtain rfl : o = oj := by rw [ho] at hj; exact Option.some.inj hj
      exact (on_set hil).2 (.inr (hall e he hb))
    · exact (on_set hil).2 (.inr (h.closed j oj hj hon e he hb))
  · cases hd : o.dst <;> exact h.defers
  · cases hd : o.dst with
    | none => exact h.tmps
    | some d => simpa [Act.put] using h.tmps
  · have hnm : i ≠ m := fun e => hno ((on_set hil).2 (.inl e.symm))
    have hoff : ¬ On listed m := fun h' => hno ((on_set hil).2 (.inr h'))
    refine hC i m hilen hm hnm ?_ _ _ (h.cls m hm hoff) hR
    cases hb : ((masks l []).getD i 0).testBit m with
    | false => rfl
    | true => exact absurd (h.maskReady ho hall hb) hoff
  · have hne : o.dst ≠ some t := fun hd => ht i o ho hd ((on_set hil).2 (.inl rfl))
    rw [hget t hne]
    exact h.old t fun k ok hk hd hon => ht k ok hk hd ((on_set hil).2 (.inr hon))
  · by_cases hdt : o.dst = some t
    · by_cases hki : k = i
      · subst hki
        have hroom := g.room k o t ho hdt
        have : (a.put o.dst v).tmps.getD t undef = v := by
          rw [hdt]
          simp [Act.put, h.tmps, hroom]
        rw [this]
        exact hv
      · exfalso
        rcases (on_set hil).1 hon with he | hon
        · exact hki he
        · rcases Nat.lt_or_gt_of_ne hki with hlt | hgt
          · exact hlast i o hlt ho hdt ((on_set hil).2 (.inl rfl))
          · exact hi (h.mask k i hon (g.tied k ok i o t hk ho hgt (.inl ⟨hdt, List.mem_append_left _ (by simp [hd])⟩)))
    · have hki : k ≠ i := fun e => by subst e; rw [ho] at hk; cases hk; exact hdt hd
      rw [hget t hdt]
      have hkon : On listed k := ((on_set hil).1 hon).resolve_left hki
      have hmf : ((masks l []).getD k 0).testBit i = false := by
        cases hb : ((masks l []).getD k 0).testBit i with
        | false => rfl
        | true => exact absurd (h.mask k i hkon hb) hi
      refine hΦ i k (List.getElem?_eq_some_iff.1 ho).1 (List.getElem?_eq_some_iff.1 hk).1 (hkl i ((on_set hil).2 (.inl rfl))) hki hmf _ _ _ (h.new t k ok hk hd (((on_set hil).1 hon).resolve_left hki) (fun k' o' hkk ho' hd' hon' => ?_) (fun n hn => hkl n ((on_set hil).2 (.inr hn)))) hR
      exact hlast k' o' hkk ho' hd' ((on_set hil).2 (.inr hon'))

theorem wanted_eq (a : Act) (o : Oper) : wantedR l o (fun t => a.tmps.getD t undef) = Region.wanted o (yielded l.toArray a.tmps) := by
  unfold wantedR Region.wanted yielded
  cases hg : o.guard with
  | none => rfl
  | some gw =>
    obtain ⟨g, want⟩ := gw
    simp only [List.getElem?_toArray]
    cases hd : (l[g]?).bind (·.dst) with
    | none => simp
    | some t =>
      simp only [Option.bind_some]
      cases hx : a.tmps[t]? with
      | none => simp [Array.getD_eq_getD_getElem?, hx, undef]
      | some x => cases x <;> simp [Array.getD_eq_getD_getElem?, hx]

/-- One ready operation, met by its step. -/
theorem Inv.step (g : Good l a0.tmps.size) (hkl : killB l kill = true) (hC : ∀ n m, n < l.length → m < l.length → n ≠ m → ((masks l []).getD n 0).testBit m = false → ∀ w w', C m w → R n w w' → C m w') (hE : ∀ n listed w w', n < l.length → listed.size = l.length → ¬ On listed n → (∀ i k, On listed i ∨ i = n → ((masks l []).getD i 0).testBit k = true → On listed k) → E listed w → R n w w' → E (listed.setIfInBounds n true) w') (hΦ : ∀ n i, n < l.length → i < l.length → i ∉ kill n → i ≠ n → ((masks l []).getD i 0).testBit n = false → ∀ v w w', Φ i v w → R n w w' → Φ i v w') (hRr : ∀ n o w, l[n]? = some o → o.guard.isSome = true → R n w w) {listed : Array Bool} {a : Act} {w : World} (h : Inv l kill C E Φ a0 listed a w) {i : Nat} {o : Oper} (ho : l[i]? = some o) (hi : ¬ On listed i)
    (hall : ∀ e ∈ o.after, Region.binds .any e = true → On listed e.on) (hs : StepOk P l C R Φ a0.tmps i o) {K : Act → World → Prop} {Q : Exit → Act → World → Prop}
    (hK : ∀ a' w', Inv l kill C E Φ a0 (listed.setIfInBounds i true) a' w' → K a' w') : wpOp P l.toArray Q i K a w := by
  have hst := hs (fun t => a.tmps.getD t undef) w (h.cls i (List.getElem?_eq_some_iff.1 ho).1 hi) (fun t ht => h.look g hkl ho hi hall t ht)
  rw [wanted_eq, evalR_eq] at hst
  unfold wpOp
  simp only [List.getElem?_toArray, ho]
  by_cases hw : Region.wanted o (yielded l.toArray a.tmps) = true
  · rw [if_pos hw] at hst ⊢
    refine .inl ?_
    unfold Oper.wp
    generalize (execOp a.eval o).run P w = r at hst ⊢
    cases r with
    | halt x w' => exact hst.elim
    | ok n w' =>
      cases n <;> simp only [YieldsK] at hst <;> simp only [Oper.upon]
      case value v => exact hK _ _ (h.put g hC hE hΦ ho hi hall hst.1 hst.2)
      case skip => exact hK _ _ (h.put g hC hE hΦ ho hi hall hst.1 hst.2)
      case enter f args =>
        refine hst.mono fun e w'' hx => ?_
        obtain ⟨v, rfl, h1, h2⟩ := hx
        exact hK _ _ (h.put g hC hE hΦ ho hi hall h1 h2)
  · rw [if_neg hw] at hst ⊢
    have hgs : o.guard.isSome = true := by
      cases hgo : o.guard with
      | none => exact absurd (by unfold Region.wanted; rw [hgo]) hw
      | some x => rfl
    exact hK _ _ (h.put g hC hE hΦ ho hi hall (hRr i o w ho hgs) hst)

theorem count_set : ∀ (L : List Bool) (i : Nat), L[i]? = some false → ((L.set i true).filter (!·)).length + 1 = (L.filter (!·)).length
  | [], i, h => by simp at h
  | x :: L, 0, h => by simp at h; subst h; simp
  | x :: L, i + 1, h => by
    have ih := count_set L i (by simpa using h)
    cases x <;> simp <;> omega
theorem count_zero : ∀ (L : List Bool), (L.filter (!·)).length = 0 → ∀ i : Nat, i < L.length → L[i]? = some true
  | [], _, i, h => by simp at h
  | x :: L, h0, i, h => by
    cases x
    · simp at h0
    · cases i with
      | zero => rfl
      | succ i =>
        rw [List.getElem?_cons_succ]
        exact count_zero L (by simpa using h0) i (by simpa using h)

/-- Whatever order is picked from here on. -/
theorem anyInv (g : Good l a0.tmps.size) (hkl : killB l kill = true) (hC : ∀ n m, n < l.length → m < l.length → n ≠ m → ((masks l []).getD n 0).testBit m = false → ∀ w w', C m w → R n w w' → C m w') (hE : ∀ n listed w w', n < l.length → listed.size = l.length → ¬ On listed n → (∀ i k, On listed i ∨ i = n → ((masks l []).getD i 0).testBit k = true → On listed k) → E listed w → R n w w' → E (listed.setIfInBounds n true) w') (hΦ : ∀ n i, n < l.length → i < l.length → i ∉ kill n → i ≠ n → ((masks l []).getD i 0).testBit n = false → ∀ v w w', Φ i v w → R n w w' → Φ i v w') (hRr : ∀ n o w, l[n]? = some o → o.guard.isSome = true → R n w w) (hs : StepsOk P l C R Φ a0.tmps 0 l) {Q : Exit → Act → World → Prop}
    (hQ : ∀ listed a' w', (∀ i, i < l.length → On listed i) → Inv l kill C E Φ a0 listed a' w' → Q .normal a' w') :
    ∀ (fuel : Nat) (listed : Array Bool) (a : Act) (w : World), (listed.toList.filter (!·)).length = fuel → Inv l kill C E Φ a0 listed a w → wpAny P .any l.toArray Q fuel listed a w := by
  have full : ∀ (listed : Array Bool) (a : Act) (w : World), Inv l kill C E Φ a0 listed a w → Region.ready .any l.toArray listed = [] → ∀ i, i < l.length → On listed i := by
    intro listed a w h hr i
    induction i using Nat.strongRecOn with
    | _ i ih =>
      intro hi
      refine Classical.byContradiction fun hno => ?_
      have ho : l[i]? = some l[i] := List.getElem?_eq_getElem hi
      have : i ∈ Region.ready .any l.toArray listed := by
        refine mem_ready.2 ⟨?_, l[i], by rw [List.getElem?_toArray]; exact ho, fun e he hb => ?_⟩
        · have hi' : i < listed.size := by rw [h.size]; exact hi
          unfold On at hno
          simp [hi'] at hno ⊢
          exact hno
        · have hlt := g.back i _ ho e he hb
          exact ih e.on hlt (by omega)
      rw [hr] at this
      cases this
  intro fuel
  induction fuel with
  | zero =>
    intro listed a w hf h
    have hon : ∀ i, i < l.length → On listed i := fun i hi => by
      have := count_zero _ hf i (by rw [Array.length_toList, h.size]; exact hi)
      unfold On
      simp at this
      simp [this]
    have hr : Region.ready .any l.toArray listed = [] := by
      cases hr : Region.ready .any l.toArray listed with
      | nil => rfl
      | cons x xs =>
        exfalso
        have hm : x ∈ Region.ready .any l.toArray listed := by rw [hr]; simp
        obtain ⟨h1, o, ho, _⟩ := mem_ready.1 hm
        have hx : x < l.length := by simpa using (Array.getElem?_eq_some_iff.1 ho).1
        have h2 := hon x hx
        have hx' : x < listed.size := h2.lt
        unfold On at h2
        simp [hx'] at h1 h2
        rw [h1] at h2
        cases h2
    exact ⟨hr, hQ _ _ _ hon h⟩
  | succ fuel ih =>
    intro listed a w hf h
    refine ⟨fun hr => hQ _ _ _ (full listed a w h hr) h, fun i hi => ?_⟩
    obtain ⟨h1, o, ho, hall⟩ := mem_ready.1 hi
    have ho' : l[i]? = some o := by simpa using ho
    have hil : i < listed.size := by rw [h.size]; exact (List.getElem?_eq_some_iff.1 ho').1
    have hno : ¬ On listed i := by
      unfold On
      simp [hil] at h1 ⊢
      exact h1
    have hst := hs.get l 0 i o ho'
    rw [Nat.zero_add] at hst
    refine h.step g hkl hC hE hΦ hRr ho' hno (fun e he hb => hall e he hb) hst fun a' w' h' => ih _ _ _ ?_ h'
    rw [Array.toList_setIfInBounds]
    have := count_set listed.toList i (by
      simp [hil] at h1
      simp [hil, h1])
    omega

/-- The order of the text. -/
theorem textInv (g : Good l a0.tmps.size) (hkl : killB l kill = true) (hC : ∀ n m, n < l.length → m < l.length → n ≠ m → ((masks l []).getD n 0).testBit m = false → ∀ w w', C m w → R n w w' → C m w') (hE : ∀ n listed w w', n < l.length → listed.size = l.length → ¬ On listed n → (∀ i k, On listed i ∨ i = n → ((masks l []).getD i 0).testBit k = true → On listed k) → E listed w → R n w w' → E (listed.setIfInBounds n true) w') (hΦ : ∀ n i, n < l.length → i < l.length → i ∉ kill n → i ≠ n → ((masks l []).getD i 0).testBit n = false → ∀ v w w', Φ i v w → R n w w' → Φ i v w') (hRr : ∀ n o w, l[n]? = some o → o.guard.isSome = true → R n w w) (hs : StepsOk P l C R Φ a0.tmps 0 l) {Q : Exit → Act → World → Prop}
    (hQ : ∀ listed a' w', (∀ i, i < l.length → On listed i) → Inv l kill C E Φ a0 listed a' w' → Q .normal a' w') :
    ∀ (m k : Nat) (listed : Array Bool) (a : Act) (w : World), k + m = l.length → (∀ i, i < l.length → (On listed i ↔ i < k)) → Inv l kill C E Φ a0 listed a w → wpOps P l.toArray Q (List.range' k m) a w
  | 0, k, listed, a, w, hk, hon, h => hQ listed a w (fun i hi => (hon i hi).2 (by omega)) h
  | m + 1, k, listed, a, w, hk, hon, h => by
    rw [List.range'_succ, wpOps_cons]
    have hkl' : k < l.length := by omega
    have ho : l[k]? = some l[k] := List.getElem?_eq_getElem hkl'
    have hst := hs.get l 0 k l[k] ho
    rw [Nat.zero_add] at hst
    have hno : ¬ On listed k := fun h' => by have := (hon k hkl').1 h'; omega
    refine h.step g hkl hC hE hΦ hRr ho hno (fun e he hb => ?_) hst fun a' w' h' => textInv g hkl hC hE hΦ hRr hs hQ m (k + 1) _ _ _ (by omega) (fun i hi => ?_) h'
    · have hlt := g.back k _ ho e he hb
      exact (hon e.on (by omega)).2 hlt
    · rw [on_set (by rw [h.size]; exact hkl')]
      rw [hon i hi]
      omega

/-- The slots that the region writes, each once. -/
def slotsW (l : List Oper) : List Tmp := (l.filterMap (·.dst)).eraseDups
/-- The frame with these slots written. -/
def wrote (T : Array Value) (ds : List Tmp) (u : Tmp → Value) : Array Value := ds.foldl (fun T d => T.setIfInBounds d (u d)) T
theorem wrote_size (u : Tmp → Value) : ∀ (ds : List Tmp) (T : Array Value), (wrote T ds u).size = T.size
  | [], T => rfl
  | d :: ds, T => by unfold wrote; rw [List.foldl_cons]; exact (wrote_size u ds _).trans (by simp)
theorem wrote_get (u : Tmp → Value) (t : Tmp) : ∀ (ds : List Tmp) (T : Array Value), t < T.size → (wrote T ds u).getD t undef = if t ∈ ds then u t else T.getD t undef
  | [], T, _ => by simp [wrote]
  | d :: ds, T, ht => by
    have ih := wrote_get u t ds (T.setIfInBounds d (u d)) (by simpa using ht)
    unfold wrote at ih ⊢
    rw [List.foldl_cons, ih]
    by_cases h1 : t ∈ ds
    · simp [h1]
    · by_cases h2 : t = d
      · subst h2; simp [h1, ht]
      · simp [h1, h2, Array.getElem?_setIfInBounds_ne (Ne.symm h2)]
/-- What is known of each written slot at the end. -/
def EndFacts (l : List Oper) (kill : Nat → List Nat) (Φ : Nat → Fact) (u : Tmp → Value) (w : World) : List Tmp → Prop
  | [] => True
  | d :: ds => (match writer l d l.length with | some k => if (List.range l.length).all (fun n => !(kill n).contains k) = true then Φ k (u d) w else True | none => True) ∧ EndFacts l kill Φ u w ds
theorem endFacts_of {u : Tmp → Value} {w : World} (h : ∀ d k, writer l d l.length = some k → (List.range l.length).all (fun n => !(kill n).contains k) = true → Φ k (u d) w) : ∀ ds, EndFacts l kill Φ u w ds
  | [] => trivial
  | d :: ds => ⟨by split; (split; (exact h d _ ‹_› ‹_›); trivial); trivial, endFacts_of h ds⟩

/-- At the end. -/
theorem endInv (T : Array Value) (df : List Deferred) {Q : Exit → Act → World → Prop} (ds : List Tmp) (hds : slotsW l = ds)
    (hQ : ∀ (u : Tmp → Value) listed w', (∀ i, i < l.length → On listed i) → E listed w' → EndFacts l kill Φ u w' ds → Q .normal { tmps := wrote T ds u, defers := df } w') :
    ∀ listed a' w', (∀ i, i < l.length → On listed i) → Inv l kill C E Φ { tmps := T, defers := df } listed a' w' → Q .normal a' w' := by
  intro listed a' w' hon h
  have hw : ∀ d k, writer l d l.length = some k → (List.range l.length).all (fun n => !(kill n).contains k) = true → Φ k (a'.tmps.getD d undef) w' := fun d k hk hall => by
    obtain ⟨h1, ⟨o, ho, hd⟩, h3⟩ := writer_some _ hk
    refine h.new d k o ho hd (hon k h1) (fun k' o' hkk ho' hd' _ => h3 k' o' hkk (List.getElem?_eq_some_iff.1 ho').1 ho' hd') (fun n hn hkn => ?_)
    have hnl : n < l.length := by have := hn.lt; rw [h.size] at this; exact this
    have := List.all_eq_true.1 hall n (by simpa using hnl)
    simp at this
    exact this hkn
  have hq := hQ (fun t => a'.tmps.getD t undef) listed w' hon h.ecl (endFacts_of hw ds)
  have he : a' = { tmps := wrote T ds (fun t => a'.tmps.getD t undef), defers := df } := by
    have h1 : a'.tmps = wrote T ds (fun t => a'.tmps.getD t undef) := by
      apply Array.ext (by rw [wrote_size]; exact h.tmps)
      intro t ht1 ht2
      have ht3 : t < T.size := by rw [wrote_size] at ht2; exact ht2
      have hx := wrote_get (fun t => a'.tmps.getD t undef) t ds T ht3
      have e0 : ∀ (A : Array Value) (ht : t < A.size), A.getD t undef = A[t] := fun A ht => by
        rw [Array.getD_eq_getD_getElem?, Array.getElem?_eq_getElem ht, Option.getD_some]
      rw [e0 _ ht2] at hx
      by_cases hn : t ∈ ds
      · rw [if_pos hn, e0 _ ht1] at hx
        exact hx.symm
      · rw [if_neg hn, e0 _ ht3] at hx
        have ho : a'.tmps.getD t undef = T.getD t undef := h.old t fun k o ho hd _ => hn (by
          rw [← hds]
          unfold slotsW
          rw [List.mem_eraseDups, List.mem_filterMap]
          exact ⟨o, List.mem_of_getElem? ho, hd⟩)
        rw [e0 _ ht1, e0 _ ht3] at ho
        exact ho.trans hx.symm
    have h2 := h.defers
    cases a'
    simp only at h1 h2
    subst h2
    rw [← h1]
  rw [he]
  exact hq
/-- A REGION THAT DRAWS ITS ORDER, BY FACTS, each operation that is still to come with what holds of the world then (C), and what holds of what is done (E). -/
theorem wp_region_core (kill : Nat → List Nat) (C : Nat → World → Prop) (E : Array Bool → World → Prop) (R : Nat → World → World → Prop) (Φ : Nat → Fact) {id : Nat} {Q : Exit → Act → World → Prop} {w : World} (hm : P.follows .mixedOrders = true) (T : Array Value) (df : List Deferred)
    (hg : goodB l T.size = true) (hkl : killB l kill = true) (ds : List Tmp) (hds : slotsW l = ds) (hC : ∀ n m, n < l.length → m < l.length → n ≠ m → ((masks l []).getD n 0).testBit m = false → ∀ w w', C m w → R n w w' → C m w') (hE : ∀ n listed w w', n < l.length → listed.size = l.length → ¬ On listed n → (∀ i k, On listed i ∨ i = n → ((masks l []).getD i 0).testBit k = true → On listed k) → E listed w → R n w w' → E (listed.setIfInBounds n true) w') (hΦ : ∀ n i, n < l.length → i < l.length → i ∉ kill n → i ≠ n → ((masks l []).getD i 0).testBit n = false → ∀ v w w', Φ i v w → R n w w' → Φ i v w') (hRr : ∀ n o w, l[n]? = some o → o.guard.isSome = true → R n w w)
    (h0 : ∀ n, n < l.length → C n { w with drawn := w.drawn + 1 }) (h1 : E (Array.replicate l.toArray.size false) { w with drawn := w.drawn + 1 })
    (hs : StepsOk P l C R Φ T 0 l)
    (hQ : ∀ (u : Tmp → Value) listed w', (∀ i, i < l.length → On listed i) → E listed w' → EndFacts l kill Φ u w' ds → Q .normal { tmps := wrote T ds u, defers := df } w') : (Code.region id l.toArray true).wp P Q { tmps := T, defers := df } w := by
  have g := good_of hg
  refine wp_region_any hm (anyInv (a0 := { tmps := T, defers := df }) g hkl hC hE hΦ hRr hs (fun listed a' w' hon h => ?_) _ _ _ _ (by simp) ?_)
  · exact endInv T df ds hds hQ listed a' w' hon h
  · have hno : ∀ i, ¬ On (Array.replicate l.toArray.size false) i := fun i h => by
      unfold On at h
      rw [Array.getD_eq_getD_getElem?, Array.getElem?_replicate] at h
      split at h <;> simp at h
    exact ⟨Array.size_replicate, fun i o _ h => absurd h (hno i), rfl, rfl, fun n hn _ => h0 n hn, h1, fun t _ => rfl, fun t k o _ _ h => absurd h (hno k)⟩
/-- The same in the order of the text. -/
theorem wp_region_core_text (kill : Nat → List Nat) (C : Nat → World → Prop) (E : Array Bool → World → Prop) (R : Nat → World → World → Prop) (Φ : Nat → Fact) {id : Nat} {Q : Exit → Act → World → Prop} {w : World} (T : Array Value) (df : List Deferred)
    (hg : goodB l T.size = true) (hkl : killB l kill = true) (ds : List Tmp) (hds : slotsW l = ds) (hC : ∀ n m, n < l.length → m < l.length → n ≠ m → ((masks l []).getD n 0).testBit m = false → ∀ w w', C m w → R n w w' → C m w') (hE : ∀ n listed w w', n < l.length → listed.size = l.length → ¬ On listed n → (∀ i k, On listed i ∨ i = n → ((masks l []).getD i 0).testBit k = true → On listed k) → E listed w → R n w w' → E (listed.setIfInBounds n true) w') (hΦ : ∀ n i, n < l.length → i < l.length → i ∉ kill n → i ≠ n → ((masks l []).getD i 0).testBit n = false → ∀ v w w', Φ i v w → R n w w' → Φ i v w') (hRr : ∀ n o w, l[n]? = some o → o.guard.isSome = true → R n w w)
    (h0 : ∀ n, n < l.length → C n w) (h1 : E (Array.replicate l.length false) w)
    (hs : StepsOk P l C R Φ T 0 l)
    (hQ : ∀ (u : Tmp → Value) listed w', (∀ i, i < l.length → On listed i) → E listed w' → EndFacts l kill Φ u w' ds → Q .normal { tmps := wrote T ds u, defers := df } w') : (Code.region id l.toArray false).wp P Q { tmps := T, defers := df } w := by
  have g := good_of hg
  refine wp_region ?_
  rw [List.range_eq_range']
  refine textInv (a0 := { tmps := T, defers := df }) g hkl hC hE hΦ hRr hs (endInv T df ds hds hQ) _ 0 (Array.replicate l.length false) _ _ (by simp) (fun i hi => ?_) ?_
  · unfold On
    simp [hi]
  · have hno : ∀ i, ¬ On (Array.replicate l.length false) i := fun i h => by
      unfold On at h
      rw [Array.getD_eq_getD_getElem?, Array.getElem?_replicate] at h
      split at h <;> simp at h
    exact ⟨Array.size_replicate, fun i o _ h => absurd h (hno i), rfl, rfl, fun n hn _ => h0 n hn, h1, fun t _ => rfl, fun t k o _ _ h => absurd h (hno k)⟩
/-- .. where one class of worlds serves throughout. -/
theorem wp_region_facts (kill : Nat → List Nat) (C : World → Prop) (R : Nat → World → World → Prop) (Φ : Nat → Fact) {id : Nat} {Q : Exit → Act → World → Prop} {w : World} (hm : P.follows .mixedOrders = true) (T : Array Value) (df : List Deferred)
    (hg : goodB l T.size = true) (hkl : killB l kill = true) (ds : List Tmp) (hds : slotsW l = ds) (hC : ∀ n w w', C w → R n w w' → C w') (hΦ : ∀ n i, n < l.length → i < l.length → i ∉ kill n → i ≠ n → ((masks l []).getD i 0).testBit n = false → ∀ v w w', Φ i v w → R n w w' → Φ i v w') (hRr : ∀ n o w, l[n]? = some o → o.guard.isSome = true → R n w w) (h0 : C { w with drawn := w.drawn + 1 })
    (hs : StepsOk P l (fun _ => C) R Φ T 0 l)
    (hQ : ∀ (u : Tmp → Value) w', C w' → EndFacts l kill Φ u w' ds → Q .normal { tmps := wrote T ds u, defers := df } w') : (Code.region id l.toArray true).wp P Q { tmps := T, defers := df } w :=
  wp_region_core kill (fun _ => C) (fun _ => C) R Φ hm T df hg hkl ds hds (fun n _ _ _ _ _ => hC n) (fun n _ w w' _ _ _ _ => hC n w w') hΦ hRr (fun _ _ => h0) h0 hs (fun u _ w' _ => hQ u w')
theorem wp_region_facts_text (kill : Nat → List Nat) (C : World → Prop) (R : Nat → World → World → Prop) (Φ : Nat → Fact) {id : Nat} {Q : Exit → Act → World → Prop} {w : World} (T : Array Value) (df : List Deferred)
    (hg : goodB l T.size = true) (hkl : killB l kill = true) (ds : List Tmp) (hds : slotsW l = ds) (hC : ∀ n w w', C w → R n w w' → C w') (hΦ : ∀ n i, n < l.length → i < l.length → i ∉ kill n → i ≠ n → ((masks l []).getD i 0).testBit n = false → ∀ v w w', Φ i v w → R n w w' → Φ i v w') (hRr : ∀ n o w, l[n]? = some o → o.guard.isSome = true → R n w w) (h0 : C w)
    (hs : StepsOk P l (fun _ => C) R Φ T 0 l)
    (hQ : ∀ (u : Tmp → Value) w', C w' → EndFacts l kill Φ u w' ds → Q .normal { tmps := wrote T ds u, defers := df } w') : (Code.region id l.toArray false).wp P Q { tmps := T, defers := df } w :=
  wp_region_core_text kill (fun _ => C) (fun _ => C) R Φ T df hg hkl ds hds (fun n _ _ _ _ _ => hC n) (fun n _ w w' _ _ _ _ => hC n w w') hΦ hRr (fun _ _ => h0) h0 hs (fun u _ w' _ => hQ u w')

theorem stepNone {C : Nat → World → Prop} {R : Nat → World → World → Prop} {T : Array Value} {n : Nat} {o : Oper} (hg : o.guard = none)
    (h : ∀ ρ w, C n w → (∀ t ∈ o.looksAt l.toArray, LookFact l Φ T n t (ρ t) w) → YieldsK P (fun v w' => R n w w' ∧ Φ n v w') ((execOp (evalR ρ) o).run P w)) : StepOk P l C R Φ T n o := by
  intro ρ w hC hl
  have : wantedR l o ρ = true := by unfold wantedR; rw [hg]
  rw [if_pos this]
  exact h ρ w hC hl
theorem stepOn {C : Nat → World → Prop} {R : Nat → World → World → Prop} {T : Array Value} {n : Nat} {o : Oper} (g : Nat) (want : Bool) (d : Tmp) (hg : o.guard = some (g, want)) (hd : (l[g]?).bind (·.dst) = some d)
    (hv : ∀ x w, LookFact l Φ T n d x w → x = .bool want)
    (h : ∀ ρ w, C n w → (∀ t ∈ o.looksAt l.toArray, LookFact l Φ T n t (ρ t) w) → YieldsK P (fun v w' => R n w w' ∧ Φ n v w') ((execOp (evalR ρ) o).run P w)) : StepOk P l C R Φ T n o := by
  intro ρ w hC hl
  have hin : d ∈ o.looksAt l.toArray := by
    unfold Oper.looksAt
    refine List.mem_append_right _ ?_
    rw [hg]
    simp [hd]
  have : wantedR l o ρ = true := by
    unfold wantedR
    rw [hg]
    simp only [hd, hv _ _ (hl d hin)]
    simp
  rw [if_pos this]
  exact h ρ w hC hl
theorem stepOff {C : Nat → World → Prop} {R : Nat → World → World → Prop} {T : Array Value} {n : Nat} {o : Oper} (g : Nat) (want : Bool) (d : Tmp) (hg : o.guard = some (g, want)) (hd : (l[g]?).bind (·.dst) = some d)
    (hv : ∀ x w, LookFact l Φ T n d x w → x ≠ .bool want) (hu : ∀ w, Φ n undef w) : StepOk P l C R Φ T n o := by
  intro ρ w hC hl
  have hin : d ∈ o.looksAt l.toArray := by
    unfold Oper.looksAt
    refine List.mem_append_right _ ?_
    rw [hg]
    simp [hd]
  have : wantedR l o ρ = false := by
    unfold wantedR
    rw [hg]
    simp only [hd]
    have h1 := hv _ _ (hl d hin)
    cases hx : ρ d <;> simp
    rename_i b
    intro hb
    exact h1 (by rw [hx, hb])
  rw [if_neg (by rw [this]; simp)]
  exact hu w
theorem YieldsK.value {K : Value → World → Prop} {r : Result Next} {v : Value} {w' : World} (hr : r = .ok (.value v) w') (h : K v w') : YieldsK P K r := by rw [hr]; exact h
theorem YieldsK.enter {K : Value → World → Prop} {r : Result Next} {f : FuncId} {args : Array Value} {w' : World} (hr : r = .ok (.enter f args) w') (h : Calls P f args w' fun e w'' => ∃ v, e = .returned v ∧ K v w'') : YieldsK P K r := by rw [hr]; exact h
end

/-- A function of the program that is entered when it is called. -/
def Plain (P : Program) (f : FuncId) : Prop := ∀ xs w, (callFunc f xs).run P w = .ok (.enter f xs) w
theorem run_execCall {P : Program} {f : FuncId} (hp : Plain P f) (ρ : Operand → Value) (args : List Operand) (at_ : Array TypeId) (dst : Option Tmp) (ty : TypeId) (pos : String) (af : Array Edge) (gd : Option (Nat × Bool)) (w : World)
    (hρ : ρ (.func f) = .func (.func f) #[] #[]) : (execOp ρ ⟨dst, .call ⟨.value (.func f), args.toArray, at_⟩, ty, pos, af, gd⟩).run P w = .ok (.enter f (args.map ρ).toArray) w := by
  simp [execOp, resolve, invoke, Deferred.ofValue, hρ, hp _ w]
theorem YieldsK.call {P : Program} {K : Value → World → Prop} {f : FuncId} (hp : Plain P f) {ρ : Tmp → Value} {args : List Operand} {at_ : Array TypeId} {dst : Option Tmp} {ty : TypeId} {pos : String} {af : Array Edge} {gd : Option (Nat × Bool)} {w : World}
    (h : Calls P f (args.map (evalR ρ)).toArray w fun e w'' => ∃ v, e = .returned v ∧ K v w'') : YieldsK P K ((execOp (evalR ρ) ⟨dst, .call ⟨.value (.func f), args.toArray, at_⟩, ty, pos, af, gd⟩).run P w) :=
  YieldsK.enter (run_execCall hp (evalR ρ) args at_ dst ty pos af gd w rfl) h

/-- Kept by this way of turning the world. -/
def Stab (R : World → World → Prop) (φ : Fact) : Prop := ∀ v w w', φ v w → R w w' → φ v w'
theorem Stab.is {R : World → World → Prop} (v : Value) : Stab R (Is v) := fun _ _ _ h _ => h
theorem Stab.any {R : World → World → Prop} : Stab R (fun _ _ => True) := fun _ _ _ _ _ => trivial
def AllStab (R : World → World → Prop) : List Fact → Prop
  | [] => True
  | φ :: r => Stab R φ ∧ AllStab R r
theorem AllStab.get {R : World → World → Prop} : ∀ (Φs : List Fact), AllStab R Φs → ∀ i, Stab R (Φs.getD i (fun _ _ => True))
  | [], _, i => by simpa using Stab.any
  | φ :: r, h, 0 => h.1
  | φ :: r, h, i + 1 => by simpa using AllStab.get r h.2 i
/-- The facts by their list. -/
def facts (Φs : List Fact) (i : Nat) : Fact := Φs.getD i (fun _ _ => True)
/-- Nothing that was there has turned. -/
def Ext (w w' : World) : Prop := Below w.heap.size w w'
theorem Ext.refl (w : World) : Ext w w := Below.refl _ _
theorem Ext.trans {a b c : World} (h : Ext a b) (k : Ext b c) : Ext a c := Below.trans h (k.mono h.size)

/-- A REGION THAT DRAWS ITS ORDER, whose operations make memory but turn none that was there. -/
theorem wp_region_ext {P : Program} {l : List Oper} (Φs : List Fact) {id : Nat} {Q : Exit → Act → World → Prop} {w : World} (hm : P.follows .mixedOrders = true) (T : Array Value) (df : List Deferred)
    (hg : goodB l T.size = true) (ds : List Tmp) (hds : slotsW l = ds) (hst : AllStab Ext Φs) (hs : StepsOk P l (fun _ => Ext w) (fun _ => Ext) (facts Φs) T 0 l)
    (hQ : ∀ (u : Tmp → Value) w', Ext w w' → EndFacts l (fun _ => []) (facts Φs) u w' ds → Q .normal { tmps := wrote T ds u, defers := df } w') : (Code.region id l.toArray true).wp P Q { tmps := T, defers := df } w :=
  wp_region_facts (fun _ => []) (Ext w) (fun _ => Ext) (facts Φs) hm T df hg
    (by unfold killB; simp) ds hds (fun _ _ _ h k => h.trans k) (fun _ i _ _ _ _ _ => hst.get Φs i) (fun _ _ w _ _ => Ext.refl w) (Below.refl _ _).drew hs hQ
/-- The same in the order of the text. -/
theorem wp_region_ext_text {P : Program} {l : List Oper} (Φs : List Fact) {id : Nat} {Q : Exit → Act → World → Prop} {w : World} (T : Array Value) (df : List Deferred)
    (hg : goodB l T.size = true) (ds : List Tmp) (hds : slotsW l = ds) (hst : AllStab Ext Φs) (hs : StepsOk P l (fun _ => Ext w) (fun _ => Ext) (facts Φs) T 0 l)
    (hQ : ∀ (u : Tmp → Value) w', Ext w w' → EndFacts l (fun _ => []) (facts Φs) u w' ds → Q .normal { tmps := wrote T ds u, defers := df } w') : (Code.region id l.toArray false).wp P Q { tmps := T, defers := df } w :=
  wp_region_facts_text (fun _ => []) (Ext w) (fun _ => Ext) (facts Φs) T df hg
    (by unfold killB; simp) ds hds (fun _ _ _ h k => h.trans k) (fun _ i _ _ _ _ _ => hst.get Φs i) (fun _ _ w _ _ => Ext.refl w) (Below.refl _ _) hs hQ
/-- A region whose last operation (number n, bound behind all others) turns memory by S; the others turn none that was there. -/
def lastB (l : List Oper) (n : Nat) : Bool := l.length == n + 1 && (List.range n).all fun m => ((masks l []).getD n 0).testBit m
theorem lastB_iff {l : List Oper} {n : Nat} (h : lastB l n = true) : l.length = n + 1 ∧ ∀ m, m < n → ((masks l []).getD n 0).testBit m = true := by
  unfold lastB at h
  simp only [Bool.and_eq_true, beq_iff_eq, List.all_eq_true, List.mem_range] at h
  exact h
theorem On.not_replicate {n i : Nat} : ¬ On (Array.replicate n false) i := fun h => by
  unfold On at h
  rw [Array.getD_eq_getD_getElem?, Array.getElem?_replicate] at h
  split at h <;> simp at h
open Classical in
theorem lastE {l : List Oper} {n : Nat} (hn : lastB l n = true) {S : World → World → Prop} {w : World} (k : Nat) (listed : Array Bool) (w1 w' : World) (hk : k < l.length) (hsz : listed.size = l.length) (hoff : ¬ On listed k)
    (hm : ∀ i j, On listed i ∨ i = k → ((masks l []).getD i 0).testBit j = true → On listed j) (hE : if On listed n then ∃ w2, Ext w w2 ∧ S w2 w1 else Ext w w1) (hR : (if k = n then S else Ext) w1 w') :
    if On (listed.setIfInBounds k true) n then ∃ w2, Ext w w2 ∧ S w2 w' else Ext w w' := by
  obtain ⟨hl, hb⟩ := lastB_iff hn
  by_cases hkn : k = n
  · subst hkn
    rw [if_neg hoff] at hE
    rw [if_pos rfl] at hR
    by_cases h : On (listed.setIfInBounds k true) k
    · rw [if_pos h]; exact ⟨_, hE, hR⟩
    · exact absurd ((on_set (by omega)).2 (.inl rfl)) h
  · have hno : ¬ On listed n := fun h => hoff (hm n k (.inl h) (hb k (by omega)))
    rw [if_neg hno] at hE
    rw [if_neg hkn] at hR
    rw [if_neg]
    · exact hE.trans hR
    · intro h
      exact ((on_set (by omega)).1 h).elim (fun e => hkn e.symm) hno
open Classical in
/-- A REGION WHOSE LAST OPERATION TURNS MEMORY (S); the others turn none that was there. -/
theorem wp_region_store {P : Program} {l : List Oper} (n : Nat) (S : World → World → Prop) (Φs : List Fact) {id : Nat} {Q : Exit → Act → World → Prop} {w : World} (hm : P.follows .mixedOrders = true) (T : Array Value) (df : List Deferred)
    (hg : goodB l T.size = true) (hn : lastB l n = true) (ds : List Tmp) (hds : slotsW l = ds) (hSr : (l[n]?.bind (·.guard)) = none) (hst : AllStab Ext Φs) (hsS : AllStab S Φs) (hs : StepsOk P l (fun _ => Ext w) (fun k => if k = n then S else Ext) (facts Φs) T 0 l)
    (hQ : ∀ (u : Tmp → Value) w1 w', Ext w w1 → S w1 w' → EndFacts l (fun _ => []) (facts Φs) u w' ds → Q .normal { tmps := wrote T ds u, defers := df } w') : (Code.region id l.toArray true).wp P Q { tmps := T, defers := df } w := by
  obtain ⟨hl, hb⟩ := lastB_iff hn
  refine wp_region_core (fun _ => []) (fun _ => Ext w) (fun listed w' => if On listed n then ∃ w2, Ext w w2 ∧ S w2 w' else Ext w w') (fun k => if k = n then S else Ext) (facts Φs) hm T df hg (by unfold killB; simp) ds hds
    (fun k m hk hm hne hbit w1 w' hc hr => ?_) (fun k listed w1 w' hk hsz hoff hm hE hR => lastE hn k listed w1 w' hk hsz hoff hm hE hR) (fun k i _ _ _ _ _ v w1 w' => ?_) (fun k o w1 ho hgo => ?_) (fun _ _ => (Below.refl _ _).drew) (by rw [if_neg On.not_replicate]; exact (Below.refl _ _).drew) hs (fun u listed w' hall hE => ?_)
  · by_cases hkn : k = n
    · subst hkn
      rw [hb m (by omega)] at hbit
      cases hbit
    · rw [if_neg hkn] at hr
      exact hc.trans hr
  · by_cases hkn : k = n
    · rw [if_pos hkn]; exact hsS.get Φs i v w1 w'
    · rw [if_neg hkn]; exact hst.get Φs i v w1 w'
  · by_cases hkn : k = n
    · subst hkn; rw [ho] at hSr; simp only [Option.bind_some] at hSr; rw [hSr] at hgo; cases hgo
    · rw [if_neg hkn]; exact Ext.refl w1
  · rw [if_pos (hall n (by omega))] at hE
    obtain ⟨w1, h1, h2⟩ := hE
    exact hQ u w1 w' h1 h2
open Classical in
/-- A REGION WHOSE LAST OPERATION TURNS MEMORY (S); the others turn none that was there. -/
theorem wp_region_store_text {P : Program} {l : List Oper} (n : Nat) (S : World → World → Prop) (Φs : List Fact) {id : Nat} {Q : Exit → Act → World → Prop} {w : World} (T : Array Value) (df : List Deferred)
    (hg : goodB l T.size = true) (hn : lastB l n = true) (ds : List Tmp) (hds : slotsW l = ds) (hSr : (l[n]?.bind (·.guard)) = none) (hst : AllStab Ext Φs) (hsS : AllStab S Φs) (hs : StepsOk P l (fun _ => Ext w) (fun k => if k = n then S else Ext) (facts Φs) T 0 l)
    (hQ : ∀ (u : Tmp → Value) w1 w', Ext w w1 → S w1 w' → EndFacts l (fun _ => []) (facts Φs) u w' ds → Q .normal { tmps := wrote T ds u, defers := df } w') : (Code.region id l.toArray false).wp P Q { tmps := T, defers := df } w := by
  obtain ⟨hl, hb⟩ := lastB_iff hn
  refine wp_region_core_text (fun _ => []) (fun _ => Ext w) (fun listed w' => if On listed n then ∃ w2, Ext w w2 ∧ S w2 w' else Ext w w') (fun k => if k = n then S else Ext) (facts Φs) T df hg (by unfold killB; simp) ds hds
    (fun k m hk hm hne hbit w1 w' hc hr => ?_) (fun k listed w1 w' hk hsz hoff hm hE hR => lastE hn k listed w1 w' hk hsz hoff hm hE hR) (fun k i _ _ _ _ _ v w1 w' => ?_) (fun k o w1 ho hgo => ?_) (fun _ _ => Ext.refl w) (by rw [if_neg On.not_replicate]; exact Ext.refl w) hs (fun u listed w' hall hE => ?_)
  · by_cases hkn : k = n
    · subst hkn
      rw [hb m (by omega)] at hbit
      cases hbit
    · rw [if_neg hkn] at hr
      exact hc.trans hr
  · by_cases hkn : k = n
    · rw [if_pos hkn]; exact hsS.get Φs i v w1 w'
    · rw [if_neg hkn]; exact hst.get Φs i v w1 w'
  · by_cases hkn : k = n
    · subst hkn; rw [ho] at hSr; simp only [Option.bind_some] at hSr; rw [hSr] at hgo; cases hgo
    · rw [if_neg hkn]; exact Ext.refl w1
  · rw [if_pos (hall n (by omega))] at hE
    obtain ⟨w1, h1, h2⟩ := hE
    exact hQ u w1 w' h1 h2
def midB (l : List Oper) (k : Nat) : Bool := ((List.range k).all fun m => ((masks l []).getD k 0).testBit m) && ((List.range l.length).all fun i => decide (i ≤ k) || ((masks l []).getD i 0).testBit k)
theorem midB_iff {l : List Oper} {k : Nat} (h : midB l k = true) : (∀ m, m < k → ((masks l []).getD k 0).testBit m = true) ∧ ∀ i, k < i → i < l.length → ((masks l []).getD i 0).testBit k = true := by
  unfold midB at h
  simp only [Bool.and_eq_true, List.all_eq_true, List.mem_range, Bool.or_eq_true, decide_eq_true_eq] at h
  exact ⟨h.1, fun i hi hl => (h.2 i hl).resolve_left (by omega)⟩
/-- A region one of whose operations (number k, bound behind those that stand ahead of it in the text, ahead of the others) turns memory; what it did is told by its own fact. -/
theorem wp_region_mid {P : Program} {l : List Oper} (k : Nat) (Φs : List Fact) {id : Nat} {Q : Exit → Act → World → Prop} {w : World} (hm : P.follows .mixedOrders = true) (T : Array Value) (df : List Deferred)
    (hg : goodB l T.size = true) (hk : midB l k = true) (ds : List Tmp) (hds : slotsW l = ds) (hst : AllStab Ext Φs) (hsT : AllStab (fun _ _ => True) (Φs.take k)) (hgk : (l[k]?.bind (·.guard)) = none)
    (hs : StepsOk P l (fun m => if m ≤ k then Ext w else fun _ => True) (fun n => if n = k then fun _ _ => True else Ext) (facts Φs) T 0 l)
    (hQ : ∀ (u : Tmp → Value) w', EndFacts l (fun _ => []) (facts Φs) u w' ds → Q .normal { tmps := wrote T ds u, defers := df } w') : (Code.region id l.toArray true).wp P Q { tmps := T, defers := df } w := by
  have hm1 := midB_iff hk
  refine wp_region_core (fun _ => []) (fun m => if m ≤ k then Ext w else fun _ => True) (fun _ _ => True) (fun n => if n = k then fun _ _ => True else Ext) (facts Φs) hm T df hg (by unfold killB; simp) ds hds
    (fun n m hn hm hne hbit w1 w' hc hr => ?_) (fun _ _ _ _ _ _ _ _ _ _ => trivial) (fun n i hn hi _ hine hbit v w1 w' => ?_) (fun n o w1 ho hgo => ?_) (fun n _ => ?_) trivial hs (fun u listed w' _ _ => hQ u w')
  · by_cases hmk : m ≤ k
    · rw [if_pos hmk] at hc ⊢
      by_cases hnk : n = k
      · subst hnk
        rw [hm1.1 m (by omega)] at hbit
        cases hbit
      · rw [if_neg hnk] at hr
        exact hc.trans hr
    · rw [if_neg hmk]
      trivial
  · by_cases hnk : n = k
    · rw [if_pos hnk]
      subst hnk
      by_cases hik : i < n
      · have := hsT.get _ i v w1 w'
        rw [show facts Φs i = (Φs.take n).getD i (fun _ _ => True) by simp [facts, List.getD_eq_getElem?_getD, hik]]
        exact this
      · rw [hm1.2 i (by omega) hi] at hbit
        cases hbit
    · rw [if_neg hnk]; exact hst.get Φs i v w1 w'
  · by_cases hnk : n = k
    · subst hnk; rw [ho] at hgk; simp only [Option.bind_some] at hgk; rw [hgk] at hgo; cases hgo
    · rw [if_neg hnk]; exact Ext.refl w1
  · by_cases hnk : n ≤ k
    · rw [if_pos hnk]; exact (Below.refl _ _).drew
    · rw [if_neg hnk]; trivial
/-- A region one of whose operations (number k, bound behind those that stand ahead of it in the text, ahead of the others) turns memory; what it did is told by its own fact. -/
theorem wp_region_mid_text {P : Program} {l : List Oper} (k : Nat) (Φs : List Fact) {id : Nat} {Q : Exit → Act → World → Prop} {w : World} (T : Array Value) (df : List Deferred)
    (hg : goodB l T.size = true) (hk : midB l k = true) (ds : List Tmp) (hds : slotsW l = ds) (hst : AllStab Ext Φs) (hsT : AllStab (fun _ _ => True) (Φs.take k)) (hgk : (l[k]?.bind (·.guard)) = none)
    (hs : StepsOk P l (fun m => if m ≤ k then Ext w else fun _ => True) (fun n => if n = k then fun _ _ => True else Ext) (facts Φs) T 0 l)
    (hQ : ∀ (u : Tmp → Value) w', EndFacts l (fun _ => []) (facts Φs) u w' ds → Q .normal { tmps := wrote T ds u, defers := df } w') : (Code.region id l.toArray false).wp P Q { tmps := T, defers := df } w := by
  have hm1 := midB_iff hk
  refine wp_region_core_text (fun _ => []) (fun m => if m ≤ k then Ext w else fun _ => True) (fun _ _ => True) (fun n => if n = k then fun _ _ => True else Ext) (facts Φs) T df hg (by unfold killB; simp) ds hds
    (fun n m hn hm hne hbit w1 w' hc hr => ?_) (fun _ _ _ _ _ _ _ _ _ _ => trivial) (fun n i hn hi _ hine hbit v w1 w' => ?_) (fun n o w1 ho hgo => ?_) (fun n _ => ?_) trivial hs (fun u listed w' _ _ => hQ u w')
  · by_cases hmk : m ≤ k
    · rw [if_pos hmk] at hc ⊢
      by_cases hnk : n = k
      · subst hnk
        rw [hm1.1 m (by omega)] at hbit
        cases hbit
      · rw [if_neg hnk] at hr
        exact hc.trans hr
    · rw [if_neg hmk]
      trivial
  · by_cases hnk : n = k
    · rw [if_pos hnk]
      subst hnk
      by_cases hik : i < n
      · have := hsT.get _ i v w1 w'
        rw [show facts Φs i = (Φs.take n).getD i (fun _ _ => True) by simp [facts, List.getD_eq_getElem?_getD, hik]]
        exact this
      · rw [hm1.2 i (by omega) hi] at hbit
        cases hbit
    · rw [if_neg hnk]; exact hst.get Φs i v w1 w'
  · by_cases hnk : n = k
    · subst hnk; rw [ho] at hgk; simp only [Option.bind_some] at hgk; rw [hgk] at hgo; cases hgo
    · rw [if_neg hnk]; exact Ext.refl w1
  · by_cases hnk : n ≤ k
    · rw [if_pos hnk]; exact Ext.refl w
    · rw [if_neg hnk]; trivial
/-- The same where some of the operations (ks) turn memory in another way (Rk). -/
theorem wp_region_kill {P : Program} {l : List Oper} (ks : List Nat) (kill : Nat → List Nat) (C : World → Prop) (Rk : World → World → Prop) (Φs : List Fact) {id : Nat} {Q : Exit → Act → World → Prop} {w : World} (hm : P.follows .mixedOrders = true) (T : Array Value) (df : List Deferred)
    (hg : goodB l T.size = true) (hkl : killB l kill = true) (ds : List Tmp) (hds : slotsW l = ds) (hC : ∀ w w', C w → Ext w w' → C w') (hCk : ∀ w w', C w → Rk w w' → C w') (hRk : ∀ w, Rk w w) (h0 : C w.drew) (hst : AllStab Ext Φs)
    (hsk : ∀ n i, n ∈ ks → i < l.length → i ∉ kill n → i ≠ n → ((masks l []).getD i 0).testBit n = false → Stab Rk (facts Φs i))
    (hs : StepsOk P l (fun _ => C) (fun n => if n ∈ ks then Rk else Ext) (facts Φs) T 0 l)
    (hQ : ∀ (u : Tmp → Value) w', C w' → EndFacts l kill (facts Φs) u w' ds → Q .normal { tmps := wrote T ds u, defers := df } w') : (Code.region id l.toArray true).wp P Q { tmps := T, defers := df } w := by
  refine wp_region_facts kill C (fun n => if n ∈ ks then Rk else Ext) (facts Φs) hm T df hg hkl ds hds (fun n w w' h k => ?_) (fun n i _ hi hk hne hb => ?_) (fun n _ w _ _ => ?_) h0 hs hQ
  · by_cases hn : n ∈ ks
    · rw [if_pos hn] at k; exact hCk _ _ h k
    · rw [if_neg hn] at k; exact hC _ _ h k
  · by_cases hn : n ∈ ks
    · rw [if_pos hn]; exact hsk n i hn hi hk hne hb
    · rw [if_neg hn]; exact hst.get Φs i
  · by_cases hn : n ∈ ks
    · rw [if_pos hn]; exact hRk w
    · rw [if_neg hn]; exact Ext.refl w
end Go.Proofs.Ytfjmbcjcgdfkfaa
