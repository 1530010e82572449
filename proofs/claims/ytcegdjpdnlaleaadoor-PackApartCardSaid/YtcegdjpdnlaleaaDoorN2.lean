/- Part 2 of what stands behind these statements: laws and walks of the functions that are reached. Conditions: those that each theorem names. -/
import Derived.Test.YtcegdjpdnlaleaaDoorN1
set_option linter.unusedVariables false
set_option linter.unusedSimpArgs false
namespace Go.Proofs.YtcegdjpdnlaleaaDoor
open Go.RowKit
inductive Fr where
  | seq (y : Code)
  | block (id : Nat)
  | scope
  | fin (K : Slots → World → Prop)
def postK (P : Program) (n : Nat) (Q : PostF) : List Fr → PostF
  | [] => fun e ρ w => match e with
    | .normal => Q .ret ρ w
    | e => Q e ρ w
  | .seq y :: k => thenF (wpF P n y (postK P n Q k)) (postK P n Q k)
  | .block id :: k => inBlockF id (postK P n Q k)
  | .scope :: k => noGotoF (postK P n Q k)
  | .fin K :: k => thenF K (postK P n Q k)
inductive Cmd where
  | code (c : Code)
  | ops (a : Array Oper) (l : List Oper)
  | pop
  | mix (l : List Oper) (cs pf fl : List Nat) (I : World → Prop) (r : List Nat)
inductive MK where
  | pure
  | here
  | float
inductive Tg where
  | op (a : Array Oper) (o : Oper) (r : List Oper) (k : List Fr) (ρ : Slots)
  | code (c : Code) (k : List Fr) (ρ : Slots)
  | fin (K : Slots → World → Prop) (k : List Fr) (ρ : Slots)
  | chain (l : List Oper) (cs pf fl : List Nat) (I : World → Prop) (i : Nat) (o : Oper) (r : List Nat) (k : List Fr) (ρ : Slots)
  | still (κ : MK) (l : List Oper) (cs pf fl : List Nat) (I : World → Prop) (i : Nat) (o : Oper) (r : List Nat) (k : List Fr) (ρ : Slots)
  | ret (ρ : Slots)
  | bad
def room (n : Nat) : Option Tmp → Bool
  | some d => Nat.blt d n
  | none => true
def eqB : Bool → Bool → Bool
  | true, true => true
  | false, false => true
  | _, _ => false
def adv (n : Nat) (u : Bool) : Nat → Cmd → List Fr → Slots → Tg
  | 0, _, _, _ => .bad
  | f + 1, .code c, k, ρ => match c with
    | .seq x y => adv n u f (.code x) (.seq y :: k) ρ
    | .block id x => adv n u f (.code x) (.block id :: k) ρ
    | .scope x => adv n u f (.code x) (.scope :: k) ρ
    | .skip => adv n u f .pop k ρ
    | .ret => .ret ρ
    | .exit id => match k with
      | [] => .bad
      | .block i :: k => cond (Nat.beq id i) (adv n u f .pop k ρ) (adv n u f (.code (.exit id)) k ρ)
      | _ :: k => adv n u f (.code (.exit id)) k ρ
    | .region _ a d => cond d (.code c k ρ) (adv n u f (.ops a a.toList) k ρ)
    | c => .code c k ρ
  | f + 1, .pop, k, ρ => match k with
    | [] => .ret ρ
    | .seq y :: k => adv n u f (.code y) k ρ
    | .fin K :: k => .fin K k ρ
    | _ :: k => adv n u f .pop k ρ
  | f + 1, .ops a l, k, ρ => match l with
    | [] => adv n u f .pop k ρ
    | o :: r => cond (room n o.dst) (match o.guard with
      | some (g, want) => cond u (match (a[g]?).bind (·.dst) with
        | some d => match ρ d with
          | .bool b => match eqB b want with
            | true => match o.op with
              | .move x => adv n u f (.ops a r) k (updO ρ o.dst (evalR ρ x))
              | .assign x => adv n u f (.ops a r) k (updO ρ o.dst (evalR ρ x))
              | _ => .op a { o with guard := none } r k ρ
            | false => adv n u f (.ops a r) k (updO ρ o.dst undef)
          | _ => .op a o r k ρ
        | none => .op a o r k ρ) (.op a o r k ρ)
      | none => match o.op with
        | .move x => adv n u f (.ops a r) k (updO ρ o.dst (evalR ρ x))
        | .assign x => adv n u f (.ops a r) k (updO ρ o.dst (evalR ρ x))
        | _ => .op a o r k ρ) .bad
  | f + 1, .mix l cs pf fl I r, k, ρ => match r with
    | [] => adv n u f .pop k ρ
    | i :: r => match l[i]? with
      | none => .bad
      | some o => cond (wantedR l o ρ) (cond (cs.contains i) (.chain l cs pf fl I i o r k ρ) (match o.op with
        | .move x => adv n u f (.mix l cs pf fl I r) k (updO ρ o.dst (evalR ρ x))
        | .assign x => adv n u f (.mix l cs pf fl I r) k (updO ρ o.dst (evalR ρ x))
        | _ => .still (cond (pf.contains i) .pure (cond (fl.contains i) .float .here)) l cs pf fl I i o r k ρ))
        (adv n u f (.mix l cs pf fl I r) k (updO ρ o.dst undef))
def JK (P : Program) (n : Nat) (Q : PostF) (k : List Fr) (ch : List PanicEntry) (w : World) : Prop := ∀ ρ, postK P n Q k (.panic ch) ρ w
def MixM (P : Program) (n : Nat) (Q : PostF) (l : List Oper) (cs pf fl : List Nat) (I : World → Prop) (r : List Nat) (k : List Fr) (ρ : Slots) (w : World) : Prop :=
  mixF P l cs pf fl (JK P n Q k) (fun ρ w => postK P n Q k .normal ρ w) r I ρ w
def GoM (P : Program) (n : Nat) (_ : Bool) (Q : PostF) (w : World) : Tg → Prop
  | .op a o r k ρ => room n o.dst = true → opsF P a n (postK P n Q k) (o :: r) ρ w
  | .code c k ρ => wpF P n c (postK P n Q k) ρ w
  | .fin K _ ρ => K ρ w
  | .chain l cs pf fl I i o r k ρ => l[i]? = some o → wantedR l o ρ = true → i ∈ cs → MixM P n Q l cs pf fl I (i :: r) k ρ w
  | .still κ l cs pf fl I i o r k ρ => l[i]? = some o → wantedR l o ρ = true → i ∉ cs → (match κ with | .pure => pureB l pf i = true | .here => pureB l pf i = false ∧ i ∉ fl | .float => pureB l pf i = false ∧ i ∈ fl) → MixM P n Q l cs pf fl I (i :: r) k ρ w
  | .ret ρ => Q .ret ρ w
  | .bad => False
def CmdOk (P : Program) (n : Nat) (Q : PostF) (w : World) (k : List Fr) (ρ : Slots) : Cmd → Prop
  | .code (.exit i) => postK P n Q k (.exit i) ρ w
  | .code c => wpF P n c (postK P n Q k) ρ w
  | .ops a l => opsF P a n (postK P n Q k) l ρ w
  | .pop => postK P n Q k .normal ρ w
  | .mix l cs pf fl I r => MixM P n Q l cs pf fl I r k ρ w
section
variable {P : Program} {n : Nat} {u : Bool} {Q : PostF} {ρ : Slots} {w : World} {k : List Fr}
theorem room_d : ∀ {d : Option Tmp}, room n d = true → (match d with | some d => Nat.blt d n | none => true) = true
  | some _, h => h
  | none, _ => rfl
theorem CmdOk.wp {c : Code} (h : CmdOk P n Q w k ρ (.code c)) : wpF P n c (postK P n Q k) ρ w := by
  cases c with
  | exit i => exact wpF_exit h
  | _ => exact h
theorem guard_yes {Q : PostF} {a : Array Oper} {dst : Option Tmp} {op : Op} {ty : TypeId} {pos : String} {af : Array Edge} {r : List Oper} {g : Nat} {want : Bool} {d : Tmp} (hg : (a[g]?).bind (·.dst) = some d) (hv : ρ d = .bool want)
    (h : opsF P a n Q (⟨dst, op, ty, pos, af, none⟩ :: r) ρ w) : opsF P a n Q (⟨dst, op, ty, pos, af, some (g, want)⟩ :: r) ρ w := fun c hc => by
  have h1 := h c hc
  have hw : Region.wanted ⟨dst, op, ty, pos, af, some (g, want)⟩ (yielded a c.tmps) = true := by
    have := getD_bool ((hc.get d).trans hv)
    simp only [Region.wanted, yielded, hg]
    simp [this]
  unfold wpList at h1 ⊢
  rw [if_pos hw]
  exact h1
theorem adv_ok0 : ∀ (f : Nat) (u : Bool) (c : Cmd) (k : List Fr) (ρ : Slots), GoM P n u Q w (adv n u f c k ρ) → CmdOk P n Q w k ρ c
  | 0, u, c, k, ρ, h => h.elim
  | f + 1, u, .code c, k, ρ, h => by
    match c, h with
    | .seq x y, h => exact wpF_seq (adv_ok0 f u (.code x) (.seq y :: k) ρ h).wp
    | .block id x, h => exact wpF_block (adv_ok0 f u (.code x) (.block id :: k) ρ h).wp
    | .scope x, h => exact wpF_scope (adv_ok0 f u (.code x) (.scope :: k) ρ h).wp
    | .skip, h => exact wpF_skip (adv_ok0 f u .pop k ρ h)
    | .ret, h =>
      have : ∀ k, postK P n Q k .ret ρ w = Q .ret ρ w := fun k => by
        induction k with
        | nil => rfl
        | cons x k ih => cases x <;> exact ih
      exact wpF_ret (by rw [this]; exact h)
    | .exit id, h =>
      match k, h with
      | .block i :: k, h =>
        cases hb : Nat.beq id i with
        | true =>
          obtain rfl := Nat.eq_of_beq_eq_true hb
          unfold adv at h
          simp only [hb, cond_true] at h
          exact inBlockF_hit (adv_ok0 f u .pop k ρ h)
        | false =>
          unfold adv at h
          simp only [hb, cond_false] at h
          exact inBlockF_miss hb (adv_ok0 f u (.code (.exit id)) k ρ h)
      | .seq y :: k, h => exact adv_ok0 f u (.code (.exit id)) k ρ h
      | .scope :: k, h => exact adv_ok0 f u (.code (.exit id)) k ρ h
      | .fin K :: k, h => exact adv_ok0 f u (.code (.exit id)) k ρ h
    | .region id a d, h =>
      cases d with
      | true => exact h
      | false => exact wt (l := a.toList) (adv_ok0 f u (.ops a a.toList) k ρ h)
    | .cond .., h => exact h
    | .loop .., h => exact h
    | .rangeFunc .., h => exact h
    | .label .., h => exact h
    | .goto .., h => exact h
    | .refuse .., h => exact h
  | f + 1, u, .pop, k, ρ, h => by
    match k, h with
    | [], h => exact h
    | .seq y :: k, h => exact (adv_ok0 f u (.code y) k ρ h).wp
    | .fin K :: k, h => exact h
    | .block i :: k, h => exact adv_ok0 f u .pop k ρ h
    | .scope :: k, h => exact adv_ok0 f u .pop k ρ h
  | f + 1, u, .ops a l, k, ρ, h => by
    match l, h with
    | [], h => exact oZ (adv_ok0 f u .pop k ρ h)
    | o :: r, h =>
      cases hr : room n o.dst with
      | false => unfold adv at h; simp only [hr, cond_false] at h; exact h.elim
      | true =>
        unfold adv at h
        simp only [hr, cond_true] at h
        obtain ⟨dst, op, ty, pos, af, gd⟩ := o
        cases gd with
        | some g =>
          obtain ⟨g, want⟩ := g
          cases u with
          | false => exact h hr
          | true =>
            cases hg : (a[g]?).bind (·.dst) with
            | none => simp only [hg, cond_true] at h; exact h hr
            | some d =>
              simp only [hg, cond_true] at h
              cases hv : ρ d with
              | bool b =>
                simp only [hv] at h
                cases hb : eqB b want with
                | true =>
                  obtain rfl : b = want := by cases b <;> cases want <;> first | rfl | cases hb
                  simp only [hb] at h
                  refine guard_yes hg hv ?_
                  cases op with
                  | move x => exact oS (room_d hr) (Yk.move rfl (adv_ok0 f true (.ops a r) k _ h))
                  | assign x => exact oS (room_d hr) (Yk.assign rfl (adv_ok0 f true (.ops a r) k _ h))
                  | _ => exact h hr
                | false =>
                  simp only [hb] at h
                  exact oN rfl (room_d hr) hg hv (by cases b <;> cases want <;> first | rfl | cases hb) (adv_ok0 f true (.ops a r) k _ h)
              | _ => simp only [hv] at h; exact h hr
        | none =>
          cases op with
          | move x => exact oS (room_d hr) (Yk.move rfl (adv_ok0 f u (.ops a r) k _ h))
          | assign x => exact oS (room_d hr) (Yk.assign rfl (adv_ok0 f u (.ops a r) k _ h))
          | _ => exact h hr
  | f + 1, u, .mix l cs pf fl I r, k, ρ, h => by
    match r, h with
    | [], h => exact adv_ok0 f u .pop k ρ h
    | i :: r, h =>
      cases ho : l[i]? with
      | none => unfold adv at h; simp only [ho] at h; exact h.elim
      | some o =>
        unfold adv at h
        simp only [ho] at h
        cases hw : wantedR l o ρ with
        | false =>
          simp only [hw, cond_false] at h
          show mixF _ _ _ _ _ _ _ _ _ _ _
          unfold mixF
          rw [ho]
          simp only
          rw [if_pos hw]
          exact adv_ok0 f u (.mix l cs pf fl I r) k _ h
        | true =>
          simp only [hw, cond_true] at h
          cases hc : cs.contains i with
          | true => simp only [hc, cond_true] at h; exact h ho hw (List.contains_iff_mem.1 hc)
          | false =>
            simp only [hc, cond_false] at h
            have hc' : i ∉ cs := fun x => by rw [List.contains_iff_mem.2 x] at hc; cases hc
            have mv : ∀ (v : Value), (∀ w', Yk P (fun x w'' => x = v ∧ w'' = w') ((execOp (evalR ρ) o).run P w')) → GoM P n u Q w (adv n u f (.mix l cs pf fl I r) k (updO ρ o.dst v)) → MixM P n Q l cs pf fl I (i :: r) k ρ w := fun v hv h => by
              show mixF _ _ _ _ _ _ _ _ _ _ _
              unfold mixF
              rw [ho]
              simp only
              rw [if_neg (by rw [hw]; simp), if_neg hc']
              exact ⟨v, fun w' _ => hv w', adv_ok0 f u (.mix l cs pf fl I r) k _ h⟩
            have st : (match o.op with | .move _ | .assign _ => true | _ => false) = false → GoM P n u Q w (.still (cond (pf.contains i) .pure (cond (fl.contains i) .float .here)) l cs pf fl I i o r k ρ) → MixM P n Q l cs pf fl I (i :: r) k ρ w := fun hm h => by
              refine h ho hw hc' ?_
              cases hp : pf.contains i with
              | true => show pureB l pf i = true; unfold pureB; rw [hp]; rfl
              | false =>
                have hb : pureB l pf i = false := by unfold pureB; rw [hp, ho]; exact hm
                cases hf : fl.contains i with
                | true => exact ⟨hb, List.contains_iff_mem.1 hf⟩
                | false => exact ⟨hb, fun x => by rw [List.contains_iff_mem.2 x] at hf; cases hf⟩
            obtain ⟨dst, op, ty, pos, af, gd⟩ := o
            cases op with
            | move x => exact mv _ (fun w' => Yk.move rfl ⟨rfl, rfl⟩) h
            | assign x => exact mv _ (fun w' => Yk.assign rfl ⟨rfl, rfl⟩) h
            | _ => exact st rfl h
theorem adv_ok {u : Bool} (f : Nat) (c : Cmd) (k : List Fr) (ρ : Slots) (h : GoM P n u Q w (adv n u f c k ρ)) : CmdOk P n Q w k ρ c := adv_ok0 f u c k ρ h
theorem postK_panic {ch : List PanicEntry} (h : Q (.panic ch) ρ w) : ∀ k, postK P n Q k (.panic ch) ρ w
  | [] => h
  | x :: k => by cases x <;> exact postK_panic h k
theorem gM {id : Nat} {l : List Oper} (ord cs pf fl : List Nat) {I : World → Prop} (hm : P.follows .mixedOrders = true) (hg : goodB l n = true) (hb : mixB l cs pf fl ord = true) (hI : I w.drew)
    (h : GoM P n u Q w.drew (adv n u 1000 (.mix l cs pf fl I ord) k ρ)) : GoM P n u Q w (.code (.region id l.toArray true) k ρ) := fun a ha => by
  have h0 : MInv P l cs pf fl ord n (JK P n Q k) (fun ρ w => postK P n Q k .normal ρ w) [] ord I ρ (Array.replicate l.length false) a w.drew :=
    ⟨by simp, fun i o _ h => absurd h On.not_replicate, ha.size, ha.defers, rfl, fun i _ => On.not_replicate, (fun i hi => by cases hi), fun t _ => ha.get t, hI, adv_ok _ _ _ _ h⟩
  obtain ⟨u', r', ρ', hp, hr⟩ := h0.place hb
  exact wp_region_any hm (mix_any hg hb _ _ _ _ u' r' I ρ' (by simp) hp hr)
theorem gM0 {id : Nat} {l : List Oper} (ord cs pf : List Nat) (h : ∀ w1, Ext w w1 → GoM P n u Q w1 (adv n u 1000 (.mix l cs pf [] (fun _ => True) ord) k ρ)) (hm : P.follows .mixedOrders = true := by kernel_rfl) (hg : goodB l n = true := by kernel_rfl) (hb : mixB l cs pf [] ord = true := by kernel_rfl) : GoM P n u Q w (.code (.region id l.toArray true) k ρ) :=
  gM ord cs pf [] hm hg hb trivial (h _ (Below.refl _ _).drew)
theorem gM1 {id : Nat} {l : List Oper} (ord cs pf fl : List Nat) (h : ∀ w1, Ext w w1 → ∃ I : World → Prop, I w1 ∧ GoM P n u Q w1 (adv n u 1000 (.mix l cs pf fl I ord) k ρ)) (hm : P.follows .mixedOrders = true := by kernel_rfl) (hg : goodB l n = true := by kernel_rfl) (hb : mixB l cs pf fl ord = true := by kernel_rfl) : GoM P n u Q w (.code (.region id l.toArray true) k ρ) := by
  obtain ⟨I, hI, h⟩ := h _ (Below.refl _ _).drew
  exact gM ord cs pf fl hm hg hb hI h
theorem m2 {l : List Oper} {ord cs pf fl : List Nat} {A B : World → Prop} (a : A w) (b : B w) (h : GoM P n u Q w (adv n u 1000 (.mix l cs pf fl (fun w => A w ∧ B w ∧ True) ord) k ρ)) : ∃ I : World → Prop, I w ∧ GoM P n u Q w (adv n u 1000 (.mix l cs pf fl I ord) k ρ) := ⟨(fun w => A w ∧ B w ∧ True), ⟨a, b, trivial⟩, h⟩
theorem mb2 {l : List Oper} {ord cs pf fl : List Nat} {g0 : Nat} {o0 : Obj} (b0 : w.heap[g0]? = some o0) {g1 : Nat} {o1 : Obj} (b1 : w.heap[g1]? = some o1) (h : GoM P n u Q w (adv n u 1000 (.mix l cs pf fl (fun w => w.heap[g0]? = some o0 ∧ w.heap[g1]? = some o1 ∧ True) ord) k ρ)) : ∃ I : World → Prop, I w ∧ GoM P n u Q w (adv n u 1000 (.mix l cs pf fl I ord) k ρ) := ⟨(fun w => w.heap[g0]? = some o0 ∧ w.heap[g1]? = some o1 ∧ True), ⟨b0, b1, trivial⟩, h⟩
theorem meb0 {l : List Oper} {ord cs pf fl : List Nat} {x0 : World} (e0 : Ext x0 w) (h : GoM P n u Q w (adv n u 1000 (.mix l cs pf fl (fun w => Ext x0 w ∧ True) ord) k ρ)) : ∃ I : World → Prop, I w ∧ GoM P n u Q w (adv n u 1000 (.mix l cs pf fl I ord) k ρ) := ⟨(fun w => Ext x0 w ∧ True), ⟨e0, trivial⟩, h⟩
section
variable {l : List Oper} {cs pf fl : List Nat} {I : World → Prop} {i : Nat} {o : Oper} {r : List Nat} {κ : MK}
theorem mixF_chain {J : List PanicEntry → World → Prop} {K : Slots → World → Prop} (ho : l[i]? = some o) (hw : wantedR l o ρ = true) (hc : i ∈ cs)
    (h : Yp P (fun v w' => ∃ I' : World → Prop, I' w' ∧ ((∀ x, I' x → I x) ∨ clrB l fl r i = true) ∧ mixF P l cs pf fl J K r I' (updO ρ o.dst v) w') J ((execOp (evalR ρ) o).run P w)) : mixF P l cs pf fl J K (i :: r) I ρ w := by
  unfold mixF
  rw [ho]
  simp only
  rw [if_neg (by rw [hw]; simp), if_pos hc]
  exact h
theorem mixF_still {J : List PanicEntry → World → Prop} {K : Slots → World → Prop} (ho : l[i]? = some o) (hw : wantedR l o ρ = true) (hc : i ∉ cs)
    (v : Value) (hv : ∀ w', StillAt l pf fl I w i w' → Yk P (fun x w'' => x = v ∧ w'' = w') ((execOp (evalR ρ) o).run P w')) (h : mixF P l cs pf fl J K r I (updO ρ o.dst v) w) : mixF P l cs pf fl J K (i :: r) I ρ w := by
  unfold mixF
  rw [ho]
  simp only
  rw [if_neg (by rw [hw]; simp), if_neg hc]
  exact ⟨v, hv, h⟩
theorem zz {x : Value} {w : World} : x = x ∧ w = w := ⟨rfl, rfl⟩
theorem yC (h : Yk P (fun v w' => GoM P n u Q w' (adv n u 1000 (.mix l cs pf [] (fun _ => True) r) k (updO ρ o.dst v))) ((execOp (evalR ρ) o).run P w)) : GoM P n u Q w (.chain l cs pf [] I i o r k ρ) := fun ho hw hc =>
  mixF_chain ho hw hc (.ofK (Yk.mono h fun _ _ h => ⟨fun _ => True, trivial, .inr rfl, adv_ok _ _ _ _ h⟩))
theorem yCp {fn : Func} {R : Ending → World → Prop} (h : Yp P (fun v w' => GoM P n u (postP P fn R) w' (adv n u 1000 (.mix l cs pf [] (fun _ => True) r) k (updO ρ o.dst v))) (fun ch w' => postP P fn R (.panic ch) ρ w') ((execOp (evalR ρ) o).run P w)) : GoM P n u (postP P fn R) w (.chain l cs pf [] I i o r k ρ) := fun ho hw hc =>
  mixF_chain ho hw hc (Yp.mono' h (fun _ _ h => ⟨fun _ => True, trivial, .inr rfl, adv_ok _ _ _ _ h⟩) fun _ _ h ρ' => postK_panic (postP_panic (ρ := ρ') h) _)
theorem yI (h : Yk P (fun v w' => I w' ∧ GoM P n u Q w' (adv n u 1000 (.mix l cs pf fl I r) k (updO ρ o.dst v))) ((execOp (evalR ρ) o).run P w)) : GoM P n u Q w (.chain l cs pf fl I i o r k ρ) := fun ho hw hc =>
  mixF_chain ho hw hc (.ofK (Yk.mono h fun _ _ h => ⟨I, h.1, .inl fun _ h => h, adv_ok _ _ _ _ h.2⟩))
theorem yE {w1 : World} (h : Yk P (fun v w' => Ext w1 w' ∧ GoM P n u Q w' (adv n u 1000 (.mix l cs pf fl (fun x => Ext w' x ∧ True) r) k (updO ρ o.dst v))) ((execOp (evalR ρ) o).run P w)) : GoM P n u Q w (.chain l cs pf fl (fun x => Ext w1 x ∧ True) i o r k ρ) := fun ho hw hc =>
  mixF_chain ho hw hc (.ofK (Yk.mono h fun _ w' h => ⟨fun x => Ext w' x ∧ True, ⟨Ext.refl _, trivial⟩, .inl fun _ e => ⟨h.1.trans e.1, trivial⟩, adv_ok _ _ _ _ h.2⟩))
theorem yD (hc : clrB l fl r i = true) (h : Yk P (fun v w' => GoM P n u Q w' (adv n u 1000 (.mix l cs pf fl (fun _ => True) r) k (updO ρ o.dst v))) ((execOp (evalR ρ) o).run P w)) : GoM P n u Q w (.chain l cs pf fl I i o r k ρ) := fun ho hw hi =>
  mixF_chain ho hw hi (.ofK (Yk.mono h fun _ _ h => ⟨fun _ => True, trivial, .inr hc, adv_ok _ _ _ _ h⟩))
theorem yDp {fn : Func} {R : Ending → World → Prop} (hc : clrB l fl r i = true) (h : Yp P (fun v w' => GoM P n u (postP P fn R) w' (adv n u 1000 (.mix l cs pf fl (fun _ => True) r) k (updO ρ o.dst v))) (fun ch w' => postP P fn R (.panic ch) ρ w') ((execOp (evalR ρ) o).run P w)) : GoM P n u (postP P fn R) w (.chain l cs pf fl I i o r k ρ) := fun ho hw hi =>
  mixF_chain ho hw hi (Yp.mono' h (fun _ _ h => ⟨fun _ => True, trivial, .inr hc, adv_ok _ _ _ _ h⟩) fun _ _ h ρ' => postK_panic (postP_panic (ρ := ρ') h) _)
theorem ys {v : Value} (h : Yk P (fun x w'' => x = v ∧ w'' = w) ((execOp (evalR ρ) o).run P w)) (hn : GoM P n u Q w (adv n u 1000 (.mix l cs pf fl I r) k (updO ρ o.dst v))) : GoM P n u Q w (.still .here l cs pf fl I i o r k ρ) := fun ho hw hc hf =>
  mixF_still ho hw hc v (fun w' hw' => by
    rcases hw' with hp | hw'
    · rw [hf.1] at hp; cases hp
    · rw [if_neg hf.2] at hw'; subst hw'; exact h) (adv_ok _ _ _ _ hn)
theorem yp {v : Value} (h : ∀ {w' : World}, Yk P (fun x w'' => x = v ∧ w'' = w') ((execOp (evalR ρ) o).run P w')) (hn : GoM P n u Q w (adv n u 1000 (.mix l cs pf fl I r) k (updO ρ o.dst v))) : GoM P n u Q w (.still κ l cs pf fl I i o r k ρ) := fun ho hw hc _ =>
  mixF_still ho hw hc v (fun _ _ => h) (adv_ok _ _ _ _ hn)
theorem yf {v : Value} (h : ∀ w', I w' → Yk P (fun x w'' => x = v ∧ w'' = w') ((execOp (evalR ρ) o).run P w')) (hn : GoM P n u Q w (adv n u 1000 (.mix l cs pf fl I r) k (updO ρ o.dst v))) : GoM P n u Q w (.still .float l cs pf fl I i o r k ρ) := fun ho hw hc hf =>
  mixF_still ho hw hc v (fun w' hw' => by
    rcases hw' with hp | hw'
    · rw [hf.1] at hp; cases hp
    · rw [if_pos hf.2] at hw'; exact h w' hw') (adv_ok _ _ _ _ hn)
theorem yA {dst : Option Tmp} {t : TypeId} {x y : Operand} {ty : TypeId} {pos : String} {af : Array Edge} {gd : Option (Nat × Bool)} (h : Yk P (fun v _ => GoM P n u Q w (adv n u 1000 (.mix l cs pf fl I r) k (updO ρ dst v))) ((execOp (evalR ρ) ⟨dst, .indexAddr t x y, ty, pos, af, gd⟩).run P w)) : GoM P n u Q w (.still κ l cs pf fl I i ⟨dst, .indexAddr t x y, ty, pos, af, gd⟩ r k ρ) := fun ho hw hc _ => by
  obtain ⟨v, hn, hv⟩ := steady_op (.indexAt _ _ _) h
  exact mixF_still ho hw hc v (fun w' _ => hv w') (adv_ok _ _ _ _ hn)
end
theorem gS {a : Array Oper} {dst : Option Tmp} {op : Op} {ty : TypeId} {pos : String} {af : Array Edge} {r : List Oper}
    (h : Yk P (fun v w' => GoM P n u Q w' (adv n u 1000 (.ops a r) k (updO ρ dst v))) ((execOp (evalR ρ) ⟨dst, op, ty, pos, af, none⟩).run P w)) : GoM P n u Q w (.op a ⟨dst, op, ty, pos, af, none⟩ r k ρ) := fun hr =>
  oS (room_d hr) (Yk.mono h fun _ _ h => adv_ok _ _ _ _ h)
theorem gP {a : Array Oper} {dst : Option Tmp} {op : Op} {ty : TypeId} {pos : String} {af : Array Edge} {r : List Oper}
    (h : Yp P (fun v w' => GoM P n u Q w' (adv n u 1000 (.ops a r) k (updO ρ dst v))) (fun ch w' => Q (.panic ch) ρ w') ((execOp (evalR ρ) ⟨dst, op, ty, pos, af, none⟩).run P w)) : GoM P n u Q w (.op a ⟨dst, op, ty, pos, af, none⟩ r k ρ) := fun hr => by
  refine oP (room_d hr) ?_
  revert h
  generalize (execOp (evalR ρ) ⟨dst, op, ty, pos, af, none⟩).run P w = x
  intro h
  match x, h with
  | .ok (.value v) w', h => exact adv_ok _ _ _ _ h
  | .ok .skip w', h => exact adv_ok _ _ _ _ h
  | .halt (.panic v) w', h => exact postK_panic h _
  | .ok (.enter f args) w', h =>
    refine Calls.mono h ?_
    intro e w'' hx
    match e, hx with
    | .returned v, hx => exact adv_ok _ _ _ _ hx
    | .panicked ch, hx => exact postK_panic hx _
theorem gY {a : Array Oper} {dst : Option Tmp} {op : Op} {ty : TypeId} {pos : String} {af : Array Edge} {r : List Oper} {g : Nat} {want : Bool} {d : Tmp} (hg : (a[g]?).bind (·.dst) = some d) (hv : ρ d = .bool want)
    (h : GoM P n u Q w (adv n u 1000 (.ops a (⟨dst, op, ty, pos, af, none⟩ :: r)) k ρ)) : GoM P n u Q w (.op a ⟨dst, op, ty, pos, af, some (g, want)⟩ r k ρ) := fun _ => guard_yes hg hv (adv_ok _ _ _ _ h)
theorem gN {a : Array Oper} {o : Oper} {r : List Oper} {g : Nat} {want b : Bool} {d : Tmp} (hgd : o.guard = some (g, want)) (hg : (a[g]?).bind (·.dst) = some d) (hv : ρ d = .bool b) (hb : (b == want) = false)
    (h : GoM P n u Q w (adv n u 1000 (.ops a r) k (updO ρ o.dst undef))) : GoM P n u Q w (.op a o r k ρ) := fun hr => oN hgd (room_d hr) hg hv hb (adv_ok _ _ _ _ h)
theorem kB {f : Nat} {c : Cmd} {d : Option Tmp} {b b' : Bool} (e : b = b') (h : GoM P n u Q w (adv n u f c k (updO ρ d (.bool b')))) : GoM P n u Q w (adv n u f c k (updO ρ d (.bool b))) := e ▸ h
theorem kT {f : Nat} {c : Cmd} {d : Option Tmp} {p : Prop} [Decidable p] (e : p) (h : GoM P n u Q w (adv n u f c k (updO ρ d (.bool true)))) : GoM P n u Q w (adv n u f c k (updO ρ d (.bool (decide p)))) := kB (decide_eq_true e) h
theorem kF {f : Nat} {c : Cmd} {d : Option Tmp} {p : Prop} [Decidable p] (e : ¬ p) (h : GoM P n u Q w (adv n u f c k (updO ρ d (.bool false)))) : GoM P n u Q w (adv n u f c k (updO ρ d (.bool (decide p)))) := kB (decide_eq_false e) h
theorem gZ {a : Array Oper} {l : List Oper} (h : GoM P n true Q w (adv n true 1000 (.ops a l) k ρ)) : opsF P a n (postK P n Q k) l ρ w := adv_ok _ _ _ _ h
theorem gX (h : GoM P n true Q w (adv n true 1000 .pop k ρ)) : postK P n Q k .normal ρ w := adv_ok _ _ _ _ h
theorem gXm (h : GoM P n false Q w (adv n false 1000 .pop k ρ)) : postK P n Q k .normal ρ w := adv_ok _ _ _ _ h
theorem gR {id : Nat} {a : Array Oper} (h : wpF P n (.region id a true) (postK P n Q k) ρ w) : GoM P n u Q w (.code (.region id a true) k ρ) := h
theorem cT {c : Operand} {x y : Code} (hc : evalR ρ c = .bool true) (h : GoM P n u Q w (adv n u 1000 (.code x) k ρ)) : GoM P n u Q w (.code (.cond c x y) k ρ) := wpF_true hc (adv_ok _ _ _ _ h).wp
theorem cF {c : Operand} {x y : Code} (hc : evalR ρ c = .bool false) (h : GoM P n u Q w (adv n u 1000 (.code y) k ρ)) : GoM P n u Q w (.code (.cond c x y) k ρ) := wpF_false hc (adv_ok _ _ _ _ h).wp
theorem cD {c : Operand} {x y : Code} {p : Prop} [Decidable p] (hc : evalR ρ c = .bool (decide p)) (h1 : p → GoM P n u Q w (adv n u 1000 (.code x) k ρ)) (h2 : ¬ p → GoM P n u Q w (adv n u 1000 (.code y) k ρ)) : GoM P n u Q w (.code (.cond c x y) k ρ) :=
  wpF_cond p hc (fun h => (adv_ok _ _ _ _ (h1 h)).wp) fun h => (adv_ok _ _ _ _ (h2 h)).wp
theorem cB {c : Operand} {x y : Code} (b : Bool) (hc : evalR ρ c = .bool b) (h1 : b = true → GoM P n u Q w (adv n u 1000 (.code x) k ρ)) (h2 : b = false → GoM P n u Q w (adv n u 1000 (.code y) k ρ)) : GoM P n u Q w (.code (.cond c x y) k ρ) :=
  wpF_condB b hc (fun h => (adv_ok _ _ _ _ (h1 h)).wp) fun h => (adv_ok _ _ _ _ (h2 h)).wp
theorem gL {c : Code} (I : Slots → World → Prop) (μ : Slots → World → Nat) (h0 : I ρ w)
    (round : ∀ ρ w, I ρ w → GoM P n u Q w (adv n u 1000 (.code c) (.fin (fun ρ' w' => I ρ' w' ∧ μ ρ' w' < μ ρ w) :: k) ρ)) : GoM P n u Q w (.code (.loop c) k ρ) :=
  wpF_loop I μ h0 fun ρ w hI => (adv_ok _ _ _ _ (round ρ w hI)).wp
theorem gK {K : Slots → World → Prop} (h : K ρ w) : GoM P n u Q w (.fin K k ρ) := h
def args0 (l : List Value) : Slots := fun t => l.getD t undef
theorem gG {f : FuncId} {fn : Func} {c : Code} {args : List Value} {R : Ending → World → Prop} (hf : P.funcs[f]? = some fn) (hb : fn.body = some c) (m : Nat) (hm : fn.ntmps = m) (hn : Nat.ble args.length m = true)
    (h : GoM P m true (postP P fn R) w (adv m true 1000 (.code c) [] (args0 args))) : Calls P f args.toArray w R :=
  calls_of_wpP hf hb m hm (Nat.le_of_ble_eq_true hn) fun ρ hB => by
    obtain rfl : ρ = args0 args := funext hB.get
    refine wpF_mono (adv_ok _ _ _ _ h).wp fun e ρ w hx => ?_
    cases e <;> exact hx
theorem gGm {f : FuncId} {fn : Func} {c : Code} {args : List Value} {R : Ending → World → Prop} (hf : P.funcs[f]? = some fn) (hb : fn.body = some c) (m : Nat) (hm : fn.ntmps = m) (hn : Nat.ble args.length m = true)
    (h : GoM P m false (postP P fn R) w (adv m false 1000 (.code c) [] (args0 args))) : Calls P f args.toArray w R :=
  calls_of_wpP hf hb m hm (Nat.le_of_ble_eq_true hn) fun ρ hB => by
    obtain rfl : ρ = args0 args := funext hB.get
    refine wpF_mono (adv_ok _ _ _ _ h).wp fun e ρ w hx => ?_
    cases e <;> exact hx
theorem rt0 {fn : Func} {R : Ending → World → Prop} (hrs : fn.results = #[]) (hR : R (.returned (.tuple #[])) w) : GoM P n u (postP P fn R) w (.ret ρ) := postP_ret [] hrs [] _ rfl trivial hR
theorem rt1 {fn : Func} {R : Ending → World → Prop} {t : Tmp} {v : Value} (hrs : fn.results = #[.tmp t]) (h : ρ t = v) (hR : R (.returned v) w) : GoM P n u (postP P fn R) w (.ret ρ) := postP_ret [.tmp t] hrs [v] v rfl ⟨h, trivial⟩ hR
theorem rt2 {fn : Func} {R : Ending → World → Prop} {t t2 : Tmp} {v x : Value} (hrs : fn.results = #[.tmp t, .tmp t2]) (h : ρ t = v) (hx : ρ t2 = x) (hR : R (.returned (.tuple #[v, x])) w) : GoM P n u (postP P fn R) w (.ret ρ) := postP_ret [.tmp t, .tmp t2] hrs [v, x] _ rfl ⟨h, hx, trivial⟩ hR
theorem rt3 {fn : Func} {R : Ending → World → Prop} {t t2 t3 : Tmp} {v x z : Value} (hrs : fn.results = #[.tmp t, .tmp t2, .tmp t3]) (h : ρ t = v) (hx : ρ t2 = x) (hz : ρ t3 = z) (hR : R (.returned (.tuple #[v, x, z])) w) : GoM P n u (postP P fn R) w (.ret ρ) := postP_ret [.tmp t, .tmp t2, .tmp t3] hrs [v, x, z] _ rfl ⟨h, hx, hz, trivial⟩ hR
theorem rg1 {fn : Func} {R : Ending → World → Prop} {r : ResultVar} {v : Value} (hrs : fn.results = #[r]) (h : ResF P ρ w r v) (hR : R (.returned v) w) : GoM P n u (postP P fn R) w (.ret ρ) := postP_ret [r] hrs [v] v rfl ⟨h, trivial⟩ hR
theorem rg2 {fn : Func} {R : Ending → World → Prop} {r r2 : ResultVar} {v x : Value} (hrs : fn.results = #[r, r2]) (h : ResF P ρ w r v) (hx : ResF P ρ w r2 x) (hR : R (.returned (.tuple #[v, x])) w) : GoM P n u (postP P fn R) w (.ret ρ) := postP_ret [r, r2] hrs [v, x] _ rfl ⟨h, hx, trivial⟩ hR
theorem rtg {fn : Func} {R : Ending → World → Prop} {rs : List ResultVar} {vs : List Value} {v : Value} (hrs : fn.results = rs.toArray) (hv : tupled vs = v) (h : ResAll P ρ w rs vs) (hR : R (.returned v) w) : GoM P n u (postP P fn R) w (.ret ρ) := postP_ret rs hrs vs _ hv h hR
end
open Go.RowKit
theorem getD_mem {α : Type} {l : List α} {i : Nat} (d : α) (h : i < l.length) : l.getD i d ∈ l := by
  rw [List.getD_eq_getElem?_getD, List.getElem?_eq_getElem h]; exact List.getElem_mem h
section
variable {P : Program}
theorem Yk.sliceArr {K : Value → World → Prop} {ρ : Tmp → Value} {t e : TypeId} {n : Nat} (ht : P.underlying t = some (.array n e)) (he : ∀ w' : World, (sizeOf e).run P w' = .ok 1 w') {x : Operand} {d : Option Tmp} {ty : TypeId} {pos : String} {af : Array Edge} {gd : Option (Nat × Bool)} {w : World} {b o : Nat}
    (hx : evalR ρ x = .pointer (some ⟨b, o, none⟩)) (hk : K (.slice (some ⟨b, o, none⟩) n n) w) : Yk P K ((execOp (evalR ρ) ⟨d, .slice t x none none none, ty, pos, af, gd⟩).run P w) := by
  refine Yk.value (v := .slice (some ⟨b, o, none⟩) n n) (w' := w) ?_ hk
  have hE : P.elem t = e := by simp [Program.elem, ht]
  have hN : P.arrayLen t = n := by simp [Program.arrayLen, ht]
  have hr := run_sliceAt_array_all (P := P) (w := w) (t := t) (a := ⟨b, o, none⟩) (by rw [hE, hN]; exact ht)
  rw [hE, he, hN] at hr
  unfold execOp
  simp only [hx, Option.map_none, Sem.run_bind, hr, Result.andThen_ok, Sem.run_pure]
  simp [slicedAt, Addr.add_lit]
end
section
variable {P : Program} {K : Value → World → Prop} {ρ : Slots} {w : World} {d : Option Tmp} {ty : TypeId} {pos : String} {af : Array Edge} {gd : Option (Nat × Bool)}
theorem Yk.storeMid {t' : TypeId} {x y : Operand} {g o : Nat} {a m z cells : List Value} {t : TypeId} (hx : evalR ρ x = .pointer (some ⟨g, o, none⟩)) (hy : evalR ρ y = .agg cells.toArray) (hg : w.heap[g]? = some (.cells (a ++ m ++ z).toArray t (0, 0))) (ha : a.length = o) (hm : m.length = cells.length) (hi : (P.info? t').map (·.size) = some cells.length) (h1 : ∀ v ∈ cells, v.oneCell' = true)
    (hk : ∀ w', w'.heap[g]? = some (.cells (a ++ cells ++ z).toArray t (0, 0)) → w.grownBy w' (some g) → w'.heap.size = w.heap.size → K undef w') : Yk P K ((execOp (evalR ρ) ⟨d, .store t' x y, ty, pos, af, gd⟩).run P w) := by
  have hst := run_storeCells_at P g o t cells 0 (a ++ m ++ z).toArray w hg (by simp; omega) h1
  have e : ((a ++ m ++ z).toArray.toList.take (o + 0) ++ cells ++ (a ++ m ++ z).toArray.toList.drop (o + 0 + cells.length)) = a ++ cells ++ z := by
    have e1 : (a ++ m ++ z).take o = a := by rw [List.append_assoc, ← ha, List.take_left']; rfl
    have e2 : (a ++ m ++ z).drop (o + cells.length) = z := List.drop_left' (by rw [List.length_append]; omega)
    rw [List.toList_toArray, Nat.add_zero, e1, e2]
  rw [e] at hst
  have hr : (Instr.storeAt t' (.pointer (some ⟨g, o, none⟩)) (.agg cells.toArray)).run P w = .ok () (w.setRow g (a ++ cells ++ z).toArray) := by
    cases hq : P.info? t' with
    | none => simp [hq] at hi
    | some i =>
      have hsz : cells.length = i.size := by simp [hq] at hi; omega
      simp [Instr.storeAt, Instr.sureAddr, storeVar, sizeOf, typeInfo, hq, Value.cells, hsz] at hst ⊢
      simp [hst]
  unfold execOp
  simp only [hx, hy, hr, Sem.run_bind, Result.andThen_ok, Sem.run_pure]
  exact hk _ (setRow_heap w g (a ++ m ++ z).toArray _ t (0, 0) hg) ⟨rfl, rfl, rfl, by simp, fun k _ hk => setRow_other w g k _ (fun e => hk (by rw [e]))⟩ (by simp)
theorem Yk.lit0G {α : Type} {k : Nat} {enc : α → List Value} {t e : TypeId} (hr : ∀ (w : World), (Instr.buildSlice t 0 #[]).run P w = .ok (.slice (some ⟨w.heap.size, 0, none⟩) 0 0) (w.alloc (.cells #[] e)))
    (hk : ∀ v w', OG w.heap.size e k enc w' v [] → Ext w w' → K v w') : Yk P K ((execOp (evalR ρ) ⟨d, .buildSlice t 0 #[], ty, pos, af, gd⟩).run P w) := by
  have hr' : (execOp (evalR ρ) ⟨d, .buildSlice t 0 #[], ty, pos, af, gd⟩).run P w = .ok (.value (.slice (some ⟨w.heap.size, 0, none⟩) 0 0)) (w.alloc (.cells #[] e)) := by
    unfold execOp
    simp only [List.map_toArray, List.map_nil, Sem.run_bind, hr, Result.andThen_ok, Sem.run_pure]
  rw [hr']
  refine hk _ _ ⟨fun x hx => (List.not_mem_nil hx).elim, ⟨by simp, .inr ⟨w.heap.size, 0, #[], rfl, Nat.le_refl _, heap_alloc_new w _, Nat.le_refl _, by simp [maxLen], by simp, by simp⟩⟩⟩ (Below.alloc (Below.refl _ _) (Nat.le_refl _) _)
end
theorem og_eq {w : World} {α : Type} {b k : Nat} {e : TypeId} {enc : α → List Value} {v : Value} {l l' : List α} (h : OG b e k enc w v l) (e' : l = l') : OG b e k enc w v l' := by rw [← e']; exact h
open Go.RowKit
section
variable {P : Program} {n : Nat} {ρ : Slots} {w : World} {Q : PostF}
def lsOk (l : List Oper) (cs : List Nat) (ks ls : Nat → List Nat) : Bool := cs.all fun m => (ls m).all fun i => (ks m).contains i || Nat.beq i m || ((masks l []).getD i 0).testBit m
def AllCh (S : World → World → Prop) (ls : Nat → List Nat) (Φs : List Fact) : List Nat → Prop
  | [] => True
  | m :: r => AllStabX S (ls m) 0 Φs ∧ AllCh S ls Φs r
theorem AllCh.get {S : World → World → Prop} {ls : Nat → List Nat} {Φs : List Fact} : ∀ (cs : List Nat), AllCh S ls Φs cs → ∀ m, cs.contains m = true → AllStabX S (ls m) 0 Φs
  | [], _, m, h => by simp at h
  | c :: r, h, m, hm => by
    by_cases e : m = c
    · subst e; exact h.1
    · exact AllCh.get r h.2 m (by simpa [e] using hm)
end
open Go.RowKit
open Go.WideMaps (KeyLaw)
structure KL (P : Program) (k : TypeId) (OK : Value → Prop) : Prop where
  check : ∀ (w : World) (em : Bool) {v : Value}, OK v → (Instr.checkKey em 10000 k v).run P w = .ok () w
  find : ∀ (w : World) {x : Value}, OK x → ∀ es : List MapEntry, (∀ e ∈ es, OK e.key) →
    ((Instr.findKey k x es).run P w = .ok none w ∧ ∀ e ∈ es, e.key ≠ x) ∨ ∃ j e, (Instr.findKey k x es).run P w = .ok (some (j, e.val)) w ∧ es[j]? = some e ∧ e.key = x
  stays : ∀ (w : World) {v : Value}, OK v → (Instr.keyThatStays v v).run P w = .ok v w
theorem KL.ofDeep {P : Program} {k : TypeId} (L : KeyLaw P k) : KL P k (fun v => ∃ l, keyOf P k v = some l) :=
  ⟨fun w em _ ⟨_, h⟩ => L.check w em h, fun w _ ⟨_, h⟩ es he => L.find w h es he, fun w _ ⟨_, h⟩ => L.stays w h⟩
theorem KL.ofKey {P : Program} {k : TypeId} {d : TypeDesc} (hd : P.underlying k = some d) : KL P k (MapKept.IsKey d) :=
  ⟨fun w em _ h => MapKept.run_checkKey hd h em 9999, fun w x h es he => by
    rcases MapKept.findNow_spec h es 0 he with ⟨h1, h2⟩ | ⟨j, e, h1, h2, h3⟩
    · exact .inl ⟨MapKept.run_findKey hd h1, h2⟩
    · rw [Nat.zero_add] at h1
      exact .inr ⟨j, e, MapKept.run_findKey hd h1, h2, h3⟩, fun w _ h => MapKept.run_keyThatStays h⟩
section
variable {α β : Type} (ek : α → Value) (ev : β → Value) (D : α → Prop)
structure MapIn (G : α → Option β) (es : List MapEntry) : Prop where
  keys : (es.map (·.key)).Nodup
  ent : ∀ e ∈ es, ∃ a y, D a ∧ e.key = ek a ∧ e.val = ev y ∧ G a = some y
  all : ∀ a y, G a = some y → D a ∧ ∃ e ∈ es, e.key = ek a
def MapF (w : World) (b : Nat) (G : α → Option β) : Prop := ∃ es clock, w.heap[b]? = some (.map es.toArray clock) ∧ MapIn ek ev D G es ∧ MapKept.Stamped es.toArray clock
end
theorem stamped_sub {es es' : List MapEntry} {c : Nat} (hs : es'.Sublist es) (h : MapKept.Stamped es.toArray c) : MapKept.Stamped es'.toArray c := by
  obtain ⟨h1, h2, h3⟩ := h
  exact ⟨fun x hx => h1 x (hs.subset hx), (hs.map _).nodup h2, (hs.map _).nodup h3⟩
def updM {α β : Type} [DecidableEq α] (G : α → Option β) (a : α) (y : Option β) (c : α) : Option β := if c = a then y else G c
section
variable {α β : Type} {ek : α → Value} {ev : β → Value} {D : α → Prop} {P : Program} {w w' : World} {b : Nat} {G : α → Option β}
theorem MapF.keep (h : MapF ek ev D w b G) (k : Ext w w') : MapF ek ev D w' b G := by
  obtain ⟨es, c, h2, h3⟩ := h
  exact ⟨es, c, Ext.blk' k h2, h3⟩
theorem MapF.lt (h : MapF ek ev D w b G) : b < w.heap.size := by
  obtain ⟨es, c, h2, h3⟩ := h
  exact (Array.getElem?_eq_some_iff.1 h2).1
theorem MapF.other {r : Option Nat} (h : MapF ek ev D w b G) (k : w.grownBy w' r) (hr : r ≠ some b) : MapF ek ev D w' b G := by
  have hl := h.lt
  obtain ⟨es, c, h2, h3⟩ := h
  exact ⟨es, c, (k.block b hl (fun e => hr e.symm)).trans h2, h3⟩
theorem MapF.grew {v v' : Value} (h : MapF ek ev D w b G) (g : Grew w w' v v') (hv : v.ownBlock ≠ some b) : MapF ek ev D w' b G := h.other g.by_ hv
theorem MapF.made (ek : α → Value) (ev : β → Value) (D : α → Prop) (w : World) : MapF ek ev D (w.alloc (.map #[] 0)) w.heap.size (fun _ => none) :=
  ⟨[], 0, heap_alloc_new w _, ⟨by simp, by simp, fun _ _ h => by cases h⟩, MapKept.stamped_empty 0⟩
section
variable {t K E : TypeId} {OK : Value → Prop} (L : KL P K OK) (hD : ∀ a, D a → OK (ek a)) (hi : ∀ a c, ek a = ek c → a = c) (ht : P.underlying t = some (.map K E))
include L hD hi ht
theorem MapF.look {z : Value} (hz : ∀ u : World, (zeroValue E).run P u = .ok z u) (h : MapF ek ev D w b G) {a : α} (ha : D a) (ok : Bool) :
    (Instr.lookup t (.map (some b)) (ek a) ok).run P w = .ok (if ok then .tuple #[(G a).elim z ev, .bool (G a).isSome] else (G a).elim z ev) w := by
  obtain ⟨es, c, hb, H, hS⟩ := h
  have hkeys : ∀ e ∈ es, OK e.key := fun e he => by
    obtain ⟨q, y, k1, k2, -⟩ := H.ent e he
    rw [k2]
    exact hD q k1
  rcases L.find w (hD a ha) es hkeys with ⟨f1, f2⟩ | ⟨j, e0, f1, f2, f3⟩
  · have hG : G a = none := by
      cases hG : G a with
      | none => rfl
      | some y =>
        obtain ⟨-, e, he, hek⟩ := H.all a y hG
        exact absurd hek (f2 e he)
    cases ok <;> simp [Instr.lookup, run_underlying ht, MapKept.run_getObj_map hb, L.check w _ (hD a ha), f1, hz, Result.andThen, hG]
  · obtain ⟨q, y, k1, k2, k3, k4⟩ := H.ent e0 (List.mem_of_getElem? f2)
    have : q = a := hi _ _ (k2.symm.trans f3)
    subst this
    cases ok <;> simp [Instr.lookup, run_underlying ht, MapKept.run_getObj_map hb, L.check w _ (hD q ha), f1, Result.andThen, k4, k3]
variable [DecidableEq α]
omit hi in
theorem MapF.put (h : MapF ek ev D w b G) {a : α} (ha : D a) (y : β) :
    ∃ w', (Instr.mapUpdate t (.map (some b)) (ek a) (ev y)).run P w = .ok () w' ∧ MapF ek ev D w' b (updM G a (some y)) ∧ w.grownBy w' (some b) ∧ w'.heap.size = w.heap.size := by
  obtain ⟨es, c, hb, H, hS⟩ := h
  have hkeys : ∀ e ∈ es, OK e.key := fun e he => by
    obtain ⟨q, y, k1, k2, -⟩ := H.ent e he
    rw [k2]
    exact hD q k1
  have hblt : b < w.heap.size := (Array.getElem?_eq_some_iff.1 hb).1
  have hgr : ∀ o, w.grownBy { w with heap := w.heap.setIfInBounds b o } (some b) := fun o => ⟨rfl, rfl, rfl, by simp, fun i _ hi => by simp only [Array.getElem?_setIfInBounds]; rw [if_neg (fun e => hi (by rw [e]))]⟩
  have hnew : ∀ o, ({ w with heap := w.heap.setIfInBounds b o } : World).heap[b]? = some o := fun o => by simp [hblt]
  rcases L.find w (hD a ha) es hkeys with ⟨f1, f2⟩ | ⟨j, e0, f1, f2, f3⟩
  · have hnone : ∀ x, G a ≠ some x := fun x hx => by
      obtain ⟨-, e, he, hek⟩ := H.all a x hx
      exact f2 e he hek
    refine ⟨{ w with heap := w.heap.setIfInBounds b (.map (es ++ [({ key := ek a, val := ev y, born := c } : MapEntry)]).toArray (c + 1)) }, ?_, ⟨_, _, hnew _, ⟨?_, ?_, ?_⟩, by have := MapKept.stamped_push hS (key := ek a) (val := ev y) (fun x hx => f2 x (by simpa using hx)); simpa using this⟩, hgr _, by simp⟩
    · simp [Instr.mapUpdate, run_underlying ht, MapKept.run_getObj_map hb, L.check w false (hD a ha), f1, MapKept.run_setObj_map _ hb, Result.andThen]
    · simp only [List.map_append, List.map_cons, List.map_nil]
      refine List.nodup_append.2 ⟨H.keys, by simp, fun x hx z hz e => ?_⟩
      obtain ⟨e1, he1, rfl⟩ := List.mem_map.1 hx
      simp at hz
      exact f2 e1 he1 (e.trans hz)
    · intro e he
      rcases List.mem_append.1 he with h1 | h1
      · obtain ⟨q, z, k1, k2, k3, k4⟩ := H.ent e h1
        refine ⟨q, z, k1, k2, k3, ?_⟩
        unfold updM
        rw [if_neg (fun e1 => f2 e h1 (by rw [k2, e1]))]
        exact k4
      · rw [List.mem_singleton.1 h1]
        exact ⟨a, y, ha, rfl, rfl, by unfold updM; rw [if_pos rfl]⟩
    · intro q z hq
      unfold updM at hq
      split at hq
      · rename_i e1
        subst e1
        exact ⟨ha, _, List.mem_append_right _ (List.mem_singleton.2 rfl), rfl⟩
      · obtain ⟨k1, e, he, hek⟩ := H.all q z hq
        exact ⟨k1, e, List.mem_append_left _ he, hek⟩
  · obtain ⟨q0, y0, k1, k2, k3, k4⟩ := H.ent e0 (List.mem_of_getElem? f2)
    have hjl : j < es.length := (List.getElem?_eq_some_iff.1 f2).1
    have hkeq : (es.modify j fun e => { e with key := ek a, val := ev y }).map (·.key) = es.map (·.key) := by
      rw [Go.ChangeMaps.modify_eq_set _ _ _ _ f2, List.map_set]
      exact Go.WideElems.set_self _ _ _ (by rw [List.getElem?_map, f2]; simp [f3])
    have hj : es.toArray[j]? = some e0 := by simpa using f2
    refine ⟨{ w with heap := w.heap.setIfInBounds b (.map (es.modify j fun e => { e with key := ek a, val := ev y }).toArray c) }, ?_, ⟨_, _, hnew _, ⟨?_, ?_, ?_⟩, by have := MapKept.stamped_modify hS j (fun e => { e with key := ek a, val := ev y }) (fun _ _ => rfl) (fun e _ he => by rw [hj] at he; cases he; exact f3.symm); rwa [List.modify_toArray] at this⟩, hgr _, by simp⟩
    · simp [Instr.mapUpdate, run_underlying ht, MapKept.run_getObj_map hb, L.check w false (hD a ha), f1, f2, f3, L.stays w (hD a ha), MapKept.run_setObj_map _ hb, Result.andThen]
    · rw [hkeq]
      exact H.keys
    · intro e he
      rw [Go.ChangeMaps.modify_eq_set _ _ _ _ f2] at he
      obtain ⟨i, hil, hie⟩ := List.mem_iff_getElem.1 he
      rw [List.getElem_set] at hie
      split at hie
      · subst hie
        exact ⟨a, y, ha, rfl, rfl, by unfold updM; rw [if_pos rfl]⟩
      · rename_i hne
        have hil2 : i < es.length := by simpa using hil
        obtain ⟨q, z, m1, m2, m3, m4⟩ := H.ent e (hie ▸ List.getElem_mem hil2)
        refine ⟨q, z, m1, m2, m3, ?_⟩
        unfold updM
        rw [if_neg ?_]
        · exact m4
        · intro e1
          subst e1
          apply hne
          have hn := H.keys
          have e2 : (es.map (·.key))[j]'(by simpa using hjl) = (es.map (·.key))[i]'(by simpa using hil2) := by
            simp only [List.getElem_map]
            rw [hie, m2, ← f3]
            exact congrArg MapEntry.key (List.getElem?_eq_some_iff.1 f2).2
          exact (List.getElem_inj hn).1 e2
    · intro q z hq
      have hmem : ∀ x, x ∈ es.map (·.key) → ∃ e ∈ (es.modify j fun e => { e with key := ek a, val := ev y }), e.key = x := fun x hx => by
        rw [← hkeq] at hx
        obtain ⟨e, he, rfl⟩ := List.mem_map.1 hx
        exact ⟨e, he, rfl⟩
      unfold updM at hq
      split at hq
      · rename_i e1
        subst e1
        exact ⟨ha, hmem _ (List.mem_map.2 ⟨e0, List.mem_of_getElem? f2, f3⟩)⟩
      · obtain ⟨k1, e, he, hek⟩ := H.all q z hq
        exact ⟨k1, hmem _ (List.mem_map.2 ⟨e, he, hek⟩)⟩
theorem MapF.del {ty : TypeId} (h : MapF ek ev D w b G) {a : α} (ha : D a) :
    ∃ w', (Builtin.delete_ #[t, K] ty #[.map (some b), ek a]).run P w = .ok (.tuple #[]) w' ∧ MapF ek ev D w' b (updM G a none) ∧ w.grownBy w' (some b) ∧ w'.heap.size = w.heap.size := by
  obtain ⟨es, c, hb, H, hS⟩ := h
  have hkeys : ∀ e ∈ es, OK e.key := fun e he => by
    obtain ⟨q, y, k1, k2, -⟩ := H.ent e he
    rw [k2]
    exact hD q k1
  have hblt : b < w.heap.size := (Array.getElem?_eq_some_iff.1 hb).1
  have hgr : ∀ o, w.grownBy { w with heap := w.heap.setIfInBounds b o } (some b) := fun o => ⟨rfl, rfl, rfl, by simp, fun i _ hi => by simp only [Array.getElem?_setIfInBounds]; rw [if_neg (fun e => hi (by rw [e]))]⟩
  have hnew : ∀ o, ({ w with heap := w.heap.setIfInBounds b o } : World).heap[b]? = some o := fun o => by simp [hblt]
  rcases L.find w (hD a ha) es hkeys with ⟨f1, f2⟩ | ⟨j, e0, f1, f2, f3⟩
  · have hG : G a = none := by
      cases hG : G a with
      | none => rfl
      | some y =>
        obtain ⟨-, e, he, hek⟩ := H.all a y hG
        exact absurd hek (f2 e he)
    have hU : updM G a none = G := by
      funext x
      unfold updM
      split
      · rename_i e; rw [e, hG]
      · rfl
    rw [hU]
    refine ⟨{ w with heap := w.heap.setIfInBounds b (.map es.toArray c) }, ?_, ⟨_, _, hnew _, H, hS⟩, hgr _, by simp⟩
    simp [Builtin.delete_, run_underlying ht, MapKept.run_getObj_map hb, L.check w _ (hD a ha), f1, MapKept.run_setObj_map _ hb, Result.andThen]
  · have hjl : j < es.length := (List.getElem?_eq_some_iff.1 f2).1
    have hne : ∀ e ∈ es.eraseIdx j, e.key ≠ ek a := fun e he hk => by
      obtain ⟨i, hil, hie⟩ := List.mem_eraseIdx_iff_getElem.1 he
      obtain ⟨hij, hie⟩ := hie
      have e2 : (es.map (·.key))[j]'(by simpa using hjl) = (es.map (·.key))[i]'(by simpa using hil) := by
        simp only [List.getElem_map]
        rw [hie, hk, ← f3]
        exact congrArg MapEntry.key (List.getElem?_eq_some_iff.1 f2).2
      exact hij ((List.getElem_inj H.keys).1 e2).symm
    refine ⟨{ w with heap := w.heap.setIfInBounds b (.map (es.eraseIdx j).toArray c) }, ?_, ⟨_, _, hnew _, ⟨?_, ?_, ?_⟩, stamped_sub (List.eraseIdx_sublist _ _) hS⟩, hgr _, by simp⟩
    · simp [Builtin.delete_, run_underlying ht, MapKept.run_getObj_map hb, L.check w _ (hD a ha), f1, MapKept.run_setObj_map _ hb, Result.andThen]
    · exact H.keys.sublist ((List.eraseIdx_sublist _ _).map _)
    · intro e he
      obtain ⟨q, z, m1, m2, m3, m4⟩ := H.ent e ((List.eraseIdx_sublist _ _).subset he)
      refine ⟨q, z, m1, m2, m3, ?_⟩
      unfold updM
      rw [if_neg (fun e1 => hne e he (by rw [m2, e1]))]
      exact m4
    · intro q z hq
      unfold updM at hq
      split at hq
      · cases hq
      · rename_i hqa
        obtain ⟨k1, e, he, hek⟩ := H.all q z hq
        refine ⟨k1, e, ?_, hek⟩
        obtain ⟨i, hil, hie⟩ := List.mem_iff_getElem.1 he
        refine List.mem_eraseIdx_iff_getElem.2 ⟨i, hil, fun e1 => ?_, hie⟩
        subst e1
        apply hqa
        refine hi _ _ (hek.symm.trans ?_)
        rw [← f3, ← hie]
        exact congrArg MapEntry.key (List.getElem?_eq_some_iff.1 f2).2
end
end
open Go.RowKit
theorem some_ne {a b : Nat} (h : a ≠ b) : some a ≠ some b := fun e => h (Option.some.inj e)
def ApartV (u v : Value) : Prop := ∀ k, u.ownBlock = some k → v.ownBlock ≠ some k
section
variable {N B : Nat} {r : Option Nat} {w w' w1 w0 : World} {e t : TypeId}
theorem ownsRow_grown {z n : Nat} {v : Value} {xs : List Value} (ho : w.ownsRow B e z v n xs) (k : w.grownBy w1 r) (ha : ∀ k, r = some k → v.ownBlock ≠ some k) : w1.ownsRow B e z v n xs :=
  ho.kept k (by
    cases hv : v.ownBlock with
    | none => exact .inl rfl
    | some g => exact .inr (fun e => ha g e.symm hv))
theorem apartv_new {u v : Value} {b : Nat} {e' : TypeId} {z n z' n' : Nat} {xs ys : List Value} (hu : w.ownsRow b e z u n xs) (hv : w'.ownsRow w.heap.size e' z' v n' ys) : ApartV u v := fun k h1 h2 => by
  have := (hu.lt k h1).2
  have := (hv.lt k h2).1
  omega
theorem apartv_new' {u v : Value} {b : Nat} {e' : TypeId} {z n z' n' : Nat} {xs ys : List Value} (hu : w.ownsRow b e z u n xs) (hv : w'.ownsRow w.heap.size e' z' v n' ys) : ApartV v u := fun k h1 h2 => apartv_new hu hv k h2 h1
theorem apartv_grew {u v v' : Value} {b : Nat} {z n : Nat} {xs : List Value} (gr : Grew w w' v v') (ha : ApartV v u) (hu : w.ownsRow b e z u n xs) : ApartV v' u := fun k h1 h2 => by
  rcases gr.fresh k h1 with h3 | h3
  · exact ha k h3 h2
  · have := (hu.lt k h2).2
    omega
theorem own_grew {v v' u : Value} {b : Nat} {z n : Nat} {xs : List Value} (hu : w.ownsRow b e z u n xs) (gr : Grew w w' v v') (ha : ApartV v u) : w'.ownsRow b e z u n xs := ownsRow_grown hu gr.by_ ha
theorem og_grew {α : Type} {k b : Nat} {enc : α → List Value} {v v' u : Value} {l : List α} (hu : OG b e k enc w u l) (gr : Grew w w' v v') (ha : ApartV v u) : OG b e k enc w' u l := ⟨hu.1, own_grew hu.2 gr ha⟩
end
open Go.RowKit
theorem u22 : Tryd.prog.underlying 24 = some (.slice 5) := by kernel_rfl
theorem uStr : Tryd.prog.underlying 9 = some .string := by kernel_rfl
theorem infoB : (Tryd.prog.info? 5).map (fun i => (i.zero, i.size, i.bytes)) = some (some (.int .u8 0), 1, 1) := by kernel_rfl

theorem own_any (w : World) (v : Value) (l : List UInt8) (hr : RB w v l) (hl : l.length + 16 ≤ 140737488355328) :
    Calls Tryd.prog 51 #[v] w fun e w' => ∃ v', e = .returned v' ∧ NewB 5 w w' v' l := by
  obtain ⟨i0, hi, hz0, hz1, hz2⟩ := info_parts infoB
  have hsrc : ∀ w' : World, w.grownBy w' none → Src Tryd.prog 1 24 v l.length (Lib.byteCells l) w' := fun w' hg =>
    (hr.below (B := w.heap.size) ((Below.refl _ _).grown hg (Nat.le_refl _) (fun k hk => by cases hk)) rfl).src u22
  have HS := Lib.hid hsrc
  clear hsrc
  obtain ⟨h1, ao, cap, rfl, h2, h3, h4, h5⟩ := hr
  have hl0 : l.length ≤ 140737488355312 := by omega
  clear h1 h4 h5 hl
  unfold maxLen at h3
  go_enter Tryd.func51, Tryd.ntmps51
  go_wp2_with (at_make; refine wpList_make_own _ rfl _ _ 24 rfl w.heap.size 5 i0 (.int .u8 0) 1 u22 hi hz0 hz1 _ _ _ (l.length + 16) rfl rfl (by omega) ?b1 ?b2 ?b3 ?_)
  case b1 => rw [hz2]; omega
  case b2 => unfold maxLen; omega
  case b3 => exact Nat.le_refl _
  intro w1 hown hg
  have hs1 := HS.out w1 hg
  go_wp2_with (at_builtin; refine wpList_append_src _ rfl _ _ 24 24 rfl w.heap.size 5 i0 (.int .u8 0) 1 1 u22 hi hz0 hz1 hz2 rfl _ _ _ rfl hown _ _ _ rfl hs1 ?c1 ?c2 ?c3 ?_)
  case c1 => unfold maxLen; omega
  case c2 => omega
  case c3 => exact hg.size
  intro v' w2 hown2 hgrow
  go_wp2
  go_ret
  refine ⟨v', rfl, by simpa using hown2, grownBy_trans hg hgrow.by_ (fun b hb => ?_)⟩
  simp [Value.ownBlock] at hb
  omega

set_option maxRecDepth 100000 in
set_option maxHeartbeats 1000000 in
theorem number_any (B n x : Nat) (hx : x < 18446744073709551616) (sv : Value) (xs : List Value) (w : World) (hown : w.ownsRow B 5 1 sv n xs) (hBw : B ≤ w.heap.size) (hlim : n + 10 ≤ 140737488355328) :
    Calls Tryd.prog 50 #[sv, .int .u64 x] w fun e w' => ∃ v', e = .returned v' ∧ w'.ownsRow B 5 1 v' (n + (Lib.uvarint x).length) (xs ++ Lib.byteCells (Lib.uvarint x)) ∧ Grew w w' sv v' := by
  obtain ⟨i0, hi, hz0, hz1, hz2⟩ := info_parts infoB
  have hlen := Lib.uvarint_length64 hx
  go_enter Tryd.func50, Tryd.ntmps50
  go_wp2
  go_loopw [0, 1] (fun vb vx wr => ∃ (y : Nat) (pre : List UInt8), vx = .int .u64 y ∧ y ≤ x ∧ Lib.uvarint x = pre ++ Lib.uvarint y ∧ wr.ownsRow B 5 1 vb (n + pre.length) (xs ++ Lib.byteCells pre) ∧ Grew w wr sv vb)
    (fun _ vx _ => (intOf vx).toNat)
  case atStart => exact ⟨x, [], rfl, Nat.le_refl _, rfl, by simpa [Lib.byteCells] using hown, Grew.refl _ _⟩
  case round =>
    obtain ⟨y, pre, rfl, hy, hsplit, hown1, hnx⟩ := hrel
    have hpl : pre.length + (Lib.uvarint y).length ≤ 10 := by
      have h2 := congrArg List.length hsplit
      rw [List.length_append] at h2
      omega
    have hyp := Lib.uvarint_pos y
    have hbw := hnx.by_.size
    by_cases h128 : 128 ≤ y
    · have hor : bits .or .u8 ((y : Int) % 256) 128 = ((y % 128 + 128 : Nat) : Int) := by
        rw [Lib.u8_or128_any _ (by omega) (by omega)]
        omega
      go_wp2_with (at_builtin; refine wpList_append_src _ rfl _ _ 24 24 rfl B 5 i0 (.int .u8 0) 1 1 u22 hi hz0 hz1 hz2 rfl _ _ _ rfl (hown1.alloc _) (.slice (some ⟨wr.heap.size, 0, none⟩) 1 1) 1 [_] rfl (srcOne u22 wr _ _ rfl) ?c1 ?c2 ?c3 ?_)
      case c1 => unfold maxLen; omega
      case c2 => omega
      case c3 => simp; omega
      intro v' w1 hown' hgrow
      have hnx1 : Grew w w1 sv v' := (hnx.alloc _).trans hgrow
      go_wp2
      go_roundw
      case rel =>
        refine ⟨y / 128, pre ++ [(y % 128 + 128).toUInt8], by go_num, by omega, by rw [hsplit, Lib.uvarint_big h128]; simp, ?_, hnx1⟩
        have ec : ((y % 128 + 128 : Nat) : Int) = (y : Int) % 128 + 128 := by omega
        rw [Lib.byteCells_snoc pre (by omega), List.length_append, List.length_singleton, ← Nat.add_assoc, ec]
        exact hown'
      case measure => simp [intOf]; omega
    · have hsm : Lib.uvarint y = [y.toUInt8] := Lib.uvarint_small (by omega)
      go_wp2_with (at_builtin; refine wpList_append_src _ rfl _ _ 24 24 rfl B 5 i0 (.int .u8 0) 1 1 u22 hi hz0 hz1 hz2 rfl _ _ _ rfl (hown1.alloc _) (.slice (some ⟨wr.heap.size, 0, none⟩) 1 1) 1 [_] rfl (srcOne u22 wr _ _ rfl) ?d1 ?d2 ?d3 ?_)
      case d1 => unfold maxLen; omega
      case d2 => omega
      case d3 => simp; omega
      intro v' w1 hown' hgrow
      have hnx1 : Grew w w1 sv v' := (hnx.alloc _).trans hgrow
      go_wp2
      go_ret
      refine ⟨v', rfl, ?_, hnx1⟩
      rw [hsplit, hsm, Lib.byteCells_snoc pre (by omega), List.length_append, List.length_singleton, ← Nat.add_assoc]
      exact hown'

theorem uvarint_len63 (n : Nat) (h : n < 9223372036854775808) : (Lib.uvarint n).length ≤ 9 := Lib.uvarint_length 8 n (Nat.lt_of_lt_of_le h (by decide))

theorem put_any (w : World) (v : Value) (l : List UInt8) (hr : RB w v l) (hl : l.length + 16 ≤ 140737488355328) (n : Nat) (hn : n ≤ 9223372036854775807) :
    Calls Tryd.prog 49 #[v, .int .i64 n] w fun e w' => ∃ v', e = .returned (.tuple #[v', .int .i64 0]) ∧ NewB 5 w w' v' (l ++ Lib.uvarint n) := by
  go_enter Tryd.func49, Tryd.ntmps49
  go_wp2_with fail
  refine (own_any _ _ l hr hl).mono ?_
  rintro e w1 ⟨v1, rfl, h1⟩
  go_wp2_with fail
  refine (number_any w.heap.size l.length n (by omega) v1 _ w1 h1.own h1.by_.size (by omega)).mono ?_
  rintro e w2 ⟨v2, rfl, ho, g⟩
  go_wp2_with fail
  go_ret2
  exact ⟨v2, rfl, h1.more g ho⟩

theorem copy_any (w : World) (v : Value) (l : List UInt8) (hr : RB w v l) (hl : l.length ≤ 140737488355328) :
    Calls Tryd.prog 29 #[v] w fun e w' => ∃ v', e = .returned v' ∧ NewB 5 w w' v' l := by
  obtain ⟨i0, hi, hz0, hz1, hz2⟩ := info_parts infoB
  go_enter Tryd.func29, Tryd.ntmps29
  have h0 : NewB 5 w (w.alloc (.cells #[] 5)) (.slice (some ⟨w.heap.size, 0, none⟩) 0 0) [] :=
    ⟨World.ownsRow_lit w #[] 0 (Nat.le_refl _) (by simp [maxLen]) rfl, World.grownBy_alloc w _ none⟩
  have hs1 := (hr.keep h0.below).src u22
  have HH := Lib.hid h0
  clear h0
  go_wp2_with (at_builtin; refine wpList_append_src _ rfl _ _ 24 24 rfl w.heap.size 5 i0 (.int .u8 0) 1 1 u22 hi hz0 hz1 hz2 rfl (.slice (some ⟨w.heap.size, 0, none⟩) 0 0) 0 [] rfl HH.out.own _ _ _ rfl hs1 ?c1 ?c2 ?c3 ?_)
  case c1 => unfold maxLen; omega
  case c2 => omega
  case c3 => exact HH.out.by_.size
  intro v' w3 hown' hgrow
  go_wp2
  go_ret
  exact ⟨v', rfl, HH.out.more hgrow (by rw [List.length_nil, Nat.zero_add]; exact hown')⟩

def lebDec (k : Nat) : List UInt8 → Option (Nat × Nat)
  | [] => none
  | c :: r => if 128 ≤ c.toNat then (if 8 ≤ k then none else (lebDec (k + 1) r).map (fun x => (c.toNat - 128 + 128 * x.1, x.2 + 1)))
      else if c.toNat = 0 ∧ 0 < k then none else some (c.toNat, 1)
theorem lebDec_pos : ∀ (l : List UInt8) (k : Nat) (x : Nat × Nat), lebDec k l = some x → 1 ≤ x.2 ∧ x.2 ≤ l.length ∧ x.2 + k ≤ max 9 (k + 1)
  | [], k, x, h => by simp [lebDec] at h
  | c :: r, k, x, h => by
    unfold lebDec at h
    split at h
    · split at h
      · cases h
      · obtain ⟨y, hy, rfl⟩ := Option.map_eq_some_iff.1 h
        have := lebDec_pos r (k + 1) y hy
        simp
        omega
    · split at h
      · cases h
      · cases h; simp; omega
theorem lebDec_lt : ∀ (l : List UInt8) (k : Nat) (x : Nat × Nat), lebDec k l = some x → x.1 < 128 ^ x.2
  | [], k, x, h => by simp [lebDec] at h
  | c :: r, k, x, h => by
    unfold lebDec at h
    split at h
    · split at h
      · cases h
      · obtain ⟨y, hy, rfl⟩ := Option.map_eq_some_iff.1 h
        have := lebDec_lt r (k + 1) y hy
        have hc := c.toNat_lt
        simp only [Nat.pow_succ]
        omega
    · split at h
      · cases h
      · cases h; simp; omega
theorem lebDec_uvarint (rest : List UInt8) : ∀ (m n k : Nat), n < 128 ^ (m + 1) → m + k ≤ 8 → (0 < k → 0 < n) → lebDec k (Lib.uvarint n ++ rest) = some (n, (Lib.uvarint n).length)
  | m, n, k, hn, hk, h0 => by
    by_cases h : n < 128
    · rw [Lib.uvarint_small h]
      have : (n.toUInt8).toNat = n := by simp [Nat.toUInt8, UInt8.toNat_ofNat']; omega
      simp only [List.cons_append, lebDec, this]
      rw [if_neg (by omega), if_neg (by omega)]
      simp
    · have hb : ((n % 128 + 128).toUInt8).toNat = n % 128 + 128 := by simp [Nat.toUInt8, UInt8.toNat_ofNat']; omega
      rw [Lib.uvarint_big (by omega)]
      simp only [List.cons_append, lebDec, hb]
      match m, hn, hk with
      | 0, hn, _ => simp at hn; omega
      | m + 1, hn, hk =>
        rw [if_pos (by omega), if_neg (by omega), lebDec_uvarint rest m (n / 128) (k + 1) (by rw [Nat.pow_succ] at hn; exact Nat.div_lt_of_lt_mul (by rw [Nat.mul_comm]; exact hn)) (by omega) (fun _ => by omega)]
        simp
        omega
open Go.RowKit
theorem sizeB : ∀ w' : World, (sizeOf 5).run Tryd.prog w' = .ok 1 w' := fun _ => by kernel_rfl
def getRes (a : Nat) : Option (Nat × Nat) → Value
  | some x => .tuple #[.int .i64 x.1, .int .i64 ↑(a + x.2), .int .i64 0]
  | none => .tuple #[.int .i64 0, .int .i64 0, .int .i64 6]

theorem u64_shl_in (y k : Nat) (hy : y < 128) (hk : k ≤ 8) : IntKind.u64.wrap ((y : Int) * 2 ^ (7 * k)) = ((y * 2 ^ (7 * k) : Nat) : Int) := by
  have h1 : y * 2 ^ (7 * k) ≤ 127 * 2 ^ 56 := Nat.mul_le_mul (by omega) (Nat.pow_le_pow_right (by decide) (by omega))
  have e : ((y : Int) * 2 ^ (7 * k)) = ((y * 2 ^ (7 * k) : Nat) : Int) := by push_cast; rfl
  rw [e]
  exact IntWalk.u64_in _ ⟨by omega, by omega⟩
theorem or_shl (out y k : Nat) (hout : out < 2 ^ (7 * k)) (hy : y < 128) (hk : k ≤ 8) : bits .or .u64 (out : Int) ((y * 2 ^ (7 * k) : Nat) : Int) = ((out + 2 ^ (7 * k) * y : Nat) : Int) := by
  have h1 : y * 2 ^ (7 * k) ≤ 127 * 2 ^ 56 := Nat.mul_le_mul (by omega) (Nat.pow_le_pow_right (by decide) (by omega))
  have h2 : 2 ^ (7 * k) ≤ 2 ^ 56 := Nat.pow_le_pow_right (by decide) (by omega)
  have h := (bits_nat .u64 64 (by decide) wraps_u64 out (y * 2 ^ (7 * k)) (by omega) (by omega)).2
  rw [h]
  congr 1
  have h3 := Nat.shiftLeft_add_eq_or_of_lt hout y
  rw [Nat.shiftLeft_eq] at h3
  rw [Nat.or_comm, ← h3, Nat.mul_comm]
  omega
set_option maxRecDepth 100000 in
theorem andNot_fin : ∀ n : Fin 128, bits .andNot .u8 ((n.val + 128 : Nat) : Int) 128 = (n.val : Int) := by decide +kernel
theorem u8_andNot128 (c : Nat) (h : 128 ≤ c) (h2 : c < 256) : IntKind.u64.wrap (bits .andNot .u8 (c : Int) 128) = ((c - 128 : Nat) : Int) := by
  have h1 := andNot_fin ⟨c - 128, by omega⟩
  have e : c - 128 + 128 = c := by omega
  simp only [e] at h1
  rw [h1]
  exact IntWalk.u64_in _ ⟨by omega, by omega⟩

theorem getBound (out y k : Nat) (hout : out < 2 ^ (7 * k)) (hy : y < 128) (hk : k ≤ 8) : out + 2 ^ (7 * k) * y ≤ 9223372036854775807 := by
  have h1 : 2 ^ (7 * k) * y ≤ 2 ^ 56 * 127 := Nat.mul_le_mul (Nat.pow_le_pow_right (by decide) (by omega)) (by omega)
  have h2 : 2 ^ (7 * k) ≤ 2 ^ 56 := Nat.pow_le_pow_right (by decide) (by omega)
  omega
theorem getFin (a k N c : Nat) (h : N + 2 ^ (7 * k) * c ≤ 9223372036854775807) :
    Ending.returned (.tuple #[.int .i64 (wrap64 ((N + 2 ^ (7 * k) * c : Nat) : Int)), .int .i64 ((a : Int) + (k : Int) + 1), .int .i64 0]) = .returned (getRes a ((some (c, 1)).map fun x => (N + 2 ^ (7 * k) * x.1, x.2 + k))) := by
  rw [IntWalk.wrap64_in _ ⟨by omega, by omega⟩]
  have e : (a : Int) + (k : Int) + 1 = ((a + (1 + k) : Nat) : Int) := by omega
  rw [e]
  rfl

set_option maxRecDepth 100000 in
set_option maxHeartbeats 1000000 in
theorem get_in (w : World) (v : Value) (l : List UInt8) (hr : RB w v l) (a : Nat) (ha : a ≤ l.length) :
    Calls Tryd.prog 63 #[v, .int .i64 a] w fun e w' => e = .returned (getRes a (lebDec 0 (l.drop a))) ∧ w = w' := by
  have HR := Lib.hid hr
  obtain ⟨ao, cap, rfl, h2, h3⟩ := hr.len
  clear hr
  have hd : decide ((a : Int) < 0) = false := by simp
  have hd2 : decide (l.length < a) = false := by simp; omega
  obtain ⟨L, hL⟩ : ∃ L, L = l.drop a := ⟨_, rfl⟩
  have hLn : l.length - a = L.length := by rw [hL, List.length_drop]
  rw [← hL]
  have HLn := Lib.hid hLn
  have HL := Lib.hid hL
  clear hLn hL
  go_enter Tryd.func63, Tryd.ntmps63
  go_wp2_with fail
  go_step3
  go_wp2_with fail
  go_step3
  go_wp2_with (refine wpList_reslice (o := ⟨some 21, _, _, _, _, _⟩) rfl _ _ (some _) none rfl u22 sizeB _ l rfl HR.out a l.length ha (Nat.le_refl _) (.inr ⟨.i64, rfl⟩) (.inl ⟨rfl, rfl⟩) ?_)
  intro ao' c' hr'
  rw [List.take_of_length_le (by rw [List.length_drop]; exact Nat.le_refl _)] at hr'
  have HR' := Lib.hid hr'
  clear hr' hd hd2
  rw [← HL.out, HLn.out] at HR'
  rw [HLn.out]
  by_cases hn0 : L.length = 0
  · have hL0 : L = [] := List.eq_nil_of_length_eq_zero hn0
    have HL0 := Lib.hid hL0
    clear hL0 HR' HR
    have h00 : decide (0 < L.length) = false := by simp [hn0]
    clear hn0
    go_wp2_with fail
    refine wp_loop_rounds 1 ?_
    rw [rounds_succ]
    go_wp2
    rw [Exit.noGoto_ret]
    all_goals (go_ret3; exact ⟨by rw [HL0.out]; simp [lebDec, getRes], rfl⟩)
  obtain ⟨b, off, cc, hv, hcap, hcap2, hbw, hcell⟩ := HR'.out.open_ (by omega)
  simp only [Value.slice.injEq, true_and] at hv
  obtain ⟨rfl, rfl⟩ := hv
  have haL : a + L.length ≤ 9223372036854775807 := by have := HLn.out; omega
  clear HR' HR
  go_wp2_with fail
  go_loop [7, 8, 23] (fun vx vs vi => ∃ k out : Nat, vi = .int .i64 k ∧ vs = .int .i64 ((7 * k : Nat) : Int) ∧ vx = .int .u64 out ∧ k ≤ L.length ∧ k ≤ 8 ∧ out < 2 ^ (7 * k) ∧ lebDec 0 L = (lebDec k (L.drop k)).map (fun x => (out + 2 ^ (7 * k) * x.1, x.2 + k)))
    (fun _ _ vi => L.length - (intOf vi).toNat)
  case atStart => exact ⟨0, 0, rfl, rfl, rfl, by omega, by omega, by decide, by simp⟩
  case round =>
    obtain ⟨k, out, rfl, rfl, rfl, hk, hk8, hout, hdec⟩ := hrel
    have HD := Lib.hid hdec
    clear hdec
    by_cases hkl : k < L.length
    · have hc := hcell k hkl
      have hdrop : L.drop k = L[k] :: L.drop (k + 1) := List.drop_eq_getElem_cons hkl
      have hg : L.getD k 0 = L[k] := by simp [hkl]
      rw [hg] at hc
      generalize L[k] = c at hc hdrop
      have HDr := Lib.hid hdrop
      have hc256 := c.toNat_lt
      clear hcell hdrop hg
      have HO := Lib.hid hout
      clear hout
      by_cases h128 : 128 ≤ c.toNat
      · by_cases hk8' : k = 8
        · subst hk8'
          go_wp2
          all_goals (go_ret3; exact ⟨by rw [HD.out, HDr.out]; simp [lebDec, h128, getRes], rfl⟩)
        · have hk9 : k < 8 := by omega
          clear hk8'
          go_wp2
          go_round
          case rel =>
            have hp : 2 ^ (7 * (k + 1)) = 2 ^ (7 * k) * 128 := by rw [show 7 * (k + 1) = 7 * k + 7 from by omega, Nat.pow_add]
            refine ⟨k + 1, out + 2 ^ (7 * k) * (c.toNat - 128), by go_num, by go_num, ?_, by omega, by omega, ?_, ?_⟩
            · rw [u8_andNot128 _ h128 hc256, u64_shl_in _ _ (by omega) (by omega), or_shl _ _ _ HO.out (by omega) (by omega)]
            · have h1 := HO.out
              have h2 : 2 ^ (7 * k) * (c.toNat - 128) ≤ 2 ^ (7 * k) * 127 := Nat.mul_le_mul_left _ (by omega)
              rw [hp]
              omega
            · rw [HD.out, HDr.out]
              have : lebDec k (c :: L.drop (k + 1)) = (lebDec (k + 1) (L.drop (k + 1))).map (fun x => (c.toNat - 128 + 128 * x.1, x.2 + 1)) := by
                simp only [lebDec]
                rw [if_pos h128, if_neg (by omega)]
              rw [this, Option.map_map]
              congr 1
              funext x
              simp only [Function.comp, Prod.mk.injEq]
              refine ⟨?_, by omega⟩
              rw [hp, Nat.mul_add, Nat.mul_assoc]
              omega
          case measure => simp [intOf]; omega
      · have hlt : c.toNat < 128 := by omega
        by_cases h0 : c.toNat = 0
        · have hz : ((c.toNat : Int) == 0) = true := by simp [h0]
          have HZ := Lib.hid h0
          clear h0
          by_cases hk0 : 0 < k
          · go_wp2
            all_goals (go_ret3; exact ⟨by rw [HD.out, HDr.out]; simp [lebDec, HZ.out, hk0, getRes], rfl⟩)
          · have hk1 : decide (0 < k) = false := by simp; omega
            clear hk0
            have hd : lebDec k (c :: L.drop (k + 1)) = some (c.toNat, 1) := by
              simp only [lebDec]
              rw [if_neg h128, if_neg (by simp at hk1; omega)]
            have HD2 := Lib.hid hd
            clear hd
            go_wp2
            all_goals go_ret3
            all_goals refine ⟨?_, rfl⟩
            all_goals rw [u64_shl_in _ _ hlt hk8, or_shl _ _ _ HO.out hlt hk8, HD.out, HDr.out, HD2.out]
            all_goals exact getFin a k _ _ (getBound _ _ _ HO.out hlt hk8)
        · have hz : ((c.toNat : Int) == 0) = false := by simp [h0]
          have HZ := Lib.hid h0
          clear h0
          have hd : lebDec k (c :: L.drop (k + 1)) = some (c.toNat, 1) := by
            simp only [lebDec]
            rw [if_neg h128, if_neg (by have := HZ.out; omega)]
          have HD2 := Lib.hid hd
          clear hd
          go_wp2
          all_goals go_ret3
          all_goals refine ⟨?_, rfl⟩
          all_goals rw [u64_shl_in _ _ hlt hk8, or_shl _ _ _ HO.out hlt hk8, HD.out, HDr.out, HD2.out]
          all_goals exact getFin a k _ _ (getBound _ _ _ HO.out hlt hk8)
    · have hkl' : k = L.length := by omega
      go_wp2
      all_goals (go_ret3; exact ⟨by rw [HD.out, hkl']; simp [lebDec, getRes], rfl⟩)
open Go.RowKit
theorem u5 : Tryd.prog.underlying 5 = some (.int .u8) := by kernel_rfl

theorem get_bad (w : World) (ao : Option Addr) (n c : Nat) (a : Int) (ha : a < 0 ∨ (n : Int) < a) :
    Calls Tryd.prog 63 #[.slice ao n c, .int .i64 a] w fun e w' => e = .returned (.tuple #[.int .i64 0, .int .i64 0, .int .i64 1]) ∧ w = w' := by
  by_cases h0 : a < 0
  · have hd : decide (a < 0) = true := by simp [h0]
    clear ha
    go_enter Tryd.func63, Tryd.ntmps63
    go_wp2_with fail
    go_step3
    go_wp2_with fail
    rw [Exit.noGoto_ret]
    go_ret3
    exact ⟨rfl, rfl⟩
  · have hd : decide (a < 0) = false := by simp [h0]
    have h1 : (n : Int) < a := by omega
    have hd2 : decide ((n : Int) < a) = true := by simp [h1]
    clear ha
    go_enter Tryd.func63, Tryd.ntmps63
    go_wp2_with fail
    go_step3
    go_wp2_with fail
    rw [Exit.noGoto_ret]
    go_ret3
    exact ⟨rfl, rfl⟩

def getTextRes (l : List UInt8) (a : Nat) (most : Int) : Value :=
  match lebDec 0 (l.drop a) with
  | none => .tuple #[.string ⟨#[]⟩, .int .i64 0, .int .i64 6]
  | some x => if most < x.1 then .tuple #[.string ⟨#[]⟩, .int .i64 0, .int .i64 2]
      else if l.length < a + x.2 + x.1 then .tuple #[.string ⟨#[]⟩, .int .i64 0, .int .i64 6]
      else .tuple #[.string ⟨((l.drop (a + x.2)).take x.1).toArray⟩, .int .i64 ↑(a + x.2 + x.1), .int .i64 0]

set_option maxRecDepth 100000 in
set_option maxHeartbeats 1000000 in
theorem getText_in (w : World) (v : Value) (l : List UInt8) (hr : RB w v l) (a : Nat) (ha : a ≤ l.length) (most : Int) :
    Calls Tryd.prog 87 #[v, .int .i64 a, .int .i64 most] w fun e w' => e = .returned (getTextRes l a most) ∧ w = w' := by
  have HR := Lib.hid hr
  obtain ⟨ao, cap, rfl, h2, h3⟩ := hr.len
  clear hr
  have HG := Lib.hid (get_in w _ l HR.out a ha)
  cases hL : lebDec 0 (l.drop a) with
  | none =>
    have hR : getTextRes l a most = .tuple #[.string ⟨#[]⟩, .int .i64 0, .int .i64 6] := by unfold getTextRes; rw [hL]
    rw [hR]
    have HL := Lib.hid hL
    clear hL hR
    go_enter Tryd.func87, Tryd.ntmps87
    go_wp2_with fail
    refine HG.out.mono ?_
    rintro e w1 ⟨rfl, rfl⟩
    rw [HL.out]
    unfold getRes
    go_wp2_with fail
    go_ret3
    exact ⟨rfl, rfl⟩
  | some x =>
    obtain ⟨n, m⟩ := x
    have hp := lebDec_pos _ _ _ hL
    have hlt := lebDec_lt _ _ _ hL
    rw [List.length_drop] at hp
    have hm9 : m ≤ 9 := by have := hp.2.2; simp at this; exact this
    have hn63 : n ≤ 9223372036854775807 := by
      have h1 : 128 ^ m ≤ 128 ^ 9 := Nat.pow_le_pow_right (by decide) hm9
      simp only at hlt
      omega
    have hm1 : 1 ≤ m := hp.1
    have hml : a + m ≤ l.length := by have := hp.2.1; simp at this; omega
    have HL := Lib.hid hL
    clear hL hlt hp
    by_cases hmost : most < n
    · have hR : getTextRes l a most = .tuple #[.string ⟨#[]⟩, .int .i64 0, .int .i64 2] := by unfold getTextRes; rw [HL.out]; simp only []; rw [if_pos hmost]
      rw [hR]
      clear hR
      go_enter Tryd.func87, Tryd.ntmps87
      go_wp2_with fail
      refine HG.out.mono ?_
      rintro e w1 ⟨rfl, rfl⟩
      rw [HL.out]
      unfold getRes
      go_wp2_with fail
      go_ret3
      exact ⟨rfl, rfl⟩
    · by_cases hlen : l.length < a + m + n
      · have hR : getTextRes l a most = .tuple #[.string ⟨#[]⟩, .int .i64 0, .int .i64 6] := by unfold getTextRes; rw [HL.out]; simp only []; rw [if_neg hmost, if_pos hlen]
        rw [hR]
        clear hR
        go_enter Tryd.func87, Tryd.ntmps87
        go_wp2_with fail
        refine HG.out.mono ?_
        rintro e w1 ⟨rfl, rfl⟩
        rw [HL.out]
        unfold getRes
        go_wp2_with fail
        go_ret3
        exact ⟨rfl, rfl⟩
      · have hR : getTextRes l a most = .tuple #[.string ⟨((l.drop (a + m)).take n).toArray⟩, .int .i64 ↑(a + m + n), .int .i64 0] := by unfold getTextRes; rw [HL.out]; simp only []; rw [if_neg hmost, if_neg hlen]
        rw [hR]
        clear hR
        go_enter Tryd.func87, Tryd.ntmps87
        go_wp2_with fail
        refine HG.out.mono ?_
        rintro e w1 ⟨rfl, rfl⟩
        rw [HL.out]
        unfold getRes
        have hlh : a + m ≤ a + m + n := Nat.le_add_right _ _
        have hhl : a + m + n ≤ l.length := by omega
        go_wp2_with (refine wpList_reslice (o := ⟨some 38, _, _, _, _, _⟩) rfl _ _ (some _) (some _) rfl u22 sizeB _ l rfl HR.out (a + m) (a + m + n) hlh hhl (.inr ⟨.i64, rfl⟩) (.inr ⟨.i64, rfl⟩) ?_)
        intro ao' c' hr'
        have HR' := Lib.hid hr'
        clear hr'
        go_wp2_with (refine wpList_conv (o := ⟨some 39, _, _, _, _, _⟩) rfl _ _ _ rfl u22 u5 uStr _ _ rfl HR'.out ?_)
        go_ret3
        exact ⟨rfl, rfl⟩
open Go.RowKit
theorem uId : Tryd.prog.underlying 38 = some (.array 32 5) := by kernel_rfl
theorem sizeId : (Tryd.prog.info? 38).map (·.size) = some 32 := by kernel_rfl
theorem sizeB1 : (Tryd.prog.info? 5).map (·.size) = some 1 := by kernel_rfl

def zero32 : List UInt8 := List.replicate 32 0
theorem idCells_size {l : List UInt8} (h : l.length = 32) : (Lib.byteCells l).toArray.size = 32 := by simp [Lib.byteCells, h]
theorem sizeId_of {l : List UInt8} (h : l.length = 32) : (Tryd.prog.info? 38).map (·.size) = some (Lib.byteCells l).toArray.size := by rw [idCells_size h]; exact sizeId
theorem zero32_len : zero32.length = 32 := List.length_replicate

theorem allocId (ρ : Operand → Value) (d : Option Tmp) (ty : TypeId) (pos : String) (af : Array Edge) (w : World) : (execOp ρ ⟨d, .alloc 38, ty, pos, af, none⟩).run Tryd.prog w = .ok (.value (.pointer (some ⟨w.heap.size, 0, none⟩))) (w.alloc (.cells (Lib.byteCells zero32).toArray 38)) := by kernel_rfl

def getIdRes (l : List UInt8) (a : Nat) : Value :=
  if l.length - a < 32 then .tuple #[.agg (Lib.byteCells zero32).toArray, .int .i64 0, .int .i64 6]
  else .tuple #[.agg (Lib.byteCells ((l.drop a).take 32)).toArray, .int .i64 ↑(a + 32), .int .i64 0]

set_option maxRecDepth 100000 in
set_option maxHeartbeats 1000000 in
theorem getId_in (w : World) (v : Value) (l : List UInt8) (hr : RB w v l) (a : Nat) (ha : a ≤ l.length) :
    Calls Tryd.prog 75 #[v, .int .i64 a] w fun e w' => e = .returned (getIdRes l a) ∧ Ext w w' := by
  have HR := Lib.hid hr
  obtain ⟨ao, cap, rfl, h2, h3⟩ := hr.len
  clear hr
  have hd : decide ((a : Int) < 0) = false := by simp
  have hd2 : decide (l.length < a) = false := by simp; omega
  by_cases hs : l.length - a < 32
  · have hR : getIdRes l a = .tuple #[.agg (Lib.byteCells zero32).toArray, .int .i64 0, .int .i64 6] := by unfold getIdRes; rw [if_pos hs]
    rw [hR]
    clear hR
    go_enter Tryd.func75, Tryd.ntmps75
    have HSI := Lib.hid (sizeId_of zero32_len)
    go_wp2_with (first | (refine wpList_value (o := ⟨some 4, .alloc _, _, _, _, _⟩) rfl _ _ (allocId _ _ _ _ _ _) ?_) | (refine wpList_load_row (o := ⟨some 21, _, _, _, _, _⟩) rfl _ _ rfl w.heap.size rfl _ _ _ _ (heap_alloc_new w _) uId rfl HSI.out ?_) | (refine wpList_store_same (o := ⟨none, .store _ _ _, _, _, _, _⟩) rfl _ _ _ rfl w.heap.size rfl (Lib.byteCells zero32).toArray 38 rfl (heap_alloc_new w _) HSI.out (byteCells_one zero32) ?_))
    refine bodyPost_ret (v := .tuple #[.agg (Lib.byteCells zero32).toArray, .int .i64 0, .int .i64 6]) (results_cell2 Tryd.results75 _ _ w.heap.size 38 (Lib.byteCells zero32).toArray (0, 0) _ rfl (heap_alloc_new w _) uId rfl HSI.out) rfl ⟨rfl, (Below.refl _ _).alloc (Nat.le_refl _) _⟩
  · have hR : getIdRes l a = .tuple #[.agg (Lib.byteCells ((l.drop a).take 32)).toArray, .int .i64 ↑(a + 32), .int .i64 0] := by unfold getIdRes; rw [if_neg hs]
    rw [hR]
    clear hR
    go_enter Tryd.func75, Tryd.ntmps75
    go_wp2_with (refine wpList_value (o := ⟨some 4, .alloc _, _, _, _, _⟩) rfl _ _ (allocId _ _ _ _ _ _) ?_)
    have hal : a + 32 ≤ l.length := by omega
    obtain ⟨w0, hw0⟩ : ∃ w0, w0 = w.alloc (.cells (Lib.byteCells zero32).toArray 38) := ⟨_, rfl⟩
    have hbox : w0.heap[w.heap.size]? = some (.cells (Lib.byteCells zero32).toArray 38 (0, 0)) := by rw [hw0]; exact heap_alloc_new w _
    have hsz : w0.heap.size = w.heap.size + 1 := by rw [hw0]; simp
    have hb0 : Below w.heap.size w w0 := by rw [hw0]; exact (Below.refl _ _).alloc (Nat.le_refl _) _
    rw [← hw0]
    clear hw0
    have hl32 : ((l.drop a).take 32).length = 32 := by rw [List.length_take, List.length_drop]; omega
    have HL32 := Lib.hid hl32
    clear hl32 hd hd2
    refine wp_region_kill [4] (fun n => if n = 4 then [3] else []) (fun w' => Below w.heap.size w0 w' ∧ ∃ cur : Array Value, cur.size = 32 ∧ w'.heap[w.heap.size]? = some (.cells cur 38 (0, 0)))
      (fun w1 w2 => w1.grownBy w2 (some w.heap.size) ∧ ((∃ cur : Array Value, cur.size = 32 ∧ w1.heap[w.heap.size]? = some (.cells cur 38 (0, 0))) → ∃ cur : Array Value, cur.size = 32 ∧ w2.heap[w.heap.size]? = some (.cells cur 38 (0, 0))))
      [Is (.slice (some ⟨w.heap.size, 0, none⟩) 32 32), Is (.slice ao l.length cap), Is (.int .i64 a), (fun x w' => RB w' x (l.drop a)), (fun _ w' => w'.heap[w.heap.size]? = some (.cells (Lib.byteCells ((l.drop a).take 32)).toArray 38 (0, 0)))]
      (by kernel_rfl) _ _ (by kernel_rfl) (by kernel_rfl) [22, 23, 24, 25, 26] (by kernel_rfl)
      (fun w1 w2 h k => ⟨h.1.trans (k.mono (by have := h.1.size; have := hsz; omega)), by obtain ⟨cur, h1, h2⟩ := h.2; exact ⟨cur, h1, (k.block _ (Array.getElem?_eq_some_iff.1 h2).1).trans h2⟩⟩)
      (fun w1 w2 h k => ⟨h.1.grown k.1 (by have := h.1.size; have := hsz; omega) (fun _ e => by cases e; exact Nat.le_refl _), k.2 h.2⟩) (fun w => ⟨World.grownBy.refl _ _, fun h => h⟩) ⟨(Below.refl _ _).drew, _, idCells_size rfl, hbox⟩ ?hst ?hsk ?hs ?hQ
    case hst =>
      refine ⟨Stab.is _, Stab.is _, Stab.is _, Stab.rb _, fun v w1 w2 h k => ?_, trivial⟩
      have h' : w1.heap[w.heap.size]? = _ := h
      exact (k.block _ (Array.getElem?_eq_some_iff.1 h').1).trans h'
    case hsk =>
      intro n i hn hi hk hne hb
      simp at hn
      subst hn
      match i, hi, hk, hne, hb with
      | 0, _, _, _, _ => exact Stab.is _
      | 1, _, _, _, _ => exact Stab.is _
      | 2, _, _, _, _ => exact Stab.is _
      | 3, _, hk, _, _ => simp at hk
      | 4, _, _, hne, _ => simp at hne
    case hs =>
      refine ⟨?_, ?_, ?_, ?_, ?_, trivial⟩
      · refine stepNone rfl fun ρ w1 hC h => ?_
        have h4 : ρ 4 = .pointer (some ⟨w.heap.size, 0, none⟩) := h 4 (by decide)
        refine Yk.value (v := .slice (some ⟨w.heap.size, 0, none⟩) 32 32) (w' := w1) ?_ ⟨Ext.refl _, rfl⟩
        clear h hC
        simp [execOp, evalR, h4, go_sem]
      · refine stepNone rfl fun ρ w1 hC h => ?_
        have h0 : ρ 0 = .slice ao l.length cap := h 0 (by decide)
        exact ⟨Ext.refl _, h0⟩
      · refine stepNone rfl fun ρ w1 hC h => ?_
        have h0 : ρ 1 = .int .i64 a := h 1 (by decide)
        exact ⟨Ext.refl _, h0⟩
      · refine stepNone rfl fun ρ w1 hC h => ?_
        have h23 : ρ 23 = .slice ao l.length cap := h 23 (by decide)
        have h24 : ρ 24 = .int .i64 a := h 24 (by decide)
        have hr1 : RB w1 (evalR ρ (.tmp 23)) l := by show RB w1 (ρ 23) l; rw [h23]; exact HR.out.keep (hb0.trans hC.1)
        refine Yk.reslice u22 sizeB hr1 a l.length ha (Nat.le_refl _) (.inr ⟨.i64, by simp [evalR, h24]⟩) (.inl ⟨rfl, rfl⟩) ?_
        intro ao' c' hr'
        rw [List.take_of_length_le (by rw [List.length_drop]; exact Nat.le_refl _)] at hr'
        exact ⟨Ext.refl _, hr'⟩
      · refine stepNone rfl fun ρ w1 hC h => ?_
        have h22 : ρ 22 = .slice (some ⟨w.heap.size, 0, none⟩) 32 32 := h 22 (by decide)
        have h25 : RB w1 (ρ 25) (l.drop a) := h 25 (by decide)
        obtain ⟨hC1, cur, hcs, hcb⟩ := hC
        have hm : Nat.min (l.drop a).length 32 = 32 := Nat.min_eq_right (by rw [List.length_drop]; exact Nat.le_sub_of_add_le (by rw [Nat.add_comm]; exact hal))
        have hfit : 0 + Nat.min (l.drop a).length 32 ≤ cur.size := by rw [hm, hcs]; exact Nat.le_refl _
        refine Yk.copyB (.tmp 22) (.tmp 25) (o := 0) u22 sizeB1 h22 h25 hcb hfit ?_
        have e : (cur.toList.take 0 ++ Lib.byteCells ((l.drop a).take 32) ++ cur.toList.drop (0 + Nat.min (l.drop a).length 32)).toArray = (Lib.byteCells ((l.drop a).take 32)).toArray := by
          have hd0 : cur.toList.drop (0 + 32) = [] := List.drop_of_length_le (Nat.le_of_eq (by rw [Array.length_toList, hcs]))
          rw [hm, hd0]
          simp
        rw [e]
        have hw := setRow_heap w1 w.heap.size cur (Lib.byteCells ((l.drop a).take 32)).toArray 38 (0, 0) hcb
        exact ⟨⟨⟨rfl, rfl, rfl, by simp, fun k _ hk => setRow_other w1 w.heap.size k _ (fun e => hk (by rw [e]))⟩, fun _ => ⟨_, idCells_size HL32.out, hw⟩⟩, hw⟩
    case hQ =>
      intro u w1 hC hE
      obtain ⟨-, -, -, -, h26, -⟩ := hE
      have hblk : w1.heap[w.heap.size]? = some (.cells (Lib.byteCells ((l.drop a).take 32)).toArray 38 (0, 0)) := h26
      clear h26
      simp only [wrote, List.foldl_cons, List.foldl_nil, List.setIfInBounds_toArray, List.set_cons_zero, List.set_cons_succ]
      have hsi : (Tryd.prog.info? 38).map (·.size) = some (Lib.byteCells ((l.drop a).take 32)).toArray.size := by rw [idCells_size HL32.out]; exact sizeId
      have HB := Lib.hid hblk
      clear hblk
      have HSI := Lib.hid hsi
      clear hsi
      go_wp2_with (first | (refine wpList_load_row (o := ⟨some 27, _, _, _, _, _⟩) rfl _ _ rfl w.heap.size rfl _ _ _ _ HB.out uId rfl HSI.out ?_) | (refine wpList_store_same (o := ⟨none, .store _ _ _, _, _, _, _⟩) rfl _ _ _ rfl w.heap.size rfl (Lib.byteCells ((l.drop a).take 32)).toArray 38 rfl HB.out HSI.out (byteCells_one _) ?_))
      refine bodyPost_ret (v := .tuple #[.agg (Lib.byteCells ((l.drop a).take 32)).toArray, .int .i64 ↑(a + 32), .int .i64 0]) ?_ rfl ⟨rfl, hb0.trans hC.1⟩
      exact results_cell2 Tryd.results75 _ _ w.heap.size 38 _ (0, 0) _ rfl HB.out uId rfl HSI.out
open Go.RowKit
set_option maxHeartbeats 400000 in
theorem putText_any (w : World) (v : Value) (l : List UInt8) (hr : RB w v l) (s : ByteArray) (hl : l.length + s.size + 16 ≤ 140737488355328) :
    Calls Tryd.prog 24 #[v, .string s] w fun e w' => ∃ v', e = .returned v' ∧ NewB 5 w w' v' (l ++ Lib.uvarint s.size ++ s.data.toList) := by
  obtain ⟨i0, hi, hz0, hz1, hz2⟩ := info_parts infoB
  have h9 := uvarint_len63 s.size (by omega)
  have hss : s.data.toList.length = s.size := by simp
  have HSS := Lib.hid hss
  clear hss
  go_enter Tryd.func24, Tryd.ntmps24
  go_wp2_with fail
  refine (own_any _ _ l hr (by omega)).mono ?_
  rintro e w1 ⟨v1, rfl, h1⟩
  go_wp2_with fail
  refine (number_any w.heap.size l.length s.size (by omega) v1 _ w1 h1.own h1.by_.size (by omega)).mono ?_
  rintro e w2 ⟨v2, rfl, ho, g⟩
  have h2 := h1.more g ho
  go_wp2_with (at_builtin; refine wpList_append_src _ rfl _ _ 24 9 rfl w.heap.size 5 i0 (.int .u8 0) 1 1 u22 hi hz0 hz1 hz2 rfl _ _ _ rfl h2.own (.string s) _ _ rfl (srcString uStr _ s) ?c1 ?c2 ?c3 ?_)
  case c1 => have := HSS.out; rw [this, List.length_append]; unfold maxLen; omega
  case c2 => have := HSS.out; rw [this, List.length_append]; omega
  case c3 => exact h2.by_.size
  intro v' w3 hown' hgrow
  go_wp2
  go_ret
  exact ⟨v', rfl, h2.more hgrow (by rw [HSS.out, List.length_append]; exact hown')⟩

open Go.RowKit
variable {P : Program}
def cellsU (l : List UInt32) : Array Value := (l.map fun x => U x).toArray
theorem cellsU_size (l : List UInt32) : (cellsU l).size = l.length := by simp [cellsU]
theorem cellsU_one (l : List UInt32) : ∀ v ∈ (cellsU l).toList, v.oneCell' = true := by
  intro v hv
  simp [cellsU] at hv
  obtain ⟨x, -, rfl⟩ := hv
  rfl
namespace Sha
def rotr (x : UInt32) (n : Nat) : UInt32 := x <<< UInt32.ofNat (32 - n) ||| x >>> UInt32.ofNat n
def be4 (b : List UInt8) (t : Nat) : UInt32 :=
  (b.getD (4 * t) 0).toUInt32 <<< 24 ||| (b.getD (4 * t + 1) 0).toUInt32 <<< 16 ||| (b.getD (4 * t + 2) 0).toUInt32 <<< 8 ||| (b.getD (4 * t + 3) 0).toUInt32
def low (x : UInt32) : UInt32 := rotr x 7 ^^^ rotr x 18 ^^^ x >>> 3
def high (y : UInt32) : UInt32 := rotr y 17 ^^^ rotr y 19 ^^^ y >>> 10
def nextW (b : List UInt8) (l : List UInt32) (t : Nat) : UInt32 :=
  if t < 16 then be4 b t else high (l.getD (t - 2) 0) + l.getD (t - 7) 0 + low (l.getD (t - 15) 0) + l.getD (t - 16) 0
def sched (b : List UInt8) : Nat → List UInt32
  | 0 => []
  | t + 1 => sched b t ++ [nextW b (sched b t) t]
theorem sched_length (b : List UInt8) : ∀ t, (sched b t).length = t
  | 0 => rfl
  | t + 1 => by simp [sched, sched_length b t]
def first : List UInt32 := [0x6a09e667, 0xbb67ae85, 0x3c6ef372, 0xa54ff53a, 0x510e527f, 0x9b05688c, 0x1f83d9ab, 0x5be0cd19]
def words : List UInt32 := [0x428a2f98, 0x71374491, 0xb5c0fbcf, 0xe9b5dba5, 0x3956c25b, 0x59f111f1, 0x923f82a4, 0xab1c5ed5, 0xd807aa98, 0x12835b01, 0x243185be, 0x550c7dc3, 0x72be5d74, 0x80deb1fe, 0x9bdc06a7, 0xc19bf174, 0xe49b69c1, 0xefbe4786, 0x0fc19dc6, 0x240ca1cc, 0x2de92c6f, 0x4a7484aa, 0x5cb0a9dc, 0x76f988da, 0x983e5152, 0xa831c66d, 0xb00327c8, 0xbf597fc7, 0xc6e00bf3, 0xd5a79147, 0x06ca6351, 0x14292967, 0x27b70a85, 0x2e1b2138, 0x4d2c6dfc, 0x53380d13, 0x650a7354, 0x766a0abb, 0x81c2c92e, 0x92722c85, 0xa2bfe8a1, 0xa81a664b, 0xc24b8b70, 0xc76c51a3, 0xd192e819, 0xd6990624, 0xf40e3585, 0x106aa070, 0x19a4c116, 0x1e376c08, 0x2748774c, 0x34b0bcb5, 0x391c0cb3, 0x4ed8aa4a, 0x5b9cca4f, 0x682e6ff3, 0x748f82ee, 0x78a5636f, 0x84c87814, 0x8cc70208, 0x90befffa, 0xa4506ceb, 0xbef9a3f7, 0xc67178f2]
def up (v : List UInt32) (k w : UInt32) : UInt32 :=
  v.getD 7 0 + (rotr (v.getD 4 0) 6 ^^^ rotr (v.getD 4 0) 11 ^^^ rotr (v.getD 4 0) 25) + (v.getD 4 0 &&& v.getD 5 0 ^^^ ~~~(v.getD 4 0) &&& v.getD 6 0) + k + w
def two (v : List UInt32) : UInt32 := rotr (v.getD 0 0) 2 ^^^ rotr (v.getD 0 0) 13 ^^^ rotr (v.getD 0 0) 22
def most (v : List UInt32) : UInt32 := v.getD 0 0 &&& v.getD 1 0 ^^^ v.getD 0 0 &&& v.getD 2 0 ^^^ v.getD 1 0 &&& v.getD 2 0
def round (v : List UInt32) (k w : UInt32) : List UInt32 :=
  [up v k w + two v + most v, v.getD 0 0, v.getD 1 0, v.getD 2 0, v.getD 3 0 + up v k w, v.getD 4 0, v.getD 5 0, v.getD 6 0]
def turned (s ws : List UInt32) : Nat → List UInt32
  | 0 => s
  | t + 1 => round (turned s ws t) (words.getD t 0) (ws.getD t 0)
theorem turned_length (s ws : List UInt32) (hs : s.length = 8) : ∀ t, (turned s ws t).length = 8
  | 0 => hs
  | _ + 1 => rfl
def added (v s : List UInt32) : List UInt32 := List.zipWith (· + ·) v s
def rounds (s : List UInt32) (b : List UInt8) : List UInt32 := added (turned s (sched b 64) 64) s
theorem rounds_length (s : List UInt32) (b : List UInt8) (hs : s.length = 8) : (rounds s b).length = 8 := by
  simp [rounds, added, turned_length _ _ hs, hs]
def blocks (s : List UInt32) (b : List UInt8) : Nat → List UInt32
  | 0 => s
  | n + 1 => blocks (rounds s (b.take 64)) (b.drop 64) n
theorem blocks_length (n : Nat) : ∀ (s : List UInt32) (b : List UInt8), s.length = 8 → (blocks s b n).length = 8 := by
  induction n with
  | zero => exact fun s b h => h
  | succ n ih => exact fun s b h => ih _ _ (rounds_length _ _ h)
def be64 (n : Nat) : List UInt8 := (List.range 8).map fun i => UInt8.ofNat (n / 2 ^ (56 - 8 * i))
def tail (n : Nat) : List UInt8 := 128 :: (List.replicate ((119 - n % 64) % 64) 0 ++ be64 (8 * n))
def out (s : List UInt32) : List UInt8 := s.flatMap fun (w : UInt32) => [(w >>> 24).toUInt8, (w >>> 16).toUInt8, (w >>> 8).toUInt8, w.toUInt8]
def sum (b : List UInt8) : List UInt8 := out (blocks first (b ++ tail b.length) ((b ++ tail b.length).length / 64))
end Sha
open Go.RowKit
namespace Sha
def pad64 (l : List UInt32) : List UInt32 := l ++ List.replicate (64 - l.length) 0
theorem pad64_length (l : List UInt32) (h : l.length ≤ 64) : (pad64 l).length = 64 := by simp [pad64]; omega
theorem pad64_get (l : List UInt32) (i : Nat) : (pad64 l).getD i 0 = l.getD i 0 := by
  unfold pad64
  simp only [List.getD_eq_getElem?_getD]
  rw [List.getElem?_append]
  split
  · rfl
  · rename_i h
    rw [List.getElem?_replicate, List.getElem?_eq_none (by omega)]
    split <;> rfl
theorem pad64_set (l : List UInt32) (x : UInt32) (h : l.length < 64) : (pad64 l).set l.length x = pad64 (l ++ [x]) := by
  unfold pad64
  rw [List.set_append_right _ _ (Nat.le_refl _), Nat.sub_self]
  obtain ⟨k, hk⟩ : ∃ k, 64 - l.length = k + 1 := ⟨64 - l.length - 1, by omega⟩
  rw [hk, List.replicate_succ, List.set_cons_zero]
  have : 64 - (l ++ [x]).length = k := by simp; omega
  rw [this]
  simp
theorem pad64_full (l : List UInt32) (h : l.length = 64) : pad64 l = l := by simp [pad64, h]
theorem sched_step1 (b : List UInt8) (t : Nat) (h : t < 16) : (pad64 (sched b t)).set t (be4 b t) = pad64 (sched b (t + 1)) := by
  have := pad64_set (sched b t) (be4 b t) (by rw [sched_length]; omega)
  rw [sched_length] at this
  rw [this]
  simp [sched, nextW, h]
theorem sched_step2 (b : List UInt8) (t : Nat) (h : 16 ≤ t) (h2 : t < 64) : (pad64 (sched b t)).set t (high ((pad64 (sched b t)).getD (t - 2) 0) + (pad64 (sched b t)).getD (t - 7) 0 + low ((pad64 (sched b t)).getD (t - 15) 0) + (pad64 (sched b t)).getD (t - 16) 0) = pad64 (sched b (t + 1)) := by
  simp only [pad64_get]
  have := pad64_set (sched b t) (nextW b (sched b t) t) (by rw [sched_length]; omega)
  rw [sched_length] at this
  rw [sched, ← this]
  unfold nextW
  rw [if_neg (by omega)]
end Sha
structure Laid (w : World) : Prop where
  first : ∃ t fr, w.heap[0]? = some (.cells (cellsU Sha.first) t fr)
  words : ∃ t fr, w.heap[1]? = some (.cells (cellsU Sha.words) t fr)
theorem Laid.keep {w w' : World} (h : Laid w) (k : Ext w w') : Laid w' := ⟨by obtain ⟨t, fr, h1⟩ := h.first; exact ⟨t, fr, k.blk' h1⟩, by obtain ⟨t, fr, h1⟩ := h.words; exact ⟨t, fr, k.blk' h1⟩⟩
theorem Laid.two {w : World} (h : Laid w) : 1 < w.heap.size := by
  obtain ⟨t, fr, h1⟩ := h.words
  exact (Array.getElem?_eq_some_iff.1 h1).1
def Sha.adding (v s : List UInt32) : Nat → List UInt32
  | 0 => v
  | i + 1 => (Sha.adding v s i).set i ((Sha.adding v s i).getD i 0 + s.getD i 0)
theorem Sha.adding_length (v s : List UInt32) : ∀ i, (Sha.adding v s i).length = v.length
  | 0 => rfl
  | i + 1 => by simp [Sha.adding, Sha.adding_length v s i]
theorem Sha.adding_get (v s : List UInt32) (h : s.length = v.length) : ∀ i j, j < v.length → (Sha.adding v s i).getD j 0 = if j < i then v.getD j 0 + s.getD j 0 else v.getD j 0
  | 0, j, _ => by simp [Sha.adding]
  | i + 1, j, hj => by
    have ih := Sha.adding_get v s h i
    unfold Sha.adding
    by_cases hij : i = j
    · subst hij
      have hl : i < (Sha.adding v s i).length := by rw [Sha.adding_length]; exact hj
      rw [List.getD_eq_getElem?_getD, List.getElem?_set_self hl, Option.getD_some, ih i hj, if_neg (Nat.lt_irrefl _), if_pos (Nat.lt_succ_self _)]
    · rw [List.getD_eq_getElem?_getD, List.getElem?_set_ne hij, ← List.getD_eq_getElem?_getD, ih j hj]
      by_cases h1 : j < i
      · rw [if_pos h1, if_pos (by omega)]
      · rw [if_neg h1, if_neg (by omega)]
theorem Sha.adding_all (v s : List UInt32) (h : s.length = v.length) : Sha.adding v s v.length = Sha.added v s := by
  apply List.ext_getElem (by simp [Sha.adding_length, Sha.added, h])
  intro j h1 h2
  have hj : j < v.length := by rw [Sha.adding_length] at h1; exact h1
  have := Sha.adding_get v s h v.length j hj
  rw [if_pos hj] at this
  have hs : j < s.length := by omega
  simp [List.getD_eq_getElem?_getD, h1, hj, hs] at this
  rw [this]
  simp [Sha.added]

theorem Sha.adding_end {v s : List UInt32} {i : Nat} (h : s.length = 8) (hv : v.length = 8) (h1 : i ≤ 8) (h2 : ¬ i < 8) : Sha.adding v s i = Sha.added v s := by
  have := Sha.adding_all v s (by omega)
  rw [hv] at this
  rw [show i = 8 by omega, this]
def rotSet : List Nat := [2, 6, 7, 11, 13, 17, 18, 19, 22, 25]
theorem rot_and (n : Nat) (hn : n ∈ rotSet) (t : TypeId) : Go.binOp .and t (.int .u64 (IntKind.u64.wrap (-(n : Int)))) (.int .u64 ((31 : Nat) : Int)) = pure (.int .u64 ((32 - n : Nat) : Int)) := by
  unfold rotSet at hn
  simp only [List.mem_cons, List.not_mem_nil, or_false] at hn
  rcases hn with rfl | rfl | rfl | rfl | rfl | rfl | rfl | rfl | rfl | rfl <;> rfl
theorem rot_lt {n : Nat} (hn : n ∈ rotSet) : 0 < n ∧ n < 32 := by
  unfold rotSet at hn
  simp only [List.mem_cons, List.not_mem_nil, or_false] at hn
  omega
theorem Yk.negSet {P : Program} {K : Value → World → Prop} {ρ : Slots} {w : World} {d : Option Tmp} {ty : TypeId} {pos : String} {af : Array Edge} {gd : Option (Nat × Bool)} {t : TypeId} {x : Operand} {n : Nat} (hn : n ∈ rotSet) (hx : evalR ρ x = NI n) (hk : K (.int .i64 (-(n : Int))) w) : Yk P K ((execOp (evalR ρ) ⟨d, .unOp .neg t x, ty, pos, af, gd⟩).run P w) := by
  have h := rot_lt hn
  refine Yk.value (v := .int .i64 (-(n : Int))) (w' := w) ?_ hk
  have hw : IntKind.i64.wrap (-(n : Int)) = -(n : Int) := by
    simp only [IntKind.wrap, IntKind.bits, IntKind.signed]
    simp
    omega
  unfold execOp
  simp [hx, Op.unary, Op.intArith, hw]
theorem Yk.build8 {P : Program} {K : Value → World → Prop} {ρ : Slots} {w : World} {d : Option Tmp} {ty : TypeId} {pos : String} {af : Array Edge} {gd : Option (Nat × Bool)} {t : TypeId} {x0 x1 x2 x3 x4 x5 x6 x7 : Operand} {v0 v1 v2 v3 v4 v5 v6 v7 v : Value} (h0 : evalR ρ x0 = v0) (h1 : evalR ρ x1 = v1) (h2 : evalR ρ x2 = v2) (h3 : evalR ρ x3 = v3) (h4 : evalR ρ x4 = v4) (h5 : evalR ρ x5 = v5) (h6 : evalR ρ x6 = v6) (h7 : evalR ρ x7 = v7) (hr : ∀ w : World, (Instr.build t #[(0, v0), (1, v1), (2, v2), (3, v3), (4, v4), (5, v5), (6, v6), (7, v7)]).run P w = .ok v w) (hk : K v w) : Yk P K ((execOp (evalR ρ) ⟨d, .build t #[(0, x0), (1, x1), (2, x2), (3, x3), (4, x4), (5, x5), (6, x6), (7, x7)], ty, pos, af, gd⟩).run P w) := by
  refine Yk.value (v := v) (w' := w) ?_ hk
  unfold execOp
  simp only [List.map_toArray, List.map_cons, List.map_nil, h0, h1, h2, h3, h4, h5, h6, h7, Sem.run_bind, hr, Result.andThen_ok, Sem.run_pure]
open Go.RowKit
set_option maxRecDepth 100000
theorem shaW_ty3 : Tryd.prog.underlying 3 = some (.int .i64) := by kernel_rfl
theorem shaW_ty90 : Tryd.prog.underlying 90 = some (.int .u64) := by kernel_rfl
theorem shaW_pl90 : Plain Tryd.prog 90 := fun _ _ => by kernel_rfl
theorem shaW_isz89 : (Tryd.prog.info? 89).map (·.size) = some 64 := by kernel_rfl
theorem shaW_al89 {d : Option Tmp} {ty : TypeId} {pos : String} {af : Array Edge} {gd : Option (Nat × Bool)} (σ : Operand → Value) (w : World) : (execOp σ ⟨d, .alloc 89, ty, pos, af, gd⟩).run Tryd.prog w = .ok (.value (PQ w.heap.size 0)) (w.alloc (.cells ((List.replicate 64 0).map fun x => U x).toArray 89)) := by kernel_rfl
theorem shaW_ty24 : Tryd.prog.underlying 24 = some (.slice 5) := by kernel_rfl
theorem shaW_sz5 : ∀ w' : World, (sizeOf 5).run Tryd.prog w' = .ok 1 w' := fun _ => by kernel_rfl
theorem shaW_ty5 : Tryd.prog.underlying 5 = some (.int .u8) := by kernel_rfl
theorem shaW_ty87 : Tryd.prog.underlying 87 = some (.int .u32) := by kernel_rfl
theorem shaW_ty89 : Tryd.prog.underlying 89 = some (.array 64 87) := by kernel_rfl
theorem shaW_sz87 : ∀ w' : World, (sizeOf 87).run Tryd.prog w' = .ok 1 w' := fun _ => by kernel_rfl
theorem shaW_isz87 : (Tryd.prog.info? 87).map (·.size) = some 1 := by kernel_rfl
theorem shaW_pl79 : Plain Tryd.prog 79 := fun _ _ => by kernel_rfl
theorem shaW_isz88 : (Tryd.prog.info? 88).map (·.size) = some 8 := by kernel_rfl
theorem shaW_al88 {d : Option Tmp} {ty : TypeId} {pos : String} {af : Array Edge} {gd : Option (Nat × Bool)} (σ : Operand → Value) (w : World) : (execOp σ ⟨d, .alloc 88, ty, pos, af, gd⟩).run Tryd.prog w = .ok (.value (PQ w.heap.size 0)) (w.alloc (.cells ((List.replicate 8 0).map fun x => U x).toArray 88)) := by kernel_rfl
theorem shaW_ty88 : Tryd.prog.underlying 88 = some (.array 8 87) := by kernel_rfl
theorem shaW_pl78 : Plain Tryd.prog 78 := fun _ _ => by kernel_rfl
theorem shaW_bA8 (a b c d e f g h : UInt32) (w : World) : (Instr.build 88 #[(0, U a), (1, U b), (2, U c), (3, U d), (4, U e), (5, U f), (6, U g), (7, U h)]).run Tryd.prog w = .ok (.agg (([a, b, c, d, e, f, g, h] : List UInt32).map fun x => U x).toArray) w := by kernel_rfl
set_option maxHeartbeats 1600000
theorem rotl_any (w : World) (x : UInt32) (n : Nat) (hn : n ∈ rotSet) :
  Calls Tryd.prog 90 #[U x, .int .i64 (-(n : Int))] w fun e w' => e = .returned (U (Sha.rotr x n)) ∧ Ext w w' := by
 obtain ⟨hn0, hn1⟩ := rot_lt hn
 refine gG (args := [U (x), (.int .i64 (-(n : Int)))]) Tryd.func90 rfl 17 rfl rfl ?_
 have hE := Ext.refl w
 refine gS (Yk.convI shaW_ty3 shaW_ty90 rfl rfl (gS (Yk.bin (yv := .int .u64 ((31 : Nat) : Int)) rfl rfl rfl (rot_and n hn _) (gS (Yk.bin (yv := .int .u64 ((32 - n : Nat) : Int)) rfl rfl rfl (u_shl _ _ _ (32 - n) (by omega)) (gS (Yk.bin (xv := .int .u64 ((32 : Nat) : Int)) (yv := .int .u64 ((32 - n : Nat) : Int)) rfl rfl rfl (u64_sub _ _ _ (by omega) (by omega)) (gS (Yk.bin (yv := .int .u64 (((32) - (32 - n) : Nat) : Int)) rfl rfl rfl (u_shr _ _ _ ((32) - (32 - n)) (by omega)) (gS (Yk.bin rfl rfl rfl (u_or _ _ _) (rt1 rfl (vr (U (((x) <<< UInt32.ofNat (32 - n)) ||| ((x) >>> UInt32.ofNat ((32) - (32 - n))))) rfl) ?_))))))))))))
 refine ⟨?_, hE⟩
 unfold Sha.rotr
 rw [show 32 - (32 - n) = n by omega]

theorem turn_any (w : World) (x : UInt32) (n : Nat) (hn : n ∈ rotSet) :
  Calls Tryd.prog 79 #[U x, NI n] w fun e w' => e = .returned (U (Sha.rotr x n)) ∧ Ext w w' := by
 refine gG (args := [U (x), NI n]) Tryd.func79 rfl 9 rfl rfl ?_
 have hE := Ext.refl w
 refine gS (Yk.negSet hn rfl (gS (Yk.callA2 shaW_pl90 rfl rfl ((rotl_any _ x n hn).mono ?_))))
 rintro e w4 ⟨rfl, hx3⟩
 refine ⟨_, rfl, ?_⟩
 refine rt1 rfl (vr (U (Sha.rotr (x) n)) rfl) ?_
 have hE := hE.trans hx3
 exact ⟨rfl, hE⟩

theorem schedule_any (w : World) (v : Value) (b : List UInt8) (hb : RB w v b) (hl : b.length = 64) :
  Calls Tryd.prog 78 #[v] w fun e w' => e = .returned (.agg (cellsU (Sha.sched b 64))) ∧ Ext w w' := by
 refine gG (args := [v]) Tryd.func78 rfl 93 rfl rfl ?_
 have hE := Ext.refl w
 refine gS (Yk.alloc shaW_al89 fun n2 w3 hn4 hb5 hx6 hs7 => ?_)
 have hb8 := hb5; clear hb5
 have hl9 : n2 < w3.heap.size := by omega
 refine gS (Yk.alloc shaW_al89 fun n11 w12 hn13 hb14 hx15 hs16 => ?_)
 have hA17 := Ext.refl w3
 have hE := hE.trans hx6
 have hz19 := hE.size
 have hb21 := hb14; clear hb14
 have hl22 : n11 < w12.heap.size := by omega
 have hlt20 := lte (bl hb8) hn13
 have hb8 := eb hx15 hb8
 have hE := hE.trans hx15
 have hA17 := hA17.trans hx15
 refine gL (fun (ρ : Slots) (wz : World) => ∃ t : Nat, ρ 0 = (v : Value) ∧ ρ 2 = (PQ n2 0 : Value) ∧ ρ 3 = (PQ n11 0 : Value) ∧ ρ 10 = (NI t : Value) ∧ Ext w wz ∧ wz.heap[n2]? = some (.cells ((List.replicate 64 0).map fun x => U x).toArray 89 (0, 0)) ∧ Ext w3 wz ∧ wz.heap[n11]? = some (.cells ((Sha.pad64 (Sha.sched b t)).map fun x => U x).toArray 89 (0, 0)) ∧ (t ≤ 16) ∧ True) (fun ρ _ => 16 - (intOf (ρ 10)).toNat) ⟨0, rfl, rfl, rfl, rfl, hE, hb8, hA17, blk_eq hb21 (rfl), by omega, trivial⟩ ?_
 clear hb21
 clear hE hb8
 rintro ρ25 w26 ⟨t, T0, T2, T3, T10, hE, hb8, hA17, hb21l, ht_t, -⟩
 have q10 := T10
 have hpl_t : (Sha.pad64 (Sha.sched b t)).length = 64 := Sha.pad64_length _ (by rw [Sha.sched_length]; omega)
 obtain ⟨Bt, hBt⟩ : ∃ B, B = Sha.pad64 (Sha.sched b t) := ⟨_, rfl⟩
 have hb21l : w26.heap[n11]? = some (.cells ((Bt).map fun x => U x).toArray 89 (0, 0)) := blk_eq hb21l (by rw [hBt])
 rw [← hBt] at hpl_t
 refine gS (Yk.eqI (a := (t : Nat)) (b := (16 : Nat)) T10 rfl (k_lss _ _ _ _) ?_)
 refine cD rfl (fun hc0 => ?_) fun hc0 => ?_
 ·refine gM0 [0, 1, 2, 3, 4, 5, 6, 7, 8, 9, 10, 11, 12, 13, 14, 15, 16, 17, 18, 19, 20, 21, 22, 23, 24, 25, 26, 27, 28, 29, 30, 31, 32, 33, 34, 35] [35] [] fun w31 hx32 => ?_
  have hE := hE.trans hx32
  have hb21l := eb hx32 hb21l
  refine ys (Yk.bin (xv := NI 4) (yv := NI t) rfl T10 rfl (i64_mul _ _ _ (by omega)) zz) (yA (Yk.atRB (l := b) (i := (4) * (t)) shaW_ty24 shaW_sz5 (RB.of (hb.keep hE) T0) rfl (by omega) fun v33 hp34 => (ys (Yk.loadC shaW_ty5 rfl (PCell.of hp34 rfl) zz) (ys (Yk.wide shaW_ty5 shaW_ty87 rfl zz) (ys (Yk.bin rfl rfl rfl (u_shl _ _ _ 24 (by decide)) zz) (ys (Yk.bin (xv := NI 4) (yv := NI t) rfl T10 rfl (i64_mul _ _ _ (by omega)) zz) (ys (Yk.bin (xv := NI ((4) * (t))) (yv := NI 1) rfl rfl rfl (i64_add _ _ _ (by omega)) zz) (yA (Yk.atRB (l := b) (i := ((4) * (t)) + (1)) shaW_ty24 shaW_sz5 (RB.of (hb.keep hE) T0) rfl (by omega) fun v35 hp36 => (ys (Yk.loadC shaW_ty5 rfl (PCell.of hp36 rfl) zz) (ys (Yk.wide shaW_ty5 shaW_ty87 rfl zz) (ys (Yk.bin rfl rfl rfl (u_shl _ _ _ 16 (by decide)) zz) (ys (Yk.bin rfl rfl rfl (u_or _ _ _) zz) (ys (Yk.bin (xv := NI 4) (yv := NI t) rfl T10 rfl (i64_mul _ _ _ (by omega)) zz) (ys (Yk.bin (xv := NI ((4) * (t))) (yv := NI 2) rfl rfl rfl (i64_add _ _ _ (by omega)) zz) (yA (Yk.atRB (l := b) (i := ((4) * (t)) + (2)) shaW_ty24 shaW_sz5 (RB.of (hb.keep hE) T0) rfl (by omega) fun v37 hp38 => (ys (Yk.loadC shaW_ty5 rfl (PCell.of hp38 rfl) zz) ?_))))))))))))))))))
  refine ys (Yk.wide shaW_ty5 shaW_ty87 rfl zz) (ys (Yk.bin rfl rfl rfl (u_shl _ _ _ 8 (by decide)) zz) (ys (Yk.bin rfl rfl rfl (u_or _ _ _) zz) (ys (Yk.bin (xv := NI 4) (yv := NI t) rfl T10 rfl (i64_mul _ _ _ (by omega)) zz) (ys (Yk.bin (xv := NI ((4) * (t))) (yv := NI 3) rfl rfl rfl (i64_add _ _ _ (by omega)) zz) (yA (Yk.atRB (l := b) (i := ((4) * (t)) + (3)) shaW_ty24 shaW_sz5 (RB.of (hb.keep hE) T0) rfl (by omega) fun v39 hp40 => (ys (Yk.loadC shaW_ty5 rfl (PCell.of hp40 rfl) zz) (ys (Yk.wide shaW_ty5 shaW_ty87 rfl zz) (ys (Yk.bin rfl rfl rfl (u_or _ _ _) zz) (ys (Yk.atArr0 (i := t) shaW_ty89 shaW_sz87 T3 T10 (by omega) zz) (yC (Yk.storeU32 (i := t) (v := (((((b.getD ((4) * (t)) 0).toUInt32) <<< 24) ||| (((b.getD (((4) * (t)) + (1)) 0).toUInt32) <<< 16)) ||| (((b.getD (((4) * (t)) + (2)) 0).toUInt32) <<< 8)) ||| ((b.getD (((4) * (t)) + (3)) 0).toUInt32)) rfl rfl hb21l (by rw [hpl_t]; omega) shaW_isz87 fun w41 hb42 hg43 hs44 => ?_))))))))))))
  clear hp34
  clear hp36
  clear hp38
  clear hp40
  clear hb21l
  have hb21l := hb42; clear hb42
  have hl45 := bl hb21l
  have hb21l : w41.heap[n11]? = some (.cells ((Sha.pad64 (Sha.sched b (t + 1))).map fun x => U x).toArray 89 (0, 0)) := blk_eq hb21l (congrArg (List.map fun x => U x) (by rw [hBt]; exact Sha.sched_step1 b t hc0))
  have hb8 := eb hx32 hb8
  have hb8 := kb hg43 hb8 (by omega)
  have hA17 := hA17.trans hx32
  have hA17 := row_fresh hA17 hg43 (Nat.le_trans (Nat.le_refl _) (by omega))
  have hE := row_fresh hE hg43 (Nat.le_trans hz19 (by omega))
  refine gS (Yk.bin (xv := NI t) (yv := NI 1) T10 rfl rfl (i64_add _ _ _ (by omega)) (gK (And.intro ⟨t + 1, T0, T2, T3, rfl, hE, hb8, hA17, blk_eq hb21l (rfl), by omega, trivial⟩ ?_)))
  show 16 - (intOf (NI ((t) + (1)))).toNat < 16 - (intOf (ρ25 10)).toNat
  rw [q10]
  simp only [intOf, Int.toNat_natCast]; omega
 refine gL (fun (ρ : Slots) (wz : World) => ∃ q : Nat, ρ 0 = (v : Value) ∧ ρ 2 = (PQ n2 0 : Value) ∧ ρ 3 = (PQ n11 0 : Value) ∧ ρ 10 = (NI t : Value) ∧ ρ 5 = (NI q : Value) ∧ Ext w wz ∧ wz.heap[n2]? = some (.cells ((List.replicate 64 0).map fun x => U x).toArray 89 (0, 0)) ∧ Ext w3 wz ∧ wz.heap[n11]? = some (.cells ((Sha.pad64 (Sha.sched b q)).map fun x => U x).toArray 89 (0, 0)) ∧ (q ≤ 64) ∧ (16 ≤ q) ∧ True) (fun ρ _ => 64 - (intOf (ρ 5)).toNat) ⟨16, T0, T2, T3, T10, rfl, hE, hb8, hA17, blk_eq hb21l (congrArg (List.map fun x => U x) (by rw [hBt, show t = 16 by omega])), by omega, Nat.le_refl _, trivial⟩ ?_
 clear hb21l
 clear hE hb8 hA17
 rintro ρ48 w49 ⟨q, T0, T2, T3, T10, T5, hE, hb8, hA17, hb21ll, ht_q, ht16, -⟩
 have q5 := T5
 have hpl_q : (Sha.pad64 (Sha.sched b q)).length = 64 := Sha.pad64_length _ (by rw [Sha.sched_length]; omega)
 obtain ⟨Bq, hBq⟩ : ∃ B, B = Sha.pad64 (Sha.sched b q) := ⟨_, rfl⟩
 have hb21ll : w49.heap[n11]? = some (.cells ((Bq).map fun x => U x).toArray 89 (0, 0)) := blk_eq hb21ll (by rw [hBq])
 rw [← hBq] at hpl_q
 refine gS (Yk.eqI (a := (q : Nat)) (b := (64 : Nat)) T5 rfl (k_lss _ _ _ _) ?_)
 refine cD rfl (fun hc1 => ?_) fun hc1 => ?_
 ·refine gM0 [0, 1, 2, 3, 4, 5, 6, 7, 8, 9] [] [] fun w54 hx55 => ?_
  have hb21ll := eb hx55 hb21ll
  refine ys (Yk.bin (xv := NI q) (yv := NI 15) T5 rfl rfl (i64_sub _ _ _ (by omega) (by omega)) zz) (ys (Yk.atArr0 (i := (q) - (15)) shaW_ty89 shaW_sz87 T3 rfl (by omega) zz) (ys (Yk.cell1 shaW_ty87 rfl rfl (cellAt hb21ll (word_at (i := (q) - (15)) (by rw [hpl_q]; omega))) zz) (ys (Yk.bin (xv := NI q) (yv := NI 2) T5 rfl rfl (i64_sub _ _ _ (by omega) (by omega)) zz) (ys (Yk.atArr0 (i := (q) - (2)) shaW_ty89 shaW_sz87 T3 rfl (by omega) zz) (ys (Yk.cell1 shaW_ty87 rfl rfl (cellAt hb21ll (word_at (i := (q) - (2)) (by rw [hpl_q]; omega))) zz) (gS (Yk.callA2 shaW_pl79 rfl rfl ((turn_any _ ((Bq).getD ((q) - (15)) 0) 7 (by decide)).mono ?_))))))))
  rintro e w58 ⟨rfl, hx57⟩
  refine ⟨_, rfl, ?_⟩
  refine gS (Yk.callA2 shaW_pl79 rfl rfl ((turn_any _ ((Bq).getD ((q) - (15)) 0) 18 (by decide)).mono ?_))
  rintro e w60 ⟨rfl, hx59⟩
  refine ⟨_, rfl, ?_⟩
  refine gS (Yk.bin rfl rfl rfl (u_xor _ _ _) (gS (Yk.bin rfl rfl rfl (u_shr _ _ _ 3 (by decide)) (gS (Yk.bin rfl rfl rfl (u_xor _ _ _) (gS (Yk.callA2 shaW_pl79 rfl rfl ((turn_any _ ((Bq).getD ((q) - (2)) 0) 17 (by decide)).mono ?_))))))))
  rintro e w63 ⟨rfl, hx62⟩
  refine ⟨_, rfl, ?_⟩
  refine gS (Yk.callA2 shaW_pl79 rfl rfl ((turn_any _ ((Bq).getD ((q) - (2)) 0) 19 (by decide)).mono ?_))
  rintro e w65 ⟨rfl, hx64⟩
  refine ⟨_, rfl, ?_⟩
  refine gS (Yk.bin rfl rfl rfl (u_xor _ _ _) (gS (Yk.bin rfl rfl rfl (u_shr _ _ _ 10 (by decide)) (gS (Yk.bin rfl rfl rfl (u_xor _ _ _) (gM0 [0, 1, 2, 3, 4, 5, 6, 7, 8, 9, 10, 11, 12, 13, 14, 15] [15] [] fun w66 hx67 => ?_))))))
  have hb21ll := eb ((((hx57.trans hx59).trans hx62).trans hx64).trans hx67) hb21ll
  refine ys (Yk.bin (xv := NI q) (yv := NI 7) T5 rfl rfl (i64_sub _ _ _ (by omega) (by omega)) zz) (ys (Yk.atArr0 (i := (q) - (7)) shaW_ty89 shaW_sz87 T3 rfl (by omega) zz) (ys (Yk.cell1 shaW_ty87 rfl rfl (cellAt hb21ll (word_at (i := (q) - (7)) (by rw [hpl_q]; omega))) zz) (ys (Yk.bin rfl rfl rfl (u_add _ _ _) zz) (ys (Yk.bin rfl rfl rfl (u_add _ _ _) zz) (ys (Yk.bin (xv := NI q) (yv := NI 16) T5 rfl rfl (i64_sub _ _ _ (by omega) (by omega)) zz) (ys (Yk.atArr0 (i := (q) - (16)) shaW_ty89 shaW_sz87 T3 rfl (by omega) zz) (ys (Yk.cell1 shaW_ty87 rfl rfl (cellAt hb21ll (word_at (i := (q) - (16)) (by rw [hpl_q]; omega))) zz) (ys (Yk.bin rfl rfl rfl (u_add _ _ _) zz) (ys (Yk.atArr0 (i := q) shaW_ty89 shaW_sz87 T3 T5 (by omega) zz) (yC (Yk.storeU32 (i := q) (v := (((Sha.high ((Bq).getD ((q) - (2)) 0)) + ((Bq).getD ((q) - (7)) 0)) + (Sha.low ((Bq).getD ((q) - (15)) 0))) + ((Bq).getD ((q) - (16)) 0)) rfl rfl hb21ll (by rw [hpl_q]; omega) shaW_isz87 fun w68 hb69 hg70 hs71 => ?_)))))))))))
  clear hb21ll
  have hb21ll := hb69; clear hb69
  have hl72 := bl hb21ll
  have hb21ll : w68.heap[n11]? = some (.cells ((Sha.pad64 (Sha.sched b (q + 1))).map fun x => U x).toArray 89 (0, 0)) := blk_eq hb21ll (congrArg (List.map fun x => U x) (by rw [hBq]; exact Sha.sched_step2 b q ht16 hc1))
  have hZ1 := ((((hx55.trans hx57).trans hx59).trans hx62).trans hx64).trans hx67
  have hE := hE.trans hZ1
  have hE := row_fresh hE hg70 (Nat.le_trans hz19 (by omega))
  have hb8 := eb hZ1 hb8
  have hb8 := kb hg70 hb8 (by omega)
  have hA17 := hA17.trans hZ1
  have hA17 := row_fresh hA17 hg70 (Nat.le_trans (Nat.le_refl _) (by omega))
  refine gS (Yk.bin (xv := NI q) (yv := NI 1) T5 rfl rfl (i64_add _ _ _ (by omega)) (gK (And.intro ⟨q + 1, T0, T2, T3, T10, rfl, hE, hb8, hA17, blk_eq hb21ll (rfl), by omega, by omega, trivial⟩ ?_)))
  show 64 - (intOf (NI ((q) + (1)))).toNat < 64 - (intOf (ρ48 5)).toNat
  rw [q5]
  simp only [intOf, Int.toNat_natCast]; omega
 obtain ⟨F, hF⟩ : ∃ F, F = Sha.sched b 64 := ⟨_, rfl⟩
 have hb21ll : w49.heap[n11]? = some (.cells ((F).map fun x => U x).toArray 89 (0, 0)) := blk_eq hb21ll (by rw [hBq, show q = 64 by omega, ← hF, Sha.pad64_full _ (by rw [hF, Sha.sched_length])])
 have hFl : F.length = 64 := by rw [hF, Sha.sched_length]
 refine gS (Yk.loadAll T3 hb21ll shaW_ty89 rfl (by rw [List.size_toArray, List.length_map, hFl]; exact shaW_isz89) (gS (Yk.storeAll T2 (vr (.agg ((F).map fun x => U x).toArray) rfl) hb8 (by rw [List.size_toArray, List.size_toArray, List.length_map, List.length_map, hFl]; rfl) (by rw [List.size_toArray, List.length_map, hFl]; exact shaW_isz89) (cellsU_one _) fun w74 hb75 hg76 hs77 => ?_)))
 clear hA17
 clear hb8
 have hb8 := hb75; clear hb75
 have hl78 := bl hb8
 refine rg1 rfl (ResF.row T2 hb8 shaW_ty89 rfl (by rw [List.size_toArray, List.length_map, hFl]; exact shaW_isz89)) ?_
 rw [hF]
 have hE := row_fresh hE hg76 (Nat.le_trans (Nat.le_refl _) (by omega))
 exact ⟨rfl, hE⟩

theorem rounds_any (w : World) (hG : Laid w) (s : List UInt32) (hs : s.length = 8) (v : Value) (b : List UInt8) (hb : RB w v b) (hl : b.length = 64) :
  Calls Tryd.prog 69 #[.agg (cellsU s), v] w fun e w' => e = .returned (.agg (cellsU (Sha.rounds s b))) ∧ Ext w w' := by
 refine gG (args := [.agg ((s).map fun x => U x).toArray, v]) Tryd.func69 rfl 120 rfl rfl ?_
 have hE := Ext.refl w
 refine gS (Yk.box (vr (.agg ((s).map fun x => U x).toArray) rfl) fun n2 w3 hn4 hb5 hx6 hs7 => ?_)
 have hb8 := hb5; clear hb5
 have hl9 : n2 < w3.heap.size := by omega
 refine gS (Yk.alloc shaW_al88 fun n10 w11 hn12 hb13 hx14 hs15 => ?_)
 have hA16 := Ext.refl w3
 have hE := hE.trans hx6
 have hz18 := hE.size
 have hb20 := hb13; clear hb13
 have hl21 : n10 < w11.heap.size := by omega
 have hlt19 := lte (bl hb8) hn12
 have hb8 := eb hx14 hb8
 refine gS (Yk.loadAll rfl hb8 shaW_ty88 rfl (by rw [List.size_toArray, List.length_map, hs]; exact shaW_isz88) (gS (Yk.alloc shaW_al88 fun n23 w24 hn25 hb26 hx27 hs28 => ?_)))
 have hA29 := Ext.refl w11
 have hE := hE.trans hx14
 have hA16 := hA16.trans hx14
 have hz32 := hE.size
 have hz33 := hA16.size
 have hb36 := hb26; clear hb26
 have hl37 : n23 < w24.heap.size := by omega
 refine gS (Yk.storeAll (vr (PQ n23 0) rfl) (vr (.agg ((s).map fun x => U x).toArray) rfl) hb36 (by rw [List.size_toArray, List.size_toArray, List.length_map, List.length_map, hs]; rfl) (by rw [List.size_toArray, List.length_map, hs]; exact shaW_isz88) (cellsU_one _) fun w38 hb39 hg40 hs41 => ?_)
 clear hb36
 have hb36 := hb39; clear hb39
 have hl42 := bl hb36
 have hE := hE.trans hx27
 have hE := row_fresh hE hg40 (Nat.le_trans hz32 (by omega))
 refine gS (Yk.callA1 shaW_pl78 rfl ((schedule_any _ v b (hb.keep hE) hl).mono ?_))
 rintro e w46 ⟨rfl, hx45⟩
 refine ⟨_, rfl, ?_⟩
 have hA29 := hA29.trans hx27
 have hA29 := row_fresh hA29 hg40 (Nat.le_trans (Nat.le_refl _) (by omega))
 have hA29 := hA29.trans hx45
 have hb8 := eb hA29 hb8
 have hb20 := eb hA29 hb20
 have hA16 := hA16.trans hx27
 have hA16 := row_fresh hA16 hg40 (Nat.le_trans hz33 (by omega))
 have hA16 := hA16.trans hx45
 have hE := hE.trans hx45
 have hb36 := eb hx45 hb36
 refine gL (fun (ρ : Slots) (wz : World) => ∃ t : Nat, ρ 0 = (.agg ((s).map fun x => U x).toArray : Value) ∧ ρ 1 = (v : Value) ∧ ρ 2 = (PQ n2 0 : Value) ∧ ρ 4 = (PQ n10 0 : Value) ∧ ρ 5 = (PQ n23 0 : Value) ∧ ρ 16 = (.agg ((Sha.sched b 64).map fun x => U x).toArray : Value) ∧ ρ 17 = (NI t : Value) ∧ Ext w wz ∧ wz.heap[n2]? = some (.cells ((s).map fun x => U x).toArray 88 (0, 0)) ∧ Ext w3 wz ∧ wz.heap[n10]? = some (.cells ((List.replicate 8 0).map fun x => U x).toArray 88 (0, 0)) ∧ Ext w11 wz ∧ wz.heap[n23]? = some (.cells (((Sha.turned s (Sha.sched b 64) t)).map fun x => U x).toArray 88 (0, 0)) ∧ (t ≤ 64) ∧ True) (fun ρ _ => 64 - (intOf (ρ 17)).toNat) ⟨0, rfl, rfl, rfl, rfl, rfl, rfl, rfl, hE, hb8, hA16, hb20, hA29, blk_eq hb36 (rfl), Nat.zero_le _, trivial⟩ ?_
 clear hb36
 clear hE hb8 hb20
 rintro ρ47 w48 ⟨t, T0, T1, T2, T4, T5, T16, T17, hE, hb8, hA16, hb20, hA29, hb36l, ht, -⟩
 have q17 := T17
 obtain ⟨V, hV⟩ : ∃ V, V = (Sha.turned s (Sha.sched b 64) t) := ⟨_, rfl⟩
 have hb36l : w48.heap[n23]? = some (.cells ((V).map fun x => U x).toArray 88 (0, 0)) := blk_eq hb36l (by rw [hV])
 have hvl : V.length = 8 := by rw [hV]; exact Sha.turned_length _ _ hs _
 refine gS (Yk.eqI (a := (t : Nat)) (b := (64 : Nat)) T17 rfl (k_lss _ _ _ _) ?_)
 refine cD rfl (fun hc0 => ?_) fun hc0 => ?_
 ·refine gS (Yk.idxU (l := Sha.sched b 64) (i := t) shaW_ty89 shaW_ty87 rfl shaW_sz87 T16 T17 (by omega) (Sha.sched_length _ _) (gM1 [0, 1, 3, 4, 7, 8, 2, 5, 6, 9, 10, 11] [2, 5, 9] [3, 6, 7] [4, 8] fun w54 hx55 => ?_))
  have hA56 := Ext.refl w54
  have hb36l := eb hx55 hb36l
  refine meb0 hA56 ?_
  refine ys (Yk.atArr0 (i := 4) shaW_ty88 shaW_sz87 T5 rfl (by omega) zz) (ys (Yk.cell1 shaW_ty87 rfl rfl (cellAt hb36l (word_at (i := 4) (by rw [hvl]; omega))) zz) (yp (Yk.atArr0 (i := 4) shaW_ty88 shaW_sz87 T5 rfl (by omega) zz) (yf (fun _ ⟨hZ, _⟩ => Yk.cell1 shaW_ty87 rfl rfl (cellAt (eb hZ hb36l) (word_at (i := 4) (by rw [hvl]; omega))) zz) (yp (Yk.atArr0 (i := 4) shaW_ty88 shaW_sz87 T5 rfl (by omega) zz) (yf (fun _ ⟨hZ, _⟩ => Yk.cell1 shaW_ty87 rfl rfl (cellAt (eb hZ hb36l) (word_at (i := 4) (by rw [hvl]; omega))) zz) (yE (Yk.callA2 shaW_pl79 rfl rfl ((turn_any _ ((V).getD (4) 0) 6 (by decide)).mono ?_))))))))
  rintro e w58 ⟨rfl, hx57⟩
  refine ⟨_, rfl, ?_⟩
  have hA56 := hA56.trans hx57
  refine ⟨hA56, ?_⟩
  have hA59 := Ext.refl w58
  refine yE (Yk.callA2 shaW_pl79 rfl rfl ((turn_any _ ((V).getD (4) 0) 11 (by decide)).mono ?_))
  rintro e w61 ⟨rfl, hx60⟩
  refine ⟨_, rfl, ?_⟩
  have hA59 := hA59.trans hx60
  refine ⟨hA59, ?_⟩
  refine yp (Yk.bin rfl rfl rfl (u_xor _ _ _) zz) (yD rfl (Yk.callA2 shaW_pl79 rfl rfl ((turn_any _ ((V).getD (4) 0) 25 (by decide)).mono ?_)))
  rintro e w64 ⟨rfl, hx63⟩
  refine ⟨_, rfl, ?_⟩
  have hb36l := eb ((hx57.trans hx60).trans hx63) hb36l
  refine ys (Yk.bin rfl rfl rfl (u_xor _ _ _) zz) (gS (Yk.atArr0 (i := 4) shaW_ty88 shaW_sz87 T5 rfl (by omega) (gS (Yk.cell1 shaW_ty87 rfl rfl (cellAt hb36l (word_at (i := 4) (by rw [hvl]; omega))) (gS (Yk.atArr0 (i := 5) shaW_ty88 shaW_sz87 T5 rfl (by omega) (gS (Yk.cell1 shaW_ty87 rfl rfl (cellAt hb36l (word_at (i := 5) (by rw [hvl]; omega))) (gS (Yk.bin rfl rfl rfl (u_and _ _ _) (gS (Yk.atArr0 (i := 4) shaW_ty88 shaW_sz87 T5 rfl (by omega) (gS (Yk.cell1 shaW_ty87 rfl rfl (cellAt hb36l (word_at (i := 4) (by rw [hvl]; omega))) (gS (Yk.not32 rfl (gS (Yk.atArr0 (i := 6) shaW_ty88 shaW_sz87 T5 rfl (by omega) (gS (Yk.cell1 shaW_ty87 rfl rfl (cellAt hb36l (word_at (i := 6) (by rw [hvl]; omega))) (gS (Yk.bin rfl rfl rfl (u_and _ _ _) (gS (Yk.bin rfl rfl rfl (u_xor _ _ _) (gM0 [0, 1, 2, 3, 4, 5, 6, 7, 8, 9, 10, 11, 12] [] [] fun w67 hx68 => ?_)))))))))))))))))))))))))
  have hZ1 := (((hx55.trans hx57).trans hx60).trans hx63).trans hx68
  have hE := hE.trans hZ1
  have hb36l := eb hx68 hb36l
  refine ys (Yk.atArr0 (i := 7) shaW_ty88 shaW_sz87 T5 rfl (by omega) zz) (ys (Yk.cell1 shaW_ty87 rfl rfl (cellAt hb36l (word_at (i := 7) (by rw [hvl]; omega))) zz) (ys (Yk.bin rfl rfl rfl (u_add _ _ _) zz) (ys (Yk.bin rfl rfl rfl (u_add _ _ _) zz) (ys (Yk.atArr0 (i := t) shaW_ty89 shaW_sz87 rfl T17 (by omega) zz) (ys (Yk.cell1 shaW_ty87 rfl rfl (by obtain ⟨tG_, fG_, hG_⟩ := Laid.words (hG.keep hE); exact cellAt (l := Sha.words.map fun x => U x) hG_ (word_at (l := Sha.words) (i := t) (by show _ < 64; omega))) zz) (ys (Yk.bin rfl rfl rfl (u_add _ _ _) zz) (ys (Yk.bin rfl rfl rfl (u_add _ _ _) zz) (gM1 [0, 1, 3, 4, 7, 8, 2, 5, 6, 9, 10, 11] [2, 5, 9] [3, 6, 7] [4, 8] fun w70 hx71 => ?_))))))))
  have hA72 := Ext.refl w70
  have hb36l := eb hx71 hb36l
  refine meb0 hA72 ?_
  refine ys (Yk.atArr0 (i := 0) shaW_ty88 shaW_sz87 T5 rfl (by omega) zz) (ys (Yk.cell1 shaW_ty87 rfl rfl (cellAt hb36l (word_at (i := 0) (by rw [hvl]; omega))) zz) (yp (Yk.atArr0 (i := 0) shaW_ty88 shaW_sz87 T5 rfl (by omega) zz) (yf (fun _ ⟨hZ, _⟩ => Yk.cell1 shaW_ty87 rfl rfl (cellAt (eb hZ hb36l) (word_at (i := 0) (by rw [hvl]; omega))) zz) (yp (Yk.atArr0 (i := 0) shaW_ty88 shaW_sz87 T5 rfl (by omega) zz) (yf (fun _ ⟨hZ, _⟩ => Yk.cell1 shaW_ty87 rfl rfl (cellAt (eb hZ hb36l) (word_at (i := 0) (by rw [hvl]; omega))) zz) (yE (Yk.callA2 shaW_pl79 rfl rfl ((turn_any _ ((V).getD (0) 0) 2 (by decide)).mono ?_))))))))
  rintro e w74 ⟨rfl, hx73⟩
  refine ⟨_, rfl, ?_⟩
  have hA72 := hA72.trans hx73
  refine ⟨hA72, ?_⟩
  have hA75 := Ext.refl w74
  refine yE (Yk.callA2 shaW_pl79 rfl rfl ((turn_any _ ((V).getD (0) 0) 13 (by decide)).mono ?_))
  rintro e w77 ⟨rfl, hx76⟩
  refine ⟨_, rfl, ?_⟩
  have hA75 := hA75.trans hx76
  refine ⟨hA75, ?_⟩
  refine yp (Yk.bin rfl rfl rfl (u_xor _ _ _) zz) (yD rfl (Yk.callA2 shaW_pl79 rfl rfl ((turn_any _ ((V).getD (0) 0) 22 (by decide)).mono ?_)))
  rintro e w80 ⟨rfl, hx79⟩
  refine ⟨_, rfl, ?_⟩
  have hb36l := eb ((hx73.trans hx76).trans hx79) hb36l
  refine ys (Yk.bin rfl rfl rfl (u_xor _ _ _) zz) (gS (Yk.atArr0 (i := 0) shaW_ty88 shaW_sz87 T5 rfl (by omega) (gS (Yk.cell1 shaW_ty87 rfl rfl (cellAt hb36l (word_at (i := 0) (by rw [hvl]; omega))) (gS (Yk.atArr0 (i := 1) shaW_ty88 shaW_sz87 T5 rfl (by omega) (gS (Yk.cell1 shaW_ty87 rfl rfl (cellAt hb36l (word_at (i := 1) (by rw [hvl]; omega))) (gS (Yk.bin rfl rfl rfl (u_and _ _ _) (gS (Yk.atArr0 (i := 0) shaW_ty88 shaW_sz87 T5 rfl (by omega) (gS (Yk.cell1 shaW_ty87 rfl rfl (cellAt hb36l (word_at (i := 0) (by rw [hvl]; omega))) (gS (Yk.atArr0 (i := 2) shaW_ty88 shaW_sz87 T5 rfl (by omega) (gS (Yk.cell1 shaW_ty87 rfl rfl (cellAt hb36l (word_at (i := 2) (by rw [hvl]; omega))) (gS (Yk.bin rfl rfl rfl (u_and _ _ _) (gS (Yk.bin rfl rfl rfl (u_xor _ _ _) (gS (Yk.atArr0 (i := 1) shaW_ty88 shaW_sz87 T5 rfl (by omega) (gS (Yk.cell1 shaW_ty87 rfl rfl (cellAt hb36l (word_at (i := 1) (by rw [hvl]; omega))) (gS (Yk.atArr0 (i := 2) shaW_ty88 shaW_sz87 T5 rfl (by omega) (gS (Yk.cell1 shaW_ty87 rfl rfl (cellAt hb36l (word_at (i := 2) (by rw [hvl]; omega))) ?_))))))))))))))))))))))))))))))
  refine gS (Yk.bin rfl rfl rfl (u_and _ _ _) (gS (Yk.bin rfl rfl rfl (u_xor _ _ _) (gS (Yk.bin rfl rfl rfl (u_add _ _ _) (gS (Yk.bin rfl rfl rfl (u_add _ _ _) (gS (Yk.atArr0 (i := 0) shaW_ty88 shaW_sz87 T5 rfl (by omega) (gS (Yk.cell1 shaW_ty87 rfl rfl (cellAt hb36l (word_at (i := 0) (by rw [hvl]; omega))) (gS (Yk.atArr0 (i := 1) shaW_ty88 shaW_sz87 T5 rfl (by omega) (gS (Yk.cell1 shaW_ty87 rfl rfl (cellAt hb36l (word_at (i := 1) (by rw [hvl]; omega))) (gS (Yk.atArr0 (i := 2) shaW_ty88 shaW_sz87 T5 rfl (by omega) (gS (Yk.cell1 shaW_ty87 rfl rfl (cellAt hb36l (word_at (i := 2) (by rw [hvl]; omega))) (gS (Yk.atArr0 (i := 3) shaW_ty88 shaW_sz87 T5 rfl (by omega) (gS (Yk.cell1 shaW_ty87 rfl rfl (cellAt hb36l (word_at (i := 3) (by rw [hvl]; omega))) (gS (Yk.bin rfl rfl rfl (u_add _ _ _) (gS (Yk.atArr0 (i := 4) shaW_ty88 shaW_sz87 T5 rfl (by omega) (gS (Yk.cell1 shaW_ty87 rfl rfl (cellAt hb36l (word_at (i := 4) (by rw [hvl]; omega))) (gS (Yk.atArr0 (i := 5) shaW_ty88 shaW_sz87 T5 rfl (by omega) ?_)))))))))))))))))))))))))))))))
  refine gS (Yk.cell1 shaW_ty87 rfl rfl (cellAt hb36l (word_at (i := 5) (by rw [hvl]; omega))) (gS (Yk.atArr0 (i := 6) shaW_ty88 shaW_sz87 T5 rfl (by omega) (gS (Yk.cell1 shaW_ty87 rfl rfl (cellAt hb36l (word_at (i := 6) (by rw [hvl]; omega))) (gS (Yk.build8 (vr (U ((((((((V).getD (7) 0) + (((Sha.rotr ((V).getD (4) 0) 6) ^^^ (Sha.rotr ((V).getD (4) 0) 11)) ^^^ (Sha.rotr ((V).getD (4) 0) 25))) + ((((V).getD (4) 0) &&& ((V).getD (5) 0)) ^^^ ((~~~((V).getD (4) 0)) &&& ((V).getD (6) 0)))) + (Sha.words.getD (t) 0)) + ((Sha.sched b 64).getD (t) 0)) + (((Sha.rotr ((V).getD (0) 0) 2) ^^^ (Sha.rotr ((V).getD (0) 0) 13)) ^^^ (Sha.rotr ((V).getD (0) 0) 22))) + (((((V).getD (0) 0) &&& ((V).getD (1) 0)) ^^^ (((V).getD (0) 0) &&& ((V).getD (2) 0))) ^^^ (((V).getD (1) 0) &&& ((V).getD (2) 0))))) rfl) (vr (U ((V).getD (0) 0)) rfl) (vr (U ((V).getD (1) 0)) rfl) (vr (U ((V).getD (2) 0)) rfl) (vr (U (((V).getD (3) 0) + ((((((V).getD (7) 0) + (((Sha.rotr ((V).getD (4) 0) 6) ^^^ (Sha.rotr ((V).getD (4) 0) 11)) ^^^ (Sha.rotr ((V).getD (4) 0) 25))) + ((((V).getD (4) 0) &&& ((V).getD (5) 0)) ^^^ ((~~~((V).getD (4) 0)) &&& ((V).getD (6) 0)))) + (Sha.words.getD (t) 0)) + ((Sha.sched b 64).getD (t) 0)))) rfl) (vr (U ((V).getD (4) 0)) rfl) (vr (U ((V).getD (5) 0)) rfl) (vr (U ((V).getD (6) 0)) rfl) (fun w => shaW_bA8 _ _ _ _ _ _ _ _ w) (gS (Yk.storeAll T5 (vr (.agg ((Sha.round V (Sha.words.getD (t) 0) ((Sha.sched b 64).getD (t) 0)).map fun x => U x).toArray) rfl) hb36l (by rw [List.size_toArray, List.size_toArray, List.length_map, List.length_map, hvl]; rfl) (shaW_isz88) (cellsU_one _) fun w82 hb83 hg84 hs85 => ?_)))))))))
  clear hb36l
  have hb36l := hb83; clear hb83
  have hl86 := bl hb36l
  have hZ2 := (((hZ1.trans hx71).trans hx73).trans hx76).trans hx79
  have hb8 := eb hZ2 hb8
  have hb8 := kb hg84 hb8 (by omega)
  have hA16 := hA16.trans hZ2
  have hA16 := row_fresh hA16 hg84 (Nat.le_trans hz33 (by omega))
  have hb20 := eb hZ2 hb20
  have hb20 := kb hg84 hb20 (by omega)
  have hA29 := hA29.trans hZ2
  have hA29 := row_fresh hA29 hg84 (Nat.le_trans (Nat.le_refl _) (by omega))
  have hE := hE.trans (((hx71.trans hx73).trans hx76).trans hx79)
  have hE := row_fresh hE hg84 (Nat.le_trans hz32 (by omega))
  refine gS (Yk.bin (xv := NI t) (yv := NI 1) T17 rfl rfl (i64_add _ _ _ (by omega)) (gK (And.intro ⟨t + 1, T0, T1, T2, T4, T5, T16, rfl, hE, hb8, hA16, hb20, hA29, blk_eq hb36l (congrArg (List.map fun x => U x) (by rw [hV]; rfl)), by omega, trivial⟩ ?_)))
  show 64 - (intOf (NI ((t) + (1)))).toNat < 64 - (intOf (ρ47 17)).toNat
  rw [q17]
  simp only [intOf, Int.toNat_natCast]; omega
 obtain ⟨T, hT⟩ : ∃ T, T = Sha.turned s (Sha.sched b 64) 64 := ⟨_, rfl⟩
 have hTl : T.length = 8 := by rw [hT, Sha.turned_length _ _ hs]
 have hb36l : w48.heap[n23]? = some (.cells ((T).map fun x => U x).toArray 88 (0, 0)) := blk_eq hb36l (by rw [hV, show t = 64 by omega, ← hT])
 refine gL (fun (ρ : Slots) (wz : World) => ∃ i : Nat, ρ 0 = (.agg ((s).map fun x => U x).toArray : Value) ∧ ρ 1 = (v : Value) ∧ ρ 2 = (PQ n2 0 : Value) ∧ ρ 4 = (PQ n10 0 : Value) ∧ ρ 5 = (PQ n23 0 : Value) ∧ ρ 16 = (.agg ((Sha.sched b 64).map fun x => U x).toArray : Value) ∧ ρ 17 = (NI t : Value) ∧ ρ 107 = (NI i : Value) ∧ Ext w wz ∧ wz.heap[n2]? = some (.cells ((s).map fun x => U x).toArray 88 (0, 0)) ∧ Ext w3 wz ∧ wz.heap[n10]? = some (.cells ((List.replicate 8 0).map fun x => U x).toArray 88 (0, 0)) ∧ Ext w11 wz ∧ wz.heap[n23]? = some (.cells ((Sha.adding T s i).map fun x => U x).toArray 88 (0, 0)) ∧ (i ≤ 8) ∧ True) (fun ρ _ => 8 - (intOf (ρ 107)).toNat) ⟨0, T0, T1, T2, T4, T5, T16, T17, rfl, hE, hb8, hA16, hb20, hA29, blk_eq hb36l (rfl), Nat.zero_le _, trivial⟩ ?_
 clear hb36l
 clear hE hb8 hA16 hb20 hA29
 rintro ρ89 w90 ⟨i, T0, T1, T2, T4, T5, T16, T17, T107, hE, hb8, hA16, hb20, hA29, hb36ll, hi, -⟩
 have q107 := T107
 have hal : (Sha.adding T s i).length = 8 := by rw [Sha.adding_length, hTl]
 refine gS (Yk.eqI (a := (i : Nat)) (b := (8 : Nat)) T107 rfl (k_lss _ _ _ _) ?_)
 refine cD rfl (fun hc1 => ?_) fun hc1 => ?_
 ·refine gM0 [0, 1, 2, 3, 4, 5, 6, 7, 8] [8] [] fun w95 hx96 => ?_
  have hb8 := eb hx96 hb8
  have hb36ll := eb hx96 hb36ll
  refine ys (Yk.atArr0 (i := i) shaW_ty88 shaW_sz87 T5 T107 (by omega) zz) (ys (Yk.cell1 shaW_ty87 rfl rfl (cellAt hb36ll (word_at (i := i) (by rw [hal]; omega))) zz) (ys (Yk.atArr0 (i := i) shaW_ty88 shaW_sz87 T2 T107 (by omega) zz) (ys (Yk.cell1 shaW_ty87 rfl rfl (cellAt hb8 (word_at (i := i) (by rw [hs]; omega))) zz) (ys (Yk.bin rfl rfl rfl (u_add _ _ _) zz) (ys (Yk.atArr0 (i := i) shaW_ty88 shaW_sz87 T5 T107 (by omega) zz) (yC (Yk.storeU32 (i := i) (v := ((Sha.adding T s i).getD (i) 0) + ((s).getD (i) 0)) rfl rfl hb36ll (by rw [hal]; omega) shaW_isz87 fun w97 hb98 hg99 hs100 => ?_)))))))
  clear hb36ll
  have hb36ll := hb98; clear hb98
  have hl101 := bl hb36ll
  have hb36ll : w97.heap[n23]? = some (.cells ((Sha.adding T s (i + 1)).map fun x => U x).toArray 88 (0, 0)) := blk_eq hb36ll (rfl)
  have hE := hE.trans hx96
  have hE := row_fresh hE hg99 (Nat.le_trans hz32 (by omega))
  have hA16 := hA16.trans hx96
  have hA16 := row_fresh hA16 hg99 (Nat.le_trans hz33 (by omega))
  have hb20 := eb hx96 hb20
  have hb20 := kb hg99 hb20 (by omega)
  have hA29 := hA29.trans hx96
  have hA29 := row_fresh hA29 hg99 (Nat.le_trans (Nat.le_refl _) (by omega))
  have hb8 := kb hg99 hb8 (by omega)
  refine gS (Yk.bin (xv := NI i) (yv := NI 1) T107 rfl rfl (i64_add _ _ _ (by omega)) (gK (And.intro ⟨i + 1, T0, T1, T2, T4, T5, T16, T17, rfl, hE, hb8, hA16, hb20, hA29, blk_eq hb36ll (rfl), by omega, trivial⟩ ?_)))
  show 8 - (intOf (NI ((i) + (1)))).toNat < 8 - (intOf (ρ89 107)).toNat
  rw [q107]
  simp only [intOf, Int.toNat_natCast]; omega
 obtain ⟨Q, hQ⟩ : ∃ Q, Q = Sha.rounds s b := ⟨_, rfl⟩
 have hAl : Q.length = 8 := by rw [hQ, Sha.rounds_length _ _ hs]
 have hb36ll : w90.heap[n23]? = some (.cells ((Q).map fun x => U x).toArray 88 (0, 0)) := blk_eq hb36ll (congrArg (List.map fun x => U x) ((Sha.adding_end hs hTl hi hc1).trans (by rw [hQ, hT]; rfl)))
 refine gS (Yk.loadAll T5 hb36ll shaW_ty88 rfl (by rw [List.size_toArray, List.length_map, hAl]; exact shaW_isz88) (gS (Yk.storeAll T4 (vr (.agg ((Q).map fun x => U x).toArray) rfl) hb20 (by rw [List.size_toArray, List.size_toArray, List.length_map, List.length_map, hAl]; rfl) (by rw [List.size_toArray, List.length_map, hAl]; exact shaW_isz88) (cellsU_one _) fun w103 hb104 hg105 hs106 => ?_)))
 clear hA29
 clear hb20
 have hb20 := hb104; clear hb104
 have hl107 := bl hb20
 refine rg1 rfl (ResF.row T4 hb20 shaW_ty88 rfl (by rw [List.size_toArray, List.length_map, hAl]; exact shaW_isz88)) ?_
 rw [hQ]
 have hE := row_fresh hE hg105 (Nat.le_trans hz18 (by omega))
 exact ⟨rfl, hE⟩
namespace Sha
theorem blocks_snoc : ∀ (k : Nat) (s : List UInt32) (b : List UInt8), blocks s b (k + 1) = rounds (blocks s b k) ((b.drop (64 * k)).take 64)
  | 0, s, b => by simp [blocks]
  | k + 1, s, b => by
    rw [blocks, blocks_snoc k, blocks, List.drop_drop]
    rw [show 64 + 64 * k = 64 * (k + 1) by omega]
theorem blocks_append : ∀ (k : Nat) (s : List UInt32) (b c : List UInt8), 64 * k ≤ b.length → blocks s (b ++ c) k = blocks s b k
  | 0, _, _, _, _ => rfl
  | k + 1, s, b, c, h => by
    rw [blocks, blocks, List.take_append_of_le_length (by omega), List.drop_append_of_le_length (by omega), blocks_append k _ _ _ (by rw [List.length_drop]; omega)]
structure At (p : List UInt8) (s : List UInt32) (r : List UInt8) : Prop where
  state : s = blocks first p (p.length / 64)
  len : r.length = 64
  rest : r.take (p.length % 64) = p.drop (64 * (p.length / 64))
theorem At.slen {p : List UInt8} {s : List UInt32} {r : List UInt8} (h : At p s r) : s.length = 8 := by rw [h.state]; exact blocks_length _ _ _ rfl
theorem At.put {p : List UInt8} {s : List UInt32} {r : List UInt8} (h : At p s r) (x : List UInt8) (hx : p.length % 64 + x.length < 64) :
    At (p ++ x) s (r.take (p.length % 64) ++ x ++ r.drop (p.length % 64 + x.length)) := by
  have hl : (p ++ x).length = p.length + x.length := List.length_append
  have hd : (p ++ x).length / 64 = p.length / 64 := by rw [hl]; omega
  have hm : (p ++ x).length % 64 = p.length % 64 + x.length := by rw [hl]; omega
  have hr := h.len
  refine ⟨?_, ?_, ?_⟩
  · rw [hd, blocks_append _ _ _ _ (by omega)]; exact h.state
  · simp only [List.length_append, List.length_take, List.length_drop]; omega
  · have e : (r.take (p.length % 64) ++ x).length = p.length % 64 + x.length := by rw [List.length_append, List.length_take]; omega
    rw [hm, hd, List.take_append_of_le_length (by omega), List.take_of_length_le (by omega), h.rest, List.drop_append_of_le_length (by omega)]
theorem At.fill {p : List UInt8} {s : List UInt32} {r : List UInt8} (h : At p s r) (x : List UInt8) (hx : p.length % 64 + x.length = 64) :
    At (p ++ x) (rounds s (r.take (p.length % 64) ++ x)) (r.take (p.length % 64) ++ x) := by
  have hl : (p ++ x).length = p.length + x.length := List.length_append
  have hd : (p ++ x).length / 64 = p.length / 64 + 1 := by rw [hl]; omega
  have hm : (p ++ x).length % 64 = 0 := by rw [hl]; omega
  have hr := h.len
  have e : (r.take (p.length % 64) ++ x).length = 64 := by rw [List.length_append, List.length_take]; omega
  refine ⟨?_, e, ?_⟩
  · rw [hd, blocks_snoc, blocks_append _ _ _ _ (by omega), ← h.state, List.drop_append_of_le_length (by omega), ← h.rest]
    exact congrArg _ (List.take_of_length_le (Nat.le_of_eq e)).symm
  · rw [hm, hd, List.take_zero, List.drop_of_length_le (by omega)]
theorem at_nil : At [] first (List.replicate 64 0) := ⟨rfl, by simp, by simp⟩
end Sha
open Go.RowKit
section
variable {P : Program}
theorem Yk.sliceArrL {K : Value → World → Prop} {ρ : Tmp → Value} {t e : TypeId} {n : Nat} (ht : P.underlying t = some (.array n e)) (he : ∀ w' : World, (sizeOf e).run P w' = .ok 1 w') {x lo : Operand} {d : Option Tmp} {ty : TypeId} {pos : String} {af : Array Edge} {gd : Option (Nat × Bool)} {w : World} {b o i : Nat} {k : IntKind}
    (hx : evalR ρ x = .pointer (some ⟨b, o, none⟩)) (hl : evalR ρ lo = .int k (i : Int)) (hi : i < n) (hk : K (.slice (some ⟨b, o + i, none⟩) (n - i) (n - i)) w) : Yk P K ((execOp (evalR ρ) ⟨d, .slice t x (some lo) none none, ty, pos, af, gd⟩).run P w) := by
  refine Yk.value (v := .slice (some ⟨b, o + i, none⟩) (n - i) (n - i)) (w' := w) ?_ hk
  have hE : P.elem t = e := by simp [Program.elem, ht]
  have hN : P.arrayLen t = n := by simp [Program.arrayLen, ht]
  have hr := run_sliceAt_array_l (P := P) (w := w) (t := t) (a := ⟨b, o, none⟩) (by rw [hE, hN]; exact ht) k (i : Int) (by omega) (by rw [hN]; omega)
  rw [hE, he, hN] at hr
  unfold execOp
  simp only [hx, hl, Option.map_some, Option.map_none, Sem.run_bind, hr, Result.andThen_ok, Sem.run_pure]
  have : n ≠ i := by omega
  simp [slicedAt, this, Addr.add_lit]
theorem cell_at {w : World} {b : Nat} {l : List Value} {t : TypeId} {fr : Nat × Nat} (h : w.heap[b]? = some (.cells l.toArray t fr)) {i : Nat} {v : Value} (hi : l[i]? = some v) : w.cell? ⟨b, i, none⟩ = some v := by
  simp [World.cell?, h, hi]
end
def hashL (s : List UInt32) (r : List UInt8) (f n : Nat) : List Value := (s.map fun x => U x) ++ (Lib.byteCells r ++ [NI f, NI n])
theorem hashL_length {s : List UInt32} {r : List UInt8} {f n : Nat} (hs : s.length = 8) (hr : r.length = 64) : (hashL s r f n).length = 74 := by
  simp [hashL, Lib.byteCells, hs, hr]
theorem hashL_fill {s : List UInt32} {r : List UInt8} {f n : Nat} (hs : s.length = 8) (hr : r.length = 64) : (hashL s r f n)[72]? = some (NI f) := by
  unfold hashL
  rw [List.getElem?_append_right (by simp [hs]), List.getElem?_append_right (by simp [Lib.byteCells, hs, hr])]
  simp [Lib.byteCells, hs, hr]
theorem hashL_size {s : List UInt32} {r : List UInt8} {f n : Nat} (hs : s.length = 8) (hr : r.length = 64) : (hashL s r f n)[73]? = some (NI n) := by
  unfold hashL
  rw [List.getElem?_append_right (by simp [hs]), List.getElem?_append_right (by simp [Lib.byteCells, hs, hr])]
  simp [Lib.byteCells, hs, hr]
theorem hashL_setFill {s : List UInt32} {r : List UInt8} {f n g : Nat} (hs : s.length = 8) (hr : r.length = 64) : (hashL s r f n).set 72 (NI g) = hashL s r g n := by
  unfold hashL
  rw [List.set_append_right _ _ (by simp [hs]), List.set_append_right _ _ (by simp [Lib.byteCells, hs, hr])]
  simp [Lib.byteCells, hs, hr]
theorem hashL_setSize {s : List UInt32} {r : List UInt8} {f n g : Nat} (hs : s.length = 8) (hr : r.length = 64) : (hashL s r f n).set 73 (NI g) = hashL s r f g := by
  unfold hashL
  rw [List.set_append_right _ _ (by simp [hs]), List.set_append_right _ _ (by simp [Lib.byteCells, hs, hr])]
  simp [Lib.byteCells, hs, hr]
theorem hashL_rest {s : List UInt32} {r x : List UInt8} {f n at_ : Nat} (hs : s.length = 8) (hr : r.length = 64) (hx : at_ + x.length ≤ 64) :
    (hashL s r f n).take (8 + at_) ++ Lib.byteCells x ++ (hashL s r f n).drop (8 + at_ + x.length) = hashL s (r.take at_ ++ x ++ r.drop (at_ + x.length)) f n := by
  unfold hashL
  have h8 : (s.map fun x => U x).length = 8 := by simp [hs]
  have hb : (Lib.byteCells r).length = 64 := by simp [Lib.byteCells, hr]
  rw [List.take_append, List.drop_append, h8, List.take_of_length_le (by omega), List.drop_of_length_le (l := s.map fun x => U x) (by omega)]
  rw [show 8 + at_ - 8 = at_ by omega, show 8 + at_ + x.length - 8 = at_ + x.length by omega, List.nil_append]
  rw [List.take_append_of_le_length (by omega), List.drop_append_of_le_length (by omega)]
  simp [Lib.byteCells, List.map_take, List.map_drop]
theorem hashL_state {s s' : List UInt32} {r : List UInt8} {f n : Nat} (hs : s.length = 8) : (s'.map fun x => U x) ++ (hashL s r f n).drop 8 = hashL s' r f n := by
  unfold hashL
  rw [List.drop_left' (by simp [hs])]
theorem hashL_get {s : List UInt32} {r : List UInt8} {f n : Nat} {j : Nat} {v : Value} (h : (s.map fun x => U x)[j]? = some v) : (hashL s r f n)[j]? = some v := by
  unfold hashL
  rw [List.getElem?_append_left (List.getElem?_eq_some_iff.1 h).1]
  exact h
theorem range_state {w : World} {g : Nat} {s : List UInt32} {r : List UInt8} {f n : Nat} {t : TypeId} {fr : Nat × Nat} (h : w.heap[g]? = some (.cells (hashL s r f n).toArray t fr)) : w.rangeAt g 0 (s.map fun x => U x) := fun j v hv => by
  rw [Nat.zero_add]
  exact cell_at h (hashL_get hv)
theorem rb_rest {w : World} {g : Nat} {s : List UInt32} {r : List UInt8} {f n : Nat} {t : TypeId} {fr : Nat × Nat} (hs : s.length = 8) (hr : r.length = 64) (h : w.heap[g]? = some (.cells (hashL s r f n).toArray t fr)) : RB w (.slice (some ⟨g, 8, none⟩) 64 64) r := by
  refine ⟨by simp [Lib.byteCells], some ⟨g, 8, none⟩, 64, by rw [hr], by rw [hr]; exact Nat.le_refl _, by decide, fun e => by simp at e, fun a ha j v hv => ?_⟩
  cases ha
  rw [Addr.add_lit]
  refine cell_at h ?_
  unfold hashL
  have h8 : (s.map fun x => U x).length = 8 := by simp [hs]
  rw [List.getElem?_append_right (by omega), h8, show 8 + j - 8 = j by omega, List.getElem?_append_left (List.getElem?_eq_some_iff.1 hv).1]
  exact hv
theorem Laid.kept {w w' : World} (h : Laid w) {g : Nat} (hg : w.grownBy w' (some g)) (h1 : 1 < g) : Laid w' :=
  ⟨by obtain ⟨t, fr, h2⟩ := h.first; exact ⟨t, fr, (hg.block 0 (Array.getElem?_eq_some_iff.1 h2).1 (by simp; omega)).trans h2⟩, by obtain ⟨t, fr, h2⟩ := h.words; exact ⟨t, fr, (hg.block 1 (Array.getElem?_eq_some_iff.1 h2).1 (by simp; omega)).trans h2⟩⟩
open Go.RowKit
theorem Grew.after {w w1 w2 : World} {v v' : Value} (h : Ext w w1) (g : Grew w1 w2 v v') : Grew w w2 v v' :=
  ⟨grownBy_trans (row_none h.grown _) g.by_ (fun _ hb => .inl hb), fun k hk => (g.fresh k hk).imp (fun x => x) (fun x => Nat.le_trans h.size x)⟩
theorem run_loadBytes {P : Program} {w : World} : ∀ (l : List UInt8) (a : Addr) (acc : ByteArray), (∀ j u, (Lib.byteCells l)[j]? = some u → w.cell? (a.add j) = some u) → (Extern.Bytes.loadBytes a l.length acc).run P w = .ok ⟨acc.data ++ l.toArray⟩ w
  | [], a, acc, _ => by simp [Extern.Bytes.loadBytes, Sem.run_pure]
  | b :: r, a, acc, h => by
    have h0 := h 0 (B8 b) (by simp [Lib.byteCells])
    have ha : a.add 0 = a := by unfold Addr.add; split <;> simp_all
    rw [ha] at h0
    have ih := run_loadBytes (P := P) (w := w) r (a.add 1) (acc.push b) (fun j u hj => by
      rw [addr_add_add]
      refine h (1 + j) u ?_
      rw [Nat.add_comm]
      simpa [Lib.byteCells] using hj)
    have hb : (((b.toNat : Nat) : Int)).toNat.toUInt8 = b := by simp
    have hl : (load a).run P w = .ok (B8 b) w := by simp [load, Sem.run, h0]
    simp only [List.length_cons, Extern.Bytes.loadBytes, Sem.run_bind, hl, Result.andThen_ok]
    rw [hb, ih]
    simp
theorem run_bytesOf {P : Program} {w : World} {v : Value} {l : List UInt8} (h : RB w v l) : (Extern.Bytes.bytesOf v).run P w = .ok ⟨l.toArray⟩ w := by
  obtain ⟨h1, ao, cap, rfl, h2, h3, h4, h5⟩ := h
  cases ao with
  | none =>
    have : l = [] := List.eq_nil_of_length_eq_zero (h4 rfl).1
    subst this
    rfl
  | some a =>
    have := run_loadBytes (P := P) (w := w) l a .empty (h5 a rfl)
    simpa [Extern.Bytes.bytesOf] using this
theorem run_compareRB {P : Program} {w : World} {x y : Value} {l m : List UInt8} (hx : RB w x l) (hy : RB w y m) : (Extern.BytealgCompare.compare #[x, y]).run P w = .ok (.int .i64 (Lib.compareBytes l m)) w := by
  change Sem.run P (do pure (goInt (Extern.BytealgCompare.cmp (← Extern.Bytes.bytesOf x) (← Extern.Bytes.bytesOf y)))) w = _
  simp only [Sem.run_bind, run_bytesOf hx, run_bytesOf hy, Sem.run_pure, Result.andThen_ok]
  rw [Lib.cmp_eq]
  rfl
section
variable {P : Program} {K : Value → World → Prop} {ρ : Slots} {w : World} {d : Option Tmp} {ty : TypeId} {pos : String} {af : Array Edge} {gd : Option (Nat × Bool)}
theorem Yk.extern2 {f : FuncId} {at_ : Array TypeId} {x y : Operand} {v0 v1 v : Value} (hx : evalR ρ x = v0) (hy : evalR ρ y = v1) (hr : (callFunc f #[v0, v1]).run P w = .ok (.value v) w) (hk : K v w) : Yk P K ((execOp (evalR ρ) ⟨d, .call ⟨.value (.func f), #[x, y], at_⟩, ty, pos, af, gd⟩).run P w) := by
  refine Yk.value (v := v) (w' := w) ?_ hk
  have hf : evalR ρ (.func f) = .func (.func f) #[] #[] := rfl
  unfold execOp
  simp [resolve, hf, Deferred.ofValue, invoke, hx, hy, hr]
theorem Yk.lit4 {t e : TypeId} (hr : ∀ (z0 z1 z2 z3 : Int) (w : World), (Instr.buildSlice t 4 #[(0, .int .u8 z0), (1, .int .u8 z1), (2, .int .u8 z2), (3, .int .u8 z3)]).run P w = .ok (.slice (some ⟨w.heap.size, 0, none⟩) 4 4) (w.alloc (.cells #[.int .u8 z0, .int .u8 z1, .int .u8 z2, .int .u8 z3] e)))
    {x0 x1 x2 x3 : Operand} {b0 b1 b2 b3 : UInt8} (h0 : evalR ρ x0 = B8 b0) (h1 : evalR ρ x1 = B8 b1) (h2 : evalR ρ x2 = B8 b2) (h3 : evalR ρ x3 = B8 b3)
    (hk : ∀ v w', NewB e w w' v [b0, b1, b2, b3] → K v w') : Yk P K ((execOp (evalR ρ) ⟨d, .buildSlice t 4 #[(0, x0), (1, x1), (2, x2), (3, x3)], ty, pos, af, gd⟩).run P w) := by
  have hr' : (execOp (evalR ρ) ⟨d, .buildSlice t 4 #[(0, x0), (1, x1), (2, x2), (3, x3)], ty, pos, af, gd⟩).run P w = .ok (.value (.slice (some ⟨w.heap.size, 0, none⟩) 4 4)) (w.alloc (.cells (Lib.byteCells [b0, b1, b2, b3]).toArray e)) := by
    unfold execOp
    simp only [List.map_toArray, List.map_cons, List.map_nil, h0, h1, h2, h3, Sem.run_bind, hr, Result.andThen_ok, Sem.run_pure]
    rfl
  rw [hr']
  exact hk _ _ (newB_lit w e [b0, b1, b2, b3] (by simp))
theorem idsize {x y : List UInt8} (hx : x.length = 32) (hy : y.length = 32) : (Lib.byteCells x).toArray.size = (Lib.byteCells y).toArray.size := by simp [Lib.byteCells, hx, hy]
theorem bytes_len32 {x : List UInt8} (h : (Lib.byteCells x).length = 32) : x.length = 32 := by rwa [Lib.byteCells_length] at h
theorem RB.ofBlk {g : Nat} {l : List UInt8} {t : TypeId} {fr : Nat × Nat} (h : w.heap[g]? = some (.cells (Lib.byteCells l).toArray t fr)) (hl : l.length ≤ 9223372036854775807) : RB w (.slice (some ⟨g, 0, none⟩) l.length l.length) l :=
  ⟨by simp [Lib.byteCells], _, _, rfl, Nat.le_refl _, by unfold maxLen; omega, (fun h => by cases h), fun a ha j u hu => by
    cases ha
    rw [Addr.add_lit, Nat.zero_add]
    exact cellAt h hu⟩
theorem RB.ofBlkN {g n : Nat} {l : List UInt8} {t : TypeId} {fr : Nat × Nat} (h : w.heap[g]? = some (.cells (Lib.byteCells l).toArray t fr)) (hn : l.length = n) (hl : n ≤ 9223372036854775807) : RB w (.slice (some ⟨g, 0, none⟩) n n) l := by
  subst hn
  exact RB.ofBlk h hl
end
/-! ### The order of rows of bytes -/
theorem cmp_range : ∀ a b : List UInt8, Lib.compareBytes a b = -1 ∨ Lib.compareBytes a b = 0 ∨ Lib.compareBytes a b = 1
  | [], [] => .inr (.inl rfl)
  | [], _ :: _ => .inl rfl
  | _ :: _, [] => .inr (.inr rfl)
  | x :: a, y :: b => by
    unfold Lib.compareBytes
    split
    · exact .inl rfl
    · split
      · exact .inr (.inr rfl)
      · exact cmp_range a b
theorem cmp_zero : ∀ {a b : List UInt8}, Lib.compareBytes a b = 0 → a = b
  | [], [], _ => rfl
  | [], _ :: _, h => by simp [Lib.compareBytes] at h
  | _ :: _, [], h => by simp [Lib.compareBytes] at h
  | x :: a, y :: b, h => by
    unfold Lib.compareBytes at h
    split at h
    · cases h
    · split at h
      · cases h
      · rename_i h1 h2
        have hxy : x = y := UInt8.le_antisymm (UInt8.not_lt.1 h2) (UInt8.not_lt.1 h1)
        rw [hxy, cmp_zero h]
theorem cmp_neg : ∀ a b : List UInt8, Lib.compareBytes a b = - Lib.compareBytes b a
  | [], [] => rfl
  | [], _ :: _ => rfl
  | _ :: _, [] => rfl
  | x :: a, y :: b => by
    unfold Lib.compareBytes
    by_cases h1 : x < y
    · rw [if_pos h1, if_neg (UInt8.lt_asymm h1), if_pos h1]
    · by_cases h2 : y < x
      · rw [if_neg h1, if_pos h2, if_pos h2]; rfl
      · rw [if_neg h1, if_neg h2, if_neg h2, if_neg h1]
        exact cmp_neg a b
theorem cmp_trans : ∀ {a b c : List UInt8}, Lib.compareBytes a b ≤ 0 → Lib.compareBytes b c ≤ 0 → Lib.compareBytes a c ≤ 0
  | [], _, [], _, _ => by simp [Lib.compareBytes]
  | [], _, _ :: _, _, _ => by simp [Lib.compareBytes]
  | _ :: _, [], _, h, _ => by simp [Lib.compareBytes] at h
  | _ :: _, _ :: _, [], _, h => by simp [Lib.compareBytes] at h
  | x :: a, y :: b, z :: c, h1, h2 => by
    unfold Lib.compareBytes at h1 h2 ⊢
    by_cases xy : x < y
    · by_cases yz : y < z
      · rw [if_pos (UInt8.lt_trans xy yz)]; decide
      · by_cases zy : z < y
        · rw [if_neg yz, if_pos zy] at h2; exact absurd h2 (by decide)
        · have : y = z := UInt8.le_antisymm (UInt8.not_lt.1 zy) (UInt8.not_lt.1 yz)
          rw [← this, if_pos xy]; decide
    · by_cases yx : y < x
      · rw [if_neg xy, if_pos yx] at h1; exact absurd h1 (by decide)
      · have e : x = y := UInt8.le_antisymm (UInt8.not_lt.1 yx) (UInt8.not_lt.1 xy)
        subst e
        rw [if_neg xy, if_neg xy] at h1
        by_cases xz : x < z
        · rw [if_pos xz]; decide
        · by_cases zx : z < x
          · rw [if_neg xz, if_pos zx] at h2; exact absurd h2 (by decide)
          · rw [if_neg xz, if_neg zx] at h2 ⊢
            exact cmp_trans h1 h2
def Asc (l : List (List UInt8)) : Prop := l.Pairwise fun a b => Lib.compareBytes a b ≤ 0
theorem asc_perm : ∀ {l m : List (List UInt8)}, Asc l → Asc m → l.Perm m → l = m
  | [], m, _, _, h => (List.nil_perm.1 h).symm
  | l, [], _, _, h => List.perm_nil.1 h
  | a :: l, b :: m, h1, h2, h => by
    have ha := List.pairwise_cons.1 h1
    have hb := List.pairwise_cons.1 h2
    have e : a = b := by
      have m1 : a ∈ b :: m := h.subset (by simp)
      have m2 : b ∈ a :: l := h.symm.subset (by simp)
      rcases List.mem_cons.1 m1 with e | m1
      · exact e
      · rcases List.mem_cons.1 m2 with e | m2
        · exact e.symm
        · have k1 := hb.1 a m1
          have k2 := ha.1 b m2
          have k3 := cmp_neg a b
          exact cmp_zero (by omega)
    subst e
    rw [asc_perm ha.2 hb.2 (List.Perm.cons_inv h)]
def insB (x : List UInt8) : List (List UInt8) → List (List UInt8)
  | [] => [x]
  | a :: r => if Lib.compareBytes x a ≤ 0 then x :: a :: r else a :: insB x r
def sortB : List (List UInt8) → List (List UInt8)
  | [] => []
  | a :: r => insB a (sortB r)
theorem insB_perm (x : List UInt8) : ∀ l, (insB x l).Perm (x :: l)
  | [] => List.Perm.refl _
  | a :: r => by
    unfold insB
    split
    · exact List.Perm.refl _
    · exact ((insB_perm x r).cons a).trans (List.Perm.swap x a r)
theorem sortB_perm : ∀ l, (sortB l).Perm l
  | [] => List.Perm.refl _
  | a :: r => (insB_perm a _).trans ((sortB_perm r).cons a)
theorem insB_asc (x : List UInt8) : ∀ l, Asc l → Asc (insB x l)
  | [], _ => by simp [insB, Asc]
  | a :: r, h => by
    have hr := List.pairwise_cons.1 h
    unfold insB
    split
    · rename_i hx
      refine List.pairwise_cons.2 ⟨fun c hc => ?_, h⟩
      rcases List.mem_cons.1 hc with rfl | hc
      · exact hx
      · exact cmp_trans hx (hr.1 c hc)
    · rename_i hx
      refine List.pairwise_cons.2 ⟨fun c hc => ?_, insB_asc x r hr.2⟩
      rcases List.mem_cons.1 ((insB_perm x r).subset hc) with rfl | hc
      · have := cmp_neg c a
        omega
      · exact hr.1 c hc
theorem sortB_asc : ∀ l, Asc (sortB l)
  | [] => List.Pairwise.nil
  | a :: r => insB_asc a _ (sortB_asc r)
theorem sortB_len (l : List (List UInt8)) : (sortB l).length = l.length := (sortB_perm l).length_eq
theorem asc_sortB {l m : List (List UInt8)} (h : Asc m) (hp : m.Perm l) : m = sortB l := asc_perm h (sortB_asc l) (hp.trans (sortB_perm l).symm)
abbrev Bs := List UInt8
def fourP (n : Nat) : Bs := [UInt8.ofNat (n / 2 ^ 24), UInt8.ofNat (n / 2 ^ 16), UInt8.ofNat (n / 2 ^ 8), UInt8.ofNat n]
def numP (b : Bs) : Nat := (b.getD 0 0).toNat * 2 ^ 24 + (b.getD 1 0).toNat * 2 ^ 16 + (b.getD 2 0).toNat * 2 ^ 8 + (b.getD 3 0).toNat
theorem fourP_len (n : Nat) : (fourP n).length = 4 := rfl
theorem or3 (a b c d : Nat) (hb : b < 256) (hc : c < 256) (hd : d < 256) : a * 2 ^ 24 ||| b * 2 ^ 16 ||| c * 2 ^ 8 ||| d = a * 2 ^ 24 + b * 2 ^ 16 + c * 2 ^ 8 + d := by
  have e1 : a * 2 ^ 24 ||| b * 2 ^ 16 = (a * 2 ^ 8 + b) * 2 ^ 16 := by
    have := shl_or a (b * 2 ^ 16) 24 (by omega)
    rw [this]
    omega
  have e2 : (a * 2 ^ 8 + b) * 2 ^ 16 ||| c * 2 ^ 8 = ((a * 2 ^ 8 + b) * 2 ^ 8 + c) * 2 ^ 8 := by
    have := shl_or (a * 2 ^ 8 + b) (c * 2 ^ 8) 16 (by omega)
    rw [this]
    omega
  rw [e1, e2, shl_or _ d 8 (by omega)]
  omega
theorem numP_fourP (n : Nat) (h : n < 2 ^ 32) (r : Bs) : numP (fourP n ++ r) = n := by
  unfold numP fourP
  simp
  omega
def hdN (id : Bs) : Nat := (id.getD 0 0).toNat
theorem hdN_lt (id : Bs) : hdN id < 256 := (id.getD 0 0).toNat_lt
def fanL (ids : List Bs) : List Nat := (List.range 256).map fun c => ids.countP fun id => decide (hdN id ≤ c)
def firstL (ids : List Bs) : List Nat := (List.range 256).map fun c => ids.countP fun id => decide (hdN id = c)
theorem fanL_len (ids : List Bs) : (fanL ids).length = 256 := by simp [fanL]
theorem firstL_len (ids : List Bs) : (firstL ids).length = 256 := by simp [firstL]
theorem firstL_get (ids : List Bs) (c : Nat) (h : c < 256) : (firstL ids).getD c 0 = ids.countP fun id => decide (hdN id = c) := by
  rw [List.getD_eq_getElem?_getD]
  simp [firstL, h]
theorem fanL_get (ids : List Bs) (c : Nat) (h : c < 256) : (fanL ids).getD c 0 = ids.countP fun id => decide (hdN id ≤ c) := by
  rw [List.getD_eq_getElem?_getD]
  simp [fanL, h]
theorem fanL_le (ids : List Bs) (c : Nat) : (fanL ids).getD c 0 ≤ ids.length := by
  by_cases h : c < 256
  · rw [fanL_get _ _ h]
    exact List.countP_le_length
  · rw [List.getD_eq_getElem?_getD, List.getElem?_eq_none (by rw [fanL_len]; omega)]
    simp
theorem firstL_snoc (ids : List Bs) (id : Bs) : firstL (ids ++ [id]) = (firstL ids).set (hdN id) ((firstL ids).getD (hdN id) 0 + 1) := by
  have hb := hdN_lt id
  apply List.ext_getElem?
  intro c
  by_cases hc : c < 256
  · rw [List.getElem?_eq_getElem (by rw [firstL_len]; exact hc), List.getElem?_eq_getElem (by rw [List.length_set, firstL_len]; exact hc)]
    congr 1
    rw [List.getElem_set]
    have g : ∀ (l : List Bs) (h : c < (firstL l).length), (firstL l)[c] = l.countP fun id => decide (hdN id = c) := fun l h => by simp [firstL]
    rw [g]
    split
    · rename_i he
      rw [he, firstL_get _ _ hc, List.countP_append]
      simp [he]
    · rename_i he
      rw [g, List.countP_append]
      simp [he]
  · rw [List.getElem?_eq_none (by rw [firstL_len]; omega), List.getElem?_eq_none (by rw [List.length_set, firstL_len]; omega)]
def fanStep (ids : List Bs) (k : Nat) : List Nat := (fanL ids).take k ++ (firstL ids).drop k
theorem fanStep_len (ids : List Bs) (k : Nat) (h : k ≤ 256) : (fanStep ids k).length = 256 := by
  unfold fanStep
  rw [List.length_append, List.length_take, List.length_drop, fanL_len, firstL_len]
  omega
theorem fanL_zero (ids : List Bs) : (fanL ids).getD 0 0 = (firstL ids).getD 0 0 := by
  rw [fanL_get _ _ (by omega), firstL_get _ _ (by omega)]
  congr 1
  funext id
  simp
theorem fanStep_one (ids : List Bs) : fanStep ids 1 = firstL ids := by
  have h := fanL_zero ids
  have h1 := fanL_len ids
  have h2 := firstL_len ids
  unfold fanStep
  match hA : fanL ids, hB : firstL ids with
  | [], _ => rw [hA] at h1; simp at h1
  | _ :: _, [] => rw [hB] at h2; simp at h2
  | a :: A, b :: B =>
    rw [hA, hB] at h
    simp at h
    simp [h]
theorem fanL_succ (ids : List Bs) (c : Nat) (h : c + 1 < 256) : (fanL ids).getD (c + 1) 0 = (firstL ids).getD (c + 1) 0 + (fanL ids).getD c 0 := by
  rw [fanL_get _ _ h, firstL_get _ _ h, fanL_get _ _ (by omega)]
  induction ids with
  | nil => rfl
  | cons a r ih =>
    simp only [List.countP_cons, ih]
    by_cases h1 : hdN a ≤ c
    · simp [h1, show hdN a ≤ c + 1 by omega, show hdN a ≠ c + 1 by omega]
      omega
    · by_cases h2 : hdN a = c + 1
      · simp [h2, show ¬ c + 1 ≤ c by omega]
        omega
      · simp [h1, h2, show ¬ hdN a ≤ c + 1 by omega]
theorem fanStep_succ (ids : List Bs) (k : Nat) (h0 : 0 < k) (h : k < 256) : fanStep ids (k + 1) = (fanStep ids k).set k ((fanStep ids k).getD k 0 + (fanStep ids k).getD (k - 1) 0) := by
  have g1 : (fanStep ids k).getD k 0 = (firstL ids).getD k 0 := by
    unfold fanStep
    rw [List.getD_eq_getElem?_getD, List.getElem?_append_right (by rw [List.length_take, fanL_len]; omega), List.length_take, fanL_len, List.getElem?_drop, show k + (k - min k 256) = k by omega, ← List.getD_eq_getElem?_getD]
  have g2 : (fanStep ids k).getD (k - 1) 0 = (fanL ids).getD (k - 1) 0 := by
    unfold fanStep
    rw [List.getD_eq_getElem?_getD, List.getElem?_append_left (by rw [List.length_take, fanL_len]; omega), List.getElem?_take, if_pos (by omega), ← List.getD_eq_getElem?_getD]
  have g3 := fanL_succ ids (k - 1) (by omega)
  rw [show k - 1 + 1 = k by omega] at g3
  rw [g1, g2, ← g3]
  unfold fanStep
  rw [List.set_append_right _ _ (by rw [List.length_take, fanL_len]; omega), List.length_take, fanL_len, show k - min k 256 = 0 by omega, List.take_succ_eq_append_getElem (by rw [fanL_len]; exact h), List.append_assoc]
  congr 1
  rw [List.drop_eq_getElem_cons (l := firstL ids) (i := k) (by rw [firstL_len]; exact h)]
  simp only [List.set_cons_zero, List.singleton_append, List.cons.injEq, and_true]
  rw [List.getD_eq_getElem?_getD, List.getElem?_eq_getElem (by rw [fanL_len]; exact h)]
  rfl
theorem fanStep_all (ids : List Bs) : fanStep ids 256 = fanL ids := by
  unfold fanStep
  rw [List.take_of_length_le (by rw [fanL_len]; omega), List.drop_of_length_le (by rw [firstL_len]; omega), List.append_nil]
open Go.RowKit
set_option maxRecDepth 100000
theorem own_base0 {w w0 w' : World} {e : TypeId} {v : Value} {l : List UInt8} (h : w'.ownsRow w0.heap.size e 1 v l.length (Lib.byteCells l)) (hb : w.heap.size ≤ w0.heap.size) : w'.ownsRow w.heap.size e 1 v l.length (Lib.byteCells l) := ownsRow_base h hb
theorem pk3_ty3 : Tryd.prog.underlying 3 = some (.int .i64) := by kernel_rfl
theorem pk3_ty5 : Tryd.prog.underlying 5 = some (.int .u8) := by kernel_rfl
theorem pk3_l4_24 (z0 z1 z2 z3 : Int) (w : World) : (Instr.buildSlice 24 4 #[(0, .int .u8 z0), (1, .int .u8 z1), (2, .int .u8 z2), (3, .int .u8 z3)]).run Tryd.prog w = .ok (.slice (some ⟨w.heap.size, 0, none⟩) 4 4) (w.alloc (.cells #[.int .u8 z0, .int .u8 z1, .int .u8 z2, .int .u8 z3] 5)) := by kernel_rfl
theorem pk3_ty24 : Tryd.prog.underlying 24 = some (.slice 5) := by kernel_rfl
theorem pk3_inf5 : (Tryd.prog.info? 5).map (fun i => (i.zero, i.size, i.bytes)) = some (some (.int .u8 0), 1, 1) := by kernel_rfl
theorem pk3_sz5 : ∀ w' : World, (sizeOf 5).run Tryd.prog w' = .ok 1 w' := fun _ => by kernel_rfl
theorem pk3_l1_24 (z : Int) (w : World) : (Instr.buildSlice 24 1 #[(0, .int .u8 z)]).run Tryd.prog w = .ok (.slice (some ⟨w.heap.size, 0, none⟩) 1 1) (w.alloc (.cells #[.int .u8 z] 5)) := by kernel_rfl
theorem pk3_pl49 : Plain Tryd.prog 49 := fun _ _ => by kernel_rfl
theorem four_any (w0 w : World) (hE : Ext w0 w) (v : Value) (l : List UInt8) (n : Nat) (hn : n < 9223372036854775808) (hl : l.length + 4 ≤ 140737488355328) (hown : w.ownsRow w0.heap.size 5 1 v l.length (Lib.byteCells l)) :
  Calls Tryd.prog 27 #[v, NI n] w fun e w' => ∃ v', e = .returned v' ∧ w'.ownsRow w0.heap.size 5 1 v' (l ++ fourP n).length (Lib.byteCells (l ++ fourP n)) ∧ Grew w w' v v' := by
 refine gG (args := [v, NI n]) Tryd.func27 rfl 19 rfl rfl (gS (Yk.bin (xv := NI n) (yv := .int .u64 ((24 : Nat) : Int)) rfl rfl rfl (i64_shr _ _ _ _ (by omega)) (gS (Yk.convI pk3_ty3 pk3_ty5 rfl (toByte ((n) / 2 ^ (24))) (gS (Yk.bin (xv := NI n) (yv := .int .u64 ((16 : Nat) : Int)) rfl rfl rfl (i64_shr _ _ _ _ (by omega)) (gS (Yk.convI pk3_ty3 pk3_ty5 rfl (toByte ((n) / 2 ^ (16))) (gS (Yk.bin (xv := NI n) (yv := .int .u64 ((8 : Nat) : Int)) rfl rfl rfl (i64_shr _ _ _ _ (by omega)) (gS (Yk.convI pk3_ty3 pk3_ty5 rfl (toByte ((n) / 2 ^ (8))) (gS (Yk.convI pk3_ty3 pk3_ty5 rfl (toByte (n)) (gS (Yk.lit4 (b0 := UInt8.ofNat ((n) / 2 ^ (24))) (b1 := UInt8.ofNat ((n) / 2 ^ (16))) (b2 := UInt8.ofNat ((n) / 2 ^ (8))) (b3 := UInt8.ofNat (n)) pk3_l4_24 (vr (B8 (UInt8.ofNat ((n) / 2 ^ (24)))) rfl) (vr (B8 (UInt8.ofNat ((n) / 2 ^ (16)))) rfl) (vr (B8 (UInt8.ofNat ((n) / 2 ^ (8)))) rfl) (vr (B8 (UInt8.ofNat (n))) rfl) fun v3 w4 hN5 => ?_))))))))))))))))
 have hA6 := Ext.refl w
 have hz8 := hE.size
 have hap9 : ApartV v v3 := apartv_new hown hN5.own
 have ho11 := hN5.own
 have hE := hE.trans hN5.ext
 have hown := Stab.own _ _ _ _ _ _ _ _ hown hN5.ext
 refine gS (Yk.appendRB _ _ w0.heap.size (.int .u8 0) pk3_ty24 pk3_inf5 rfl pk3_ty24 (l) (([UInt8.ofNat ((n) / 2 ^ (24)), UInt8.ofNat ((n) / 2 ^ (16)), UInt8.ofNat ((n) / 2 ^ (8)), UInt8.ofNat (n)] : List UInt8)) (own_of hown (vr v rfl)) (RB.of (RB.ofOwn ho11) (vr v3 rfl)) (by simp; omega) hE.size fun v12 w13 ho14 hg15 => ?_)
 have hA6 := hA6.trans hN5.ext
 have hGr := Grew.after hA6 hg15
 have hg15 : Grew w4 w13 v v12 := hg15
 have hE := ext_grew hE hg15 hown (Nat.le_refl _)
 have ho11 := own_grew ho11 hg15 hap9
 clear hown
 refine rt1 rfl (vr v12 rfl) ?_
 exact ⟨_, rfl, own_eq ho14 rfl, hGr⟩

theorem number_any_ (w : World) (v : Value) (b : List UInt8) (hr : RB w v b) (hl : 4 ≤ b.length) :
  Calls Tryd.prog 62 #[v] w fun e w' => e = .returned (NI (numP b)) ∧ Ext w w' := by
 have c0 : (b.getD 0 0).toNat < 256 := (b.getD 0 0).toNat_lt
 have c1 : (b.getD 1 0).toNat < 256 := (b.getD 1 0).toNat_lt
 have c2 : (b.getD 2 0).toNat < 256 := (b.getD 2 0).toNat_lt
 have c3 : (b.getD 3 0).toNat < 256 := (b.getD 3 0).toNat_lt
 have hlt0 : (b.getD 0 0).toNat * 2 ^ 24 < 9223372036854775808 := Nat.lt_of_lt_of_le (Nat.mul_lt_mul_of_pos_right c0 (by decide)) (by decide)
 have hlt1 : (b.getD 1 0).toNat * 2 ^ 16 < 9223372036854775808 := Nat.lt_of_lt_of_le (Nat.mul_lt_mul_of_pos_right c1 (by decide)) (by decide)
 have hlt2 : (b.getD 2 0).toNat * 2 ^ 8 < 9223372036854775808 := Nat.lt_of_lt_of_le (Nat.mul_lt_mul_of_pos_right c2 (by decide)) (by decide)
 have hlt3 : (b.getD 3 0).toNat < 9223372036854775808 := by omega
 have hlt01 : (b.getD 0 0).toNat * 2 ^ 24 ||| (b.getD 1 0).toNat * 2 ^ 16 < 9223372036854775808 := Nat.or_lt_two_pow (n := 63) hlt0 hlt1
 have hlt012 : (b.getD 0 0).toNat * 2 ^ 24 ||| (b.getD 1 0).toNat * 2 ^ 16 ||| (b.getD 2 0).toNat * 2 ^ 8 < 9223372036854775808 := Nat.or_lt_two_pow (n := 63) hlt01 hlt2
 refine gG (args := [v]) Tryd.func62 rfl 25 rfl rfl ?_
 have hE := Ext.refl w
 refine gM0 [0, 1, 2, 3, 4, 5, 6, 7, 8, 9, 10, 11, 12, 13, 14, 15, 16, 17, 18, 19, 20, 21, 22] [] [] fun w3 hx4 => ?_
 have hE := hE.trans hx4
 refine yA (Yk.atRB (l := b) (i := 0) pk3_ty24 pk3_sz5 (RB.of (hr.keep hE) rfl) rfl (by omega) fun v5 hp6 => (ys (Yk.loadC pk3_ty5 rfl (PCell.of hp6 rfl) zz) (ys (Yk.convI pk3_ty5 pk3_ty3 rfl (ofByte .i64 (b.getD (0) 0) (fun n hn => wrap_i64 n (by omega))) zz) (ys (Yk.bin (xv := NI ((b.getD (0) 0).toNat)) (yv := .int .u64 ((24 : Nat) : Int)) rfl rfl rfl (i64_shl _ _ _ _ (by omega) (by exact hlt0)) zz) (yA (Yk.atRB (l := b) (i := 1) pk3_ty24 pk3_sz5 (RB.of (hr.keep hE) rfl) rfl (by omega) fun v7 hp8 => (ys (Yk.loadC pk3_ty5 rfl (PCell.of hp8 rfl) zz) (ys (Yk.convI pk3_ty5 pk3_ty3 rfl (ofByte .i64 (b.getD (1) 0) (fun n hn => wrap_i64 n (by omega))) zz) (ys (Yk.bin (xv := NI ((b.getD (1) 0).toNat)) (yv := .int .u64 ((16 : Nat) : Int)) rfl rfl rfl (i64_shl _ _ _ _ (by omega) (by exact hlt1)) zz) (ys (Yk.bin (xv := NI (((b.getD (0) 0).toNat) * 2 ^ (24))) (yv := NI (((b.getD (1) 0).toNat) * 2 ^ (16))) rfl rfl rfl (i64_or _ _ _ (by exact hlt0) (by exact hlt1)) zz) (yA (Yk.atRB (l := b) (i := 2) pk3_ty24 pk3_sz5 (RB.of (hr.keep hE) rfl) rfl (by omega) fun v9 hp10 => (ys (Yk.loadC pk3_ty5 rfl (PCell.of hp10 rfl) zz) (ys (Yk.convI pk3_ty5 pk3_ty3 rfl (ofByte .i64 (b.getD (2) 0) (fun n hn => wrap_i64 n (by omega))) zz) (ys (Yk.bin (xv := NI ((b.getD (2) 0).toNat)) (yv := .int .u64 ((8 : Nat) : Int)) rfl rfl rfl (i64_shl _ _ _ _ (by omega) (by exact hlt2)) zz) (ys (Yk.bin (xv := NI ((((b.getD (0) 0).toNat) * 2 ^ (24)) ||| (((b.getD (1) 0).toNat) * 2 ^ (16)))) (yv := NI (((b.getD (2) 0).toNat) * 2 ^ (8))) rfl rfl rfl (i64_or _ _ _ (by exact hlt01) (by exact hlt2)) zz) (yA (Yk.atRB (l := b) (i := 3) pk3_ty24 pk3_sz5 (RB.of (hr.keep hE) rfl) rfl (by omega) fun v11 hp12 => (ys (Yk.loadC pk3_ty5 rfl (PCell.of hp12 rfl) zz) ?_)))))))))))))))))))
 refine ys (Yk.convI pk3_ty5 pk3_ty3 rfl (ofByte .i64 (b.getD (3) 0) (fun n hn => wrap_i64 n (by omega))) zz) (ys (Yk.bin (xv := NI (((((b.getD (0) 0).toNat) * 2 ^ (24)) ||| (((b.getD (1) 0).toNat) * 2 ^ (16))) ||| (((b.getD (2) 0).toNat) * 2 ^ (8)))) (yv := NI ((b.getD (3) 0).toNat)) rfl rfl rfl (i64_or _ _ _ (by exact hlt012) (by exact hlt3)) zz) ?_)
 clear hp6
 clear hp8
 clear hp10
 clear hp12
 refine rt1 rfl (vr (NI ((((((b.getD (0) 0).toNat) * 2 ^ (24)) ||| (((b.getD (1) 0).toNat) * 2 ^ (16))) ||| (((b.getD (2) 0).toNat) * 2 ^ (8))) ||| ((b.getD (3) 0).toNat))) rfl) ?_
 exact ⟨by rw [show numP b = _ from (or3 _ _ _ _ (b.getD 1 0).toNat_lt (b.getD 2 0).toNat_lt (b.getD 3 0).toNat_lt).symm], hE⟩

theorem begin_any (w : World) (n : Nat) (hn : n ≤ 9223372036854775807) :
  Calls Tryd.prog 23 #[NI n] w fun e w' => ∃ v, e = .returned v ∧ w'.ownsRow w.heap.size 5 1 v (80 :: Lib.uvarint n).length (Lib.byteCells (80 :: Lib.uvarint n)) ∧ Ext w w' := by
 refine gG (args := [NI n]) Tryd.func23 rfl 12 rfl rfl ?_
 have hE := Ext.refl w
 refine gS (Yk.lit1 (b := 80) pk3_l1_24 (vr (B8 (80)) rfl) fun v3 w4 hN5 => ?_)
 have ho6 := hN5.own
 refine gS (Yk.callA2 pk3_pl49 rfl rfl ((put_any _ v3 ([(80 : UInt8)]) (RB.ofOwn ho6) (by simp) n (by omega)).mono ?_))
 rintro e w9 ⟨v7, rfl, hN8⟩
 refine ⟨_, rfl, ?_⟩
 have hE := hE.trans hN5.ext
 have hz12 := hE.size
 have ho15 := hN8.own
 refine gS (Yk.extract (vs := [v7, NI 0]) rfl rfl (gS (Yk.extract (vs := [v7, NI 0]) rfl rfl (rt1 rfl (vr v7 rfl) ?_))))
 have hE := hE.trans hN8.ext
 exact ⟨_, rfl, own_base0 ho15 (by omega), hE⟩
open Go.RowKit
section
variable {P : Program} {K : Value → World → Prop} {ρ : Slots} {w : World} {d : Option Tmp} {ty : TypeId} {pos : String} {af : Array Edge} {gd : Option (Nat × Bool)}
variable {α β : Type} {ek : α → Value} {ev : β → Value} {D : α → Prop} {b : Nat} {G : α → Option β}
variable {t Kt E : TypeId} {OK : Value → Prop}
theorem Yk.lookM (L : KL P Kt OK) (hD : ∀ a, D a → OK (ek a)) (hi : ∀ a c, ek a = ek c → a = c) (ht : P.underlying t = some (.map Kt E)) {z : Value} (hz : ∀ u : World, (zeroValue E).run P u = .ok z u) {x y : Operand} {a : α}
    (hm : evalR ρ x = .map (some b)) (hy : evalR ρ y = ek a) (h : MapF ek ev D w b G) (ha : D a) (hk : K ((G a).elim z ev) w) :
    Yk P K ((execOp (evalR ρ) ⟨d, .lookup t x y false, ty, pos, af, gd⟩).run P w) := by
  have hrun := h.look L hD hi ht hz ha false
  refine Yk.value (v := (G a).elim z ev) (w' := w) ?_ hk
  unfold execOp
  simp only [hm, hy, Sem.run_bind, hrun, Result.andThen_ok, Sem.run_pure]
  rfl
theorem Yk.lookOk (L : KL P Kt OK) (hD : ∀ a, D a → OK (ek a)) (hi : ∀ a c, ek a = ek c → a = c) (ht : P.underlying t = some (.map Kt E)) {z : Value} (hz : ∀ u : World, (zeroValue E).run P u = .ok z u) {x y : Operand} {a : α}
    (hm : evalR ρ x = .map (some b)) (hy : evalR ρ y = ek a) (h : MapF ek ev D w b G) (ha : D a) (hk : K (.tuple #[(G a).elim z ev, .bool (G a).isSome]) w) :
    Yk P K ((execOp (evalR ρ) ⟨d, .lookup t x y true, ty, pos, af, gd⟩).run P w) := by
  have hrun := h.look L hD hi ht hz ha true
  refine Yk.value (v := .tuple #[(G a).elim z ev, .bool (G a).isSome]) (w' := w) ?_ hk
  unfold execOp
  simp only [hm, hy, Sem.run_bind, hrun, Result.andThen_ok, Sem.run_pure]
  rfl
theorem Yk.putM [DecidableEq α] (L : KL P Kt OK) (hD : ∀ a, D a → OK (ek a)) (ht : P.underlying t = some (.map Kt E)) {x y z : Operand} {a : α} {c : β}
    (hm : evalR ρ x = .map (some b)) (hy : evalR ρ y = ek a) (hz : evalR ρ z = ev c) (h : MapF ek ev D w b G) (ha : D a) (hk : ∀ w', MapF ek ev D w' b (updM G a (some c)) → w.grownBy w' (some b) → w'.heap.size = w.heap.size → K undef w') :
    Yk P K ((execOp (evalR ρ) ⟨d, .mapUpdate t x y z, ty, pos, af, gd⟩).run P w) := by
  obtain ⟨w', hrun, h1, h2, h3⟩ := h.put L hD ht ha c
  have hr : (execOp (evalR ρ) ⟨d, .mapUpdate t x y z, ty, pos, af, gd⟩).run P w = .ok .skip w' ∨ (execOp (evalR ρ) ⟨d, .mapUpdate t x y z, ty, pos, af, gd⟩).run P w = .ok (.value undef) w' := by
    unfold execOp
    simp only [hm, hy, hz, Sem.run_bind, hrun, Result.andThen_ok, Sem.run_pure]
    simp
  rcases hr with hr | hr <;> rw [hr] <;> exact hk w' h1 h2 h3
theorem Yk.delM [DecidableEq α] (L : KL P Kt OK) (hD : ∀ a, D a → OK (ek a)) (hi : ∀ a c, ek a = ek c → a = c) (ht : P.underlying t = some (.map Kt E)) {x y : Operand} {a : α}
    (hm : evalR ρ x = .map (some b)) (hy : evalR ρ y = ek a) (h : MapF ek ev D w b G) (ha : D a) (hk : ∀ w', MapF ek ev D w' b (updM G a none) → w.grownBy w' (some b) → w'.heap.size = w.heap.size → K (.tuple #[]) w') :
    Yk P K ((execOp (evalR ρ) ⟨d, .call ⟨.builtin .delete, #[x, y], #[t, Kt]⟩, ty, pos, af, gd⟩).run P w) := by
  obtain ⟨w', hrun, h1, h2, h3⟩ := h.del L hD hi ht (ty := ty) ha
  refine Yk.value (v := .tuple #[]) (w' := w') ?_ (hk w' h1 h2 h3)
  unfold execOp
  simp only [resolve, invoke, builtin, Sem.run_bind, Sem.run_pure, Result.andThen_ok, List.map_toArray, List.map_cons, List.map_nil, hm, hy, hrun]
theorem Yk.mkMap (ek : α → Value) (ev : β → Value) (D : α → Prop) (hk : ∀ g w', w.heap.size = g → MapF ek ev D w' g (fun _ => none) → Ext w w' → w'.heap.size = g + 1 → K (.map (some g)) w') :
    Yk P K ((execOp (evalR ρ) ⟨d, .makeMap t none, ty, pos, af, gd⟩).run P w) := by
  refine Yk.value (v := .map (some w.heap.size)) (w' := w.alloc (.map #[] 0)) ?_ (hk _ _ rfl (MapF.made ek ev D w) ((Below.refl _ _).alloc (Nat.le_refl _) _) (by simp))
  unfold execOp
  simp [Instr.makeMap, newObj, Result.andThen]
  rfl
theorem Yk.lookOkS (L : KL P Kt OK) (hD : ∀ a, D a → OK (ek a)) (hi : ∀ a c, ek a = ek c → a = c) (ht : P.underlying t = some (.map Kt E)) {z : Value} (hz : ∀ u : World, (zeroValue E).run P u = .ok z u) {x y : Operand} {a : α} {c : β}
    (hm : evalR ρ x = .map (some b)) (hy : evalR ρ y = ek a) (h : MapF ek ev D w b G) (ha : D a) (hG : G a = some c) (hk : K (.tuple #[ev c, .bool true]) w) : Yk P K ((execOp (evalR ρ) ⟨d, .lookup t x y true, ty, pos, af, gd⟩).run P w) :=
  Yk.lookOk L hD hi ht hz hm hy h ha (by rw [hG]; exact hk)
theorem Yk.lookOkN (L : KL P Kt OK) (hD : ∀ a, D a → OK (ek a)) (hi : ∀ a c, ek a = ek c → a = c) (ht : P.underlying t = some (.map Kt E)) {z : Value} (hz : ∀ u : World, (zeroValue E).run P u = .ok z u) {x y : Operand} {a : α}
    (hm : evalR ρ x = .map (some b)) (hy : evalR ρ y = ek a) (h : MapF ek ev D w b G) (ha : D a) (hG : G a = none) (hk : K (.tuple #[z, .bool false]) w) : Yk P K ((execOp (evalR ρ) ⟨d, .lookup t x y true, ty, pos, af, gd⟩).run P w) :=
  Yk.lookOk L hD hi ht hz hm hy h ha (by rw [hG]; exact hk)
theorem Yk.lookMS (L : KL P Kt OK) (hD : ∀ a, D a → OK (ek a)) (hi : ∀ a c, ek a = ek c → a = c) (ht : P.underlying t = some (.map Kt E)) {z : Value} (hz : ∀ u : World, (zeroValue E).run P u = .ok z u) {x y : Operand} {a : α} {c : β}
    (hm : evalR ρ x = .map (some b)) (hy : evalR ρ y = ek a) (h : MapF ek ev D w b G) (ha : D a) (hG : G a = some c) (hk : K (ev c) w) : Yk P K ((execOp (evalR ρ) ⟨d, .lookup t x y false, ty, pos, af, gd⟩).run P w) :=
  Yk.lookM L hD hi ht hz hm hy h ha (by rw [hG]; exact hk)
theorem Yk.build {parts : Array (Nat × Operand)} {vs : Array (Nat × Value)} {v : Value} (hv : (parts.map fun (i, x) => (i, evalR ρ x)) = vs) (hr : ∀ w : World, (Instr.build t vs).run P w = .ok v w) (hk : K v w) :
    Yk P K ((execOp (evalR ρ) ⟨d, .build t parts, ty, pos, af, gd⟩).run P w) := by
  refine Yk.value (v := v) (w' := w) ?_ hk
  unfold execOp
  simp only [hv, hr, Sem.run_bind, Result.andThen_ok, Sem.run_pure]
theorem Yk.build1 {i0 : Nat} {x0 : Operand} {v0 v : Value} (h0 : evalR ρ x0 = v0) (hr : ∀ w : World, (Instr.build t #[(i0, v0)]).run P w = .ok v w) (hk : K v w) : Yk P K ((execOp (evalR ρ) ⟨d, .build t #[(i0, x0)], ty, pos, af, gd⟩).run P w) :=
  Yk.build (by simp [h0]) hr hk
theorem Yk.build2 {i0 i1 : Nat} {x0 x1 : Operand} {v0 v1 v : Value} (h0 : evalR ρ x0 = v0) (h1 : evalR ρ x1 = v1) (hr : ∀ w : World, (Instr.build t #[(i0, v0), (i1, v1)]).run P w = .ok v w) (hk : K v w) : Yk P K ((execOp (evalR ρ) ⟨d, .build t #[(i0, x0), (i1, x1)], ty, pos, af, gd⟩).run P w) :=
  Yk.build (by simp [h0, h1]) hr hk
theorem RG.slice {k : Nat} {enc : α → List Value} {v : Value} {l : List α} (h : RG k enc w v l) : ∃ ao n c, v = .slice ao n c := by
  obtain ⟨ao, c, rfl⟩ := h.len
  exact ⟨ao, _, c, rfl⟩
theorem Yk.mkIface {fs} (hu : P.underlying t = some (.struct fs)) {x : Operand} {v : Value} (hx : evalR ρ x = v) (hk : K (.iface t v) w) : Yk P K ((execOp (evalR ρ) ⟨d, .makeInterface t x, ty, pos, af, gd⟩).run P w) := by
  refine Yk.value (v := .iface t v) (w' := w) ?_ hk
  unfold execOp
  simp [Instr.makeInterface, hx, run_underlying hu, Result.andThen]
theorem Yk.lit1G {k : Nat} {enc : α → List Value} {e : TypeId} {x : Operand} {a : α} (hx : evalR ρ x = .agg (enc a).toArray) (hl : (enc a).length = k)
    (hr : ∀ (cs : Array Value), cs.size = k → ∀ w : World, (Instr.buildSlice t 1 #[(0, .agg cs)]).run P w = .ok (.slice (some ⟨w.heap.size, 0, none⟩) 1 1) (w.alloc (.cells cs e)))
    (hk : ∀ v w', RG k enc w' v [a] → Ext w w' → K v w') : Yk P K ((execOp (evalR ρ) ⟨d, .buildSlice t 1 #[(0, x)], ty, pos, af, gd⟩).run P w) := by
  have hE : Ext w (w.alloc (.cells (enc a).toArray e)) := (Below.refl _ _).alloc (Nat.le_refl _) _
  refine Yk.value (v := .slice (some ⟨w.heap.size, 0, none⟩) 1 1) (w' := w.alloc (.cells (enc a).toArray e)) ?_ (hk _ _ (RG.single hl (heap_alloc_new w _)) hE)
  unfold execOp
  simp only [List.map_toArray, List.map_cons, List.map_nil, hx, Sem.run_bind, hr _ (show (enc a).toArray.size = k by rw [List.size_toArray]; exact hl), Result.andThen_ok, Sem.run_pure]
theorem RG.elem {k : Nat} {enc : α → List Value} {v : Value} {l : List α} (h : RG k enc w v l) (dd : α) {i : Nat} (hi : i < l.length) : (enc (l.getD i dd)).length = k := by
  refine h.1 _ ?_
  rw [List.getD_eq_getElem?_getD, List.getElem?_eq_getElem hi]
  exact List.getElem_mem hi
theorem RG.cut {k : Nat} {enc : α → List Value} {v : Value} {l : List α} (h : ∀ x ∈ l, (enc x).length = k) {a c : Nat} (ha : a ≤ c) (hc : c ≤ l.length) (hR : Reads w k v (c - a) (((l.flatMap enc).drop (a * k)).take ((c - a) * k))) : RG k enc w v ((l.drop a).take (c - a)) := by
  have hd : ∀ (l : List α) (n : Nat), (∀ x ∈ l, (enc x).length = k) → (l.flatMap enc).drop (n * k) = (l.drop n).flatMap enc := by
    intro l n
    induction n generalizing l with
    | zero => intro _; simp
    | succ n ih =>
      intro h
      cases l with
      | nil => simp
      | cons x r =>
        have hx := h x (by simp)
        rw [List.flatMap_cons, List.drop_succ_cons, ← ih r (fun y hy => h y (by simp [hy])), show (n + 1) * k = (enc x).length + n * k by rw [hx, Nat.add_mul]; omega, List.drop_append, List.drop_of_length_le (by omega), Nat.add_sub_cancel_left, List.nil_append]
  have htk : ∀ (l : List α) (n : Nat), (∀ x ∈ l, (enc x).length = k) → (l.flatMap enc).take (n * k) = (l.take n).flatMap enc := by
    intro l n
    induction n generalizing l with
    | zero => intro _; simp
    | succ n ih =>
      intro h
      cases l with
      | nil => simp
      | cons x r =>
        have hx := h x (by simp)
        rw [List.flatMap_cons, List.take_succ_cons, List.flatMap_cons, ← ih r (fun y hy => h y (by simp [hy])), show (n + 1) * k = (enc x).length + n * k by rw [hx, Nat.add_mul]; omega, List.take_append, List.take_of_length_le (by omega), Nat.add_sub_cancel_left]
  refine ⟨fun x hx => h x (List.mem_of_mem_drop (List.mem_of_mem_take hx)), ?_⟩
  rw [hd l a h, htk _ _ (fun x hx => h x (List.mem_of_mem_drop hx))] at hR
  rw [show ((l.drop a).take (c - a)).length = c - a by rw [List.length_take, List.length_drop]; omega]
  exact hR
theorem nat_at {l : List Nat} {i : Nat} (hi : i < l.length) : (l.map fun x => NI x)[i]? = some (NI (l.getD i 0)) := by simp [hi]
theorem cellsN_one (l : List Nat) : ∀ v ∈ (l.map fun x => NI x), v.oneCell' = true := by
  intro v hv
  obtain ⟨_, _, rfl⟩ := List.mem_map.1 hv
  rfl
theorem Yk.storeN {t' : TypeId} {x y : Operand} {g i : Nat} {l : List Nat} {t : TypeId} {v : Nat} (hx : evalR ρ x = .pointer (some ⟨g, i, none⟩)) (hy : evalR ρ y = NI v) (hg : w.heap[g]? = some (.cells (l.map fun x => NI x).toArray t (0, 0))) (hi : i < l.length) (hz : (P.info? t').map (·.size) = some 1)
    (hk : ∀ w', w'.heap[g]? = some (.cells ((l.set i v).map fun x => NI x).toArray t (0, 0)) → w.grownBy w' (some g) → w'.heap.size = w.heap.size → K undef w') : Yk P K ((execOp (evalR ρ) ⟨d, .store t' x y, ty, pos, af, gd⟩).run P w) :=
  Yk.storeC hx hy hg (by simpa using hi) hz rfl rfl fun w' h1 h2 h3 => hk w' (by rw [List.map_set]; exact h1) h2 h3
theorem Yk.idxN {xType e : TypeId} {n : Nat} (ht : P.underlying xType = some (.array n e)) {de : TypeDesc} (he : P.underlying e = some de) (hd : (match de with | .struct _ | .array _ _ => false | _ => true) = true) (hs : ∀ w' : World, (sizeOf e).run P w' = .ok 1 w') {x y : Operand} {l : List Nat} {i : Nat} {k : IntKind}
    (hx : evalR ρ x = .agg (l.map fun x => NI x).toArray) (hy : evalR ρ y = .int k (i : Int)) (hi : i < n) (hl : l.length = n) (hk : K (NI (l.getD i 0)) w) : Yk P K ((execOp (evalR ρ) ⟨d, .index xType x y, ty, pos, af, gd⟩).run P w) :=
  Yk.idxA ht he hd hs hx hy hi (nat_at (by omega)) hk
theorem Yp.callA1 {f : FuncId} (hp : Plain P f) {x0 : Operand} {v0 : Value} {at_ : Array TypeId} {J : List PanicEntry → World → Prop} (h0 : evalR ρ x0 = v0)
    (h : Calls P f #[v0] w fun e w' => match e with | .returned v => K v w' | .panicked ch => J ch w' | .outgrown => False) : Yp P K J ((execOp (evalR ρ) ⟨d, .call ⟨.value (.func f), #[x0], at_⟩, ty, pos, af, gd⟩).run P w) :=
  Yp.call hp [v0] (by simp [h0]) h
theorem Yp.callA2 {f : FuncId} (hp : Plain P f) {x0 x1 : Operand} {v0 v1 : Value} {at_ : Array TypeId} {J : List PanicEntry → World → Prop} (h0 : evalR ρ x0 = v0) (h1 : evalR ρ x1 = v1)
    (h : Calls P f #[v0, v1] w fun e w' => match e with | .returned v => K v w' | .panicked ch => J ch w' | .outgrown => False) : Yp P K J ((execOp (evalR ρ) ⟨d, .call ⟨.value (.func f), #[x0, x1], at_⟩, ty, pos, af, gd⟩).run P w) :=
  Yp.call hp [v0, v1] (by simp [h0, h1]) h
theorem Yp.callA3 {f : FuncId} (hp : Plain P f) {x0 x1 x2 : Operand} {v0 v1 v2 : Value} {at_ : Array TypeId} {J : List PanicEntry → World → Prop} (h0 : evalR ρ x0 = v0) (h1 : evalR ρ x1 = v1) (h2 : evalR ρ x2 = v2)
    (h : Calls P f #[v0, v1, v2] w fun e w' => match e with | .returned v => K v w' | .panicked ch => J ch w' | .outgrown => False) : Yp P K J ((execOp (evalR ρ) ⟨d, .call ⟨.value (.func f), #[x0, x1, x2], at_⟩, ty, pos, af, gd⟩).run P w) :=
  Yp.call hp [v0, v1, v2] (by simp [h0, h1, h2]) h
theorem Yp.callA4 {f : FuncId} (hp : Plain P f) {x0 x1 x2 x3 : Operand} {v0 v1 v2 v3 : Value} {at_ : Array TypeId} {J : List PanicEntry → World → Prop} (h0 : evalR ρ x0 = v0) (h1 : evalR ρ x1 = v1) (h2 : evalR ρ x2 = v2) (h3 : evalR ρ x3 = v3)
    (h : Calls P f #[v0, v1, v2, v3] w fun e w' => match e with | .returned v => K v w' | .panicked ch => J ch w' | .outgrown => False) : Yp P K J ((execOp (evalR ρ) ⟨d, .call ⟨.value (.func f), #[x0, x1, x2, x3], at_⟩, ty, pos, af, gd⟩).run P w) :=
  Yp.call hp [v0, v1, v2, v3] (by simp [h0, h1, h2, h3]) h
end
open Go.RowKit
open Go.WideMaps (KeyLaw)
open Go.ChangeMaps (setBlock heap_setBlock_same heap_setBlock_other)
def rk (r : List UInt8) : Value := .agg (Lib.byteCells r).toArray
theorem rk_inj {r s : List UInt8} (h : rk r = rk s) : r = s := by
  unfold rk at h
  injection h with h
  have h2 : Lib.byteCells r = Lib.byteCells s := List.toArray_inj h
  unfold Lib.byteCells at h2
  exact (List.map_inj_right (fun a b hab => by injection hab with _ h3; exact UInt8.toNat_inj.1 (by omega))).1 h2
theorem mapM_ex {α β : Type} {f : α → Option β} : ∀ {l : List α}, (∀ x ∈ l, ∃ y, f x = some y) → ∃ ys, l.mapM f = some ys
  | [], _ => ⟨[], rfl⟩
  | x :: l, h => by
    obtain ⟨y, hy⟩ := h x (by simp)
    obtain ⟨ys, hys⟩ := mapM_ex (l := l) (fun z hz => h z (by simp [hz]))
    exact ⟨y :: ys, by simp [List.mapM_cons, hy, hys]⟩
theorem keyOf_row {P : Program} {k e : TypeId} {n : Nat} (hu : P.underlying k = some (.array n e)) (he : P.underlying e = some (.int .u8)) (hc : P.cellsOf e = 1) (hn : P.cellsOf k = n) (hk : P.keyType k = true) (hsz : 0 < P.types.size) {r : List UInt8} (hr : r.length = n) : ∃ l, keyOf P k (rk r) = some l := by
  have hf : (rk r).formed P k = true := by simp [rk, Value.formed, hu, hn, hr, Lib.byteCells]
  have hl : ∀ i ∈ List.range n, ∃ y, P.keyLits P.types.size e (((Lib.byteCells r).drop (i * P.cellsOf e)).take (P.cellsOf e)) = some y := fun i hi => by
    have hi' : i < r.length := by rw [hr]; simpa using hi
    have h1 : ((Lib.byteCells r).drop (i * P.cellsOf e)).take (P.cellsOf e) = [Value.int .u8 ((r[i]).toNat : Int)] := by
      rw [hc, Nat.mul_one]
      simp [Lib.byteCells, hi', List.take_one, List.head?_drop]
    have hw : (Lit.int .u8 ((r[i]).toNat : Int)).wf = true := by
      have := (r[i]).toNat_lt
      simp [Lit.wf, IntKind.min, IntKind.max, IntKind.signed, IntKind.bits]
      omega
    rw [h1]
    obtain ⟨m, hm⟩ : ∃ m, P.types.size = m + 1 := ⟨P.types.size - 1, by omega⟩
    rw [hm]
    exact ⟨[.int .u8 ((r[i]).toNat : Int)], by simp [Program.keyLits, he, hw]⟩
  obtain ⟨ys, hys⟩ := mapM_ex hl
  refine ⟨.string (keyBytes ys.flatten), ?_⟩
  · unfold keyOf
    simp only [hu]
    rw [if_pos (by simp [hk, hf])]
    unfold Program.keyLits
    simp only [hu, rk, Value.cells]
    rw [if_pos (by rw [hn]; simp [Lib.byteCells, hr]), hys]
    rfl
def EntAt (w : World) (base : Nat) (I : TypeId) (G : List UInt8 → List Nat) (e : MapEntry) : Prop := ∃ r, r.length = 8 ∧ e.key = rk r ∧ G r ≠ [] ∧ w.ownsRow base I 1 e.val (G r).length ((G r).map NI)
structure IdxIn (w : World) (base : Nat) (I : TypeId) (G : List UInt8 → List Nat) (es : List MapEntry) (clock : Nat) : Prop where
  born : ∀ e ∈ es, e.born < clock
  nodup : (es.map (·.born)).Nodup
  keys : (es.map (·.key)).Nodup
  ent : ∀ e ∈ es, EntAt w base I G e
  all : ∀ r, r.length = 8 → G r ≠ [] → ∃ e ∈ es, e.key = rk r
  apart : es.Pairwise fun e f => ApartV e.val f.val ∧ ApartV f.val e.val
def IdxAt (w : World) (b base : Nat) (I : TypeId) (G : List UInt8 → List Nat) : Prop := b < base ∧ ∃ es clock, w.heap[b]? = some (.map es.toArray clock) ∧ IdxIn w base I G es clock
section
variable {P : Program} {w w' : World} {b base : Nat} {I : TypeId} {G : List UInt8 → List Nat}
theorem EntAt.keep {e : MapEntry} (h : EntAt w base I G e) (k : Ext w w') : EntAt w' base I G e := by
  obtain ⟨r, h1, h2, h3, h4⟩ := h
  exact ⟨r, h1, h2, h3, Stab.own _ _ _ _ _ _ _ _ h4 k⟩
theorem IdxIn.keep {es : List MapEntry} {c : Nat} (h : IdxIn w base I G es c) (k : Ext w w') : IdxIn w' base I G es c :=
  ⟨h.born, h.nodup, h.keys, fun e he => (h.ent e he).keep k, h.all, h.apart⟩
theorem IdxAt.keep (h : IdxAt w b base I G) (k : Ext w w') : IdxAt w' b base I G := by
  obtain ⟨h1, es, c, h2, h3⟩ := h
  exact ⟨h1, es, c, Ext.blk' k h2, h3.keep k⟩
theorem IdxAt.lt (h : IdxAt w b base I G) : b < w.heap.size := by
  obtain ⟨h1, es, c, h2, h3⟩ := h
  exact (Array.getElem?_eq_some_iff.1 h2).1
theorem IdxAt.made (w : World) : IdxAt (w.alloc (.map #[] 0)) w.heap.size (w.heap.size + 1) I (fun _ => []) :=
  ⟨Nat.lt_succ_self _, [], 0, heap_alloc_new w _, by simp, by simp, by simp, by simp, fun r _ h => absurd rfl h, by simp⟩
structure OpenIn (w : World) (base : Nat) (I : TypeId) (G : List UInt8 → List Nat) (r : List UInt8) (v : Value) (l1 : List MapEntry) (e0 : MapEntry) (l2 : List MapEntry) (clock : Nat) : Prop where
  key : e0.key = rk r
  born : ∀ e ∈ l1 ++ e0 :: l2, e.born < clock
  nodup : ((l1 ++ e0 :: l2).map (·.born)).Nodup
  keys : ((l1 ++ e0 :: l2).map (·.key)).Nodup
  ent : ∀ e ∈ l1 ++ l2, EntAt w base I G e
  all : ∀ s, s.length = 8 → s ≠ r → G s ≠ [] → ∃ e ∈ l1 ++ l2, e.key = rk s
  apart : (l1 ++ l2).Pairwise fun e f => ApartV e.val f.val ∧ ApartV f.val e.val
  mine : ∀ e ∈ l1 ++ l2, ApartV e.val v ∧ ApartV v e.val
def IdxOpen (w : World) (b base : Nat) (I : TypeId) (G : List UInt8 → List Nat) (r : List UInt8) (v : Value) (zs : List Nat) (st : Nat) : Prop :=
  b < base ∧ r.length = 8 ∧ w.ownsRow base I 1 v zs.length (zs.map NI) ∧ ∃ l1 e0 l2 clock, w.heap[b]? = some (.map (l1 ++ e0 :: l2).toArray clock) ∧ e0.born = st ∧ OpenIn w base I G r v l1 e0 l2 clock
theorem IdxOpen.grew {r : List UInt8} {v v' : Value} {zs zs' : List Nat} {st : Nat} (h : IdxOpen w b base I G r v zs st) (gr : Grew w w' v v') (ho : w'.ownsRow base I 1 v' zs'.length (zs'.map NI)) : IdxOpen w' b base I G r v' zs' st := by
  obtain ⟨h1, h2, h3, l1, e0, l2, c, h4, h5, h6⟩ := h
  have hvb : v.ownBlock ≠ some b := fun e => by have := (h3.lt b e).1; omega
  refine ⟨h1, h2, ho, l1, e0, l2, c, blk_grew h4 gr hvb, h5, h6.key, h6.born, h6.nodup, h6.keys, fun e he => ?_, h6.all, h6.apart, fun e he => ?_⟩
  · obtain ⟨q, k1, k2, k3, k4⟩ := h6.ent e he
    refine ⟨q, k1, k2, k3, k4.kept gr.by_ ?_⟩
    cases hb : e.val.ownBlock with
    | none => exact .inl rfl
    | some g => exact .inr (fun e1 => (h6.mine e he).1 g hb e1.symm)
  · obtain ⟨q, k1, k2, k3, k4⟩ := h6.ent e he
    have key : ∀ k, e.val.ownBlock = some k → v'.ownBlock ≠ some k := fun k hk hv => by
      rcases gr.fresh k hv with h7 | h7
      · exact (h6.mine e he).1 k hk h7
      · have := (k4.lt k hk).2; omega
    exact ⟨key, fun k hv hk => key k hk hv⟩
def updG (G : List UInt8 → List Nat) (r : List UInt8) (zs : List Nat) (s : List UInt8) : List Nat := if s = r then zs else G s
theorem modify_mid {α : Type} (f : α → α) (x : α) (l2 : List α) : ∀ l1 : List α, (l1 ++ x :: l2).modify l1.length f = l1 ++ f x :: l2
  | [] => rfl
  | a :: r => by simp [List.modify_succ_cons, modify_mid f x l2 r]
section
variable {t K E e8 : TypeId} (L : KeyLaw P K) (hk : ∀ r : List UInt8, r.length = 8 → ∃ l, keyOf P K (rk r) = some l) (ht : P.underlying t = some (.map K E)) (hz : ∀ u : World, (zeroValue E).run P u = .ok (.slice none 0 0) u)
include L hk ht hz
theorem IdxAt.look (h : IdxAt w b base I G) {r : List UInt8} (hr : r.length = 8) : ∃ v, (Instr.lookup t (.map (some b)) (rk r) false).run P w = .ok v w ∧ w.ownsRow base I 1 v (G r).length ((G r).map NI) := by
  obtain ⟨h1, es, c, hb, H⟩ := h
  obtain ⟨l, hl⟩ := hk r hr
  have hkeys : ∀ e ∈ es, ∃ l, keyOf P K e.key = some l := fun e he => by
    obtain ⟨q, k1, k2, -⟩ := H.ent e he
    rw [k2]
    exact hk q k1
  rcases L.find w hl es hkeys with ⟨f1, f2⟩ | ⟨j, e0, f1, f2, f3⟩
  · have hG : G r = [] := by
      by_cases hG : G r = []
      · exact hG
      · obtain ⟨e, he, hek⟩ := H.all r hr hG
        exact absurd hek (f2 e he)
    refine ⟨.slice none 0 0, by simp [Instr.lookup, run_underlying ht, MapKept.run_getObj_map hb, L.check w _ hl, f1, hz, Result.andThen], ?_⟩
    rw [hG]
    exact World.ownsRow_nil _ _ _ _
  · have hm : e0 ∈ es := List.mem_of_getElem? f2
    obtain ⟨q, k1, k2, k3, k4⟩ := H.ent e0 hm
    have : q = r := rk_inj (k2.symm.trans f3)
    subst this
    exact ⟨e0.val, by simp [Instr.lookup, run_underlying ht, MapKept.run_getObj_map hb, L.check w _ hl, f1, Result.andThen], k4⟩
theorem IdxAt.entry (h : IdxAt w b base I G) {r : List UInt8} (hr : r.length = 8) : ∃ v st w1, (Instr.mapEntry t (.map (some b)) (rk r)).run P w = .ok (.tuple #[v, goInt ((st : Nat) : Int)]) w1 ∧ w.grownBy w1 (some b) ∧ w1.heap.size = w.heap.size ∧ IdxOpen w1 b base I G r v (G r) st := by
  obtain ⟨h1, es, c, hb, H⟩ := h
  obtain ⟨l, hl⟩ := hk r hr
  have hblt : b < w.heap.size := (Array.getElem?_eq_some_iff.1 hb).1
  have hkeys : ∀ e ∈ es, ∃ l, keyOf P K e.key = some l := fun e he => by
    obtain ⟨q, k1, k2, -⟩ := H.ent e he
    rw [k2]
    exact hk q k1
  have hgr : ∀ o, w.grownBy { w with heap := w.heap.setIfInBounds b o } (some b) := fun o => ⟨rfl, rfl, rfl, by simp, fun i _ hi => by simp only [Array.getElem?_setIfInBounds]; rw [if_neg (fun e => hi (by rw [e]))]⟩
  have hnew : ∀ o, ({ w with heap := w.heap.setIfInBounds b o } : World).heap[b]? = some o := fun o => by simp [hblt]
  have hkeep : ∀ (o : Obj) e, EntAt w base I G e → EntAt { w with heap := w.heap.setIfInBounds b o } base I G e := fun o e ⟨q, k1, k2, k3, k4⟩ => by
    refine ⟨q, k1, k2, k3, k4.kept (hgr o) ?_⟩
    cases he : e.val.ownBlock with
    | none => exact .inl rfl
    | some g =>
      have := (k4.lt g he).1
      exact .inr (fun e1 => by cases e1; omega)
  rcases L.find w hl es hkeys with ⟨f1, f2⟩ | ⟨j, e0, f1, f2, f3⟩
  · have hG : G r = [] := by
      by_cases hG : G r = []
      · exact hG
      · obtain ⟨e, he, hek⟩ := H.all r hr hG
        exact absurd hek (f2 e he)
    refine ⟨.slice none 0 0, c, { w with heap := w.heap.setIfInBounds b (.map (es ++ ({ key := rk r, val := .slice none 0 0, born := c } : MapEntry) :: []).toArray (c + 1)) }, ?_, hgr _, by simp, h1, hr, ?_, es, ({ key := rk r, val := .slice none 0 0, born := c } : MapEntry), [], c + 1, hnew _, rfl, rfl, ?_, ?_, ?_, ?_, ?_, ?_, ?_⟩
    · simp [Instr.mapEntry, run_underlying ht, MapKept.run_getObj_map hb, L.check w false hl, f1, hz, MapKept.run_setObj_map _ hb, Result.andThen]
    · rw [hG]
      exact World.ownsRow_nil _ _ _ _
    · intro e he
      rcases List.mem_append.1 he with h2 | h2
      · have := H.born e h2; omega
      · rw [List.mem_singleton.1 h2]; simp
    · simp only [List.map_append, List.map_cons, List.map_nil]
      refine List.nodup_append.2 ⟨H.nodup, by simp, fun x hx y hy e => ?_⟩
      obtain ⟨e1, he1, rfl⟩ := List.mem_map.1 hx
      have := H.born e1 he1
      simp at hy
      omega
    · simp only [List.map_append, List.map_cons, List.map_nil]
      refine List.nodup_append.2 ⟨H.keys, by simp, fun x hx y hy e => ?_⟩
      obtain ⟨e1, he1, rfl⟩ := List.mem_map.1 hx
      simp at hy
      exact f2 e1 he1 (e.trans hy)
    · simp only [List.append_nil]
      exact fun e he => hkeep _ e (H.ent e he)
    · simp only [List.append_nil]
      exact fun s h2 _ h3 => H.all s h2 h3
    · simp only [List.append_nil]
      exact H.apart
    · exact fun e _ => ⟨fun k _ hk => by simp [Value.ownBlock] at hk, fun k hk => by simp [Value.ownBlock] at hk⟩
  · have hm : e0 ∈ es := List.mem_of_getElem? f2
    obtain ⟨q, k1, k2, k3, k4⟩ := H.ent e0 hm
    have hq : q = r := rk_inj (k2.symm.trans f3)
    subst hq
    have hsame : es.modify j (fun e => { e with key := rk q }) = es := by
      rw [Go.ChangeMaps.modify_eq_set _ _ _ _ f2]
      have : ({ e0 with key := rk q } : MapEntry) = e0 := by rw [← f3]
      rw [this]
      exact Go.WideElems.set_self _ _ _ f2
    have hrun : (Instr.mapEntry t (.map (some b)) (rk q)).run P w = .ok (.tuple #[e0.val, goInt ((e0.born : Nat) : Int)]) { w with heap := w.heap.setIfInBounds b (.map es.toArray c) } := by
      simp [Instr.mapEntry, run_underlying ht, MapKept.run_getObj_map hb, L.check w false hl, f1, f2, f3, L.stays w hl, hsame, MapKept.run_setObj_map _ hb, Result.andThen]
    obtain ⟨l1, l2, rfl⟩ := List.append_of_mem hm
    have hp := H.apart
    rw [List.pairwise_append, List.pairwise_cons] at hp
    have hsub : ∀ e, e ∈ l1 ++ l2 → e ∈ l1 ++ e0 :: l2 := fun e he => by
      rcases List.mem_append.1 he with h2 | h2
      · simp [h2]
      · simp [h2]
    refine ⟨e0.val, e0.born, { w with heap := w.heap.setIfInBounds b (.map (l1 ++ e0 :: l2).toArray c) }, ?_, hgr _, by simp, h1, hr, ?_, l1, e0, l2, c, hnew _, rfl, f3, H.born, H.nodup, H.keys, fun e he => hkeep _ e (H.ent e (hsub e he)), ?_, ?_, ?_⟩
    · exact hrun
    · refine k4.kept (hgr _) ?_
      cases he : e0.val.ownBlock with
      | none => exact .inl rfl
      | some g =>
        have := (k4.lt g he).1
        exact .inr (fun e1 => by cases e1; omega)
    · intro s h2 h3 h4
      obtain ⟨e, he, hek⟩ := H.all s h2 h4
      refine ⟨e, ?_, hek⟩
      rcases List.mem_append.1 he with h5 | h5
      · simp [h5]
      · rcases List.mem_cons.1 h5 with h6 | h6
        · subst h6
          exact absurd (rk_inj (hek.symm.trans f3)) h3
        · simp [h6]
    · rw [List.pairwise_append]
      exact ⟨hp.1, hp.2.1.2, fun x hx y hy => hp.2.2 x hx y (by simp [hy])⟩
    · intro e he
      rcases List.mem_append.1 he with h5 | h5
      · exact hp.2.2 e h5 e0 (by simp)
      · exact ⟨(hp.2.1.1 e h5).2, (hp.2.1.1 e h5).1⟩
end
theorem IdxOpen.store {t : TypeId} {r : List UInt8} {v : Value} {zs : List Nat} {st : Nat} (h : IdxOpen w b base I G r v zs st) (hne : zs ≠ []) : ∃ w1, (Instr.entryStore t (.map (some b)) (goInt ((st : Nat) : Int)) v).run P w = .ok () w1 ∧ w.grownBy w1 (some b) ∧ w1.heap.size = w.heap.size ∧ IdxAt w1 b base I (updG G r zs) := by
  obtain ⟨h1, hr, h3, l1, e0, l2, c, hb, rfl, H⟩ := h
  have hblt : b < w.heap.size := (Array.getElem?_eq_some_iff.1 hb).1
  have hgr : ∀ o, w.grownBy { w with heap := w.heap.setIfInBounds b o } (some b) := fun o => ⟨rfl, rfl, rfl, by simp, fun i _ hi => by simp only [Array.getElem?_setIfInBounds]; rw [if_neg (fun e => hi (by rw [e]))]⟩
  have hnew : ∀ o, ({ w with heap := w.heap.setIfInBounds b o } : World).heap[b]? = some o := fun o => by simp [hblt]
  have hrow : ∀ (o : Obj) {x : Value} {n : Nat} {xs : List Value}, w.ownsRow base I 1 x n xs → World.ownsRow { w with heap := w.heap.setIfInBounds b o } base I 1 x n xs := fun o x n xs k4 => by
    refine k4.kept (hgr o) ?_
    cases he : x.ownBlock with
    | none => exact .inl rfl
    | some g =>
      have := (k4.lt g he).1
      exact .inr (fun e1 => by cases e1; omega)
  have hidx : (l1 ++ e0 :: l2).toArray.findIdx? (fun e => ((e.born : Nat) : Int) == ((e0.born : Nat) : Int)) = some l1.length := by
    rw [Go.WideElems.findIdx_arr]
    exact Go.WideElems.findIdx_born H.nodup (by simp)
  have hmod : (l1 ++ e0 :: l2).toArray.modify l1.length (fun e => { e with val := v }) = (l1 ++ { e0 with val := v } :: l2).toArray := by
    apply Array.ext'
    rw [Array.toList_modify]
    exact modify_mid _ _ _ _
  have hsub : ∀ e, e ∈ l1 ++ l2 → e ∈ l1 ++ e0 :: l2 := fun e he => by
    rcases List.mem_append.1 he with h2 | h2
    · simp [h2]
    · simp [h2]
  have hkn : ∀ e ∈ l1 ++ l2, e.key ≠ e0.key := fun e he hke => by
    have hkk := H.keys
    simp only [List.map_append, List.map_cons, List.nodup_append, List.nodup_cons] at hkk
    rcases List.mem_append.1 he with h2 | h2
    · exact hkk.2.2 e.key (List.mem_map.2 ⟨e, h2, rfl⟩) e0.key (by simp) hke
    · exact hkk.2.1.1 (hke ▸ List.mem_map.2 ⟨e, h2, rfl⟩)
  have hent : ∀ (o : Obj), ∀ e ∈ l1 ++ l2, EntAt { w with heap := w.heap.setIfInBounds b o } base I (updG G r zs) e := fun o e he => by
    obtain ⟨q, k1, k2, k3, k4⟩ := H.ent e he
    have hqr : q ≠ r := fun e1 => hkn e he (by rw [k2, e1, H.key])
    have hu : updG G r zs q = G q := if_neg hqr
    exact ⟨q, k1, k2, by rw [hu]; exact k3, by rw [hu]; exact hrow o k4⟩
  have hur : updG G r zs r = zs := if_pos rfl
  have hp := H.apart
  rw [List.pairwise_append] at hp
  refine ⟨{ w with heap := w.heap.setIfInBounds b (.map (l1 ++ { e0 with val := v } :: l2).toArray c) }, ?_, hgr _, by simp, h1, _, c, hnew _, ?_, ?_, ?_, ?_, ?_, ?_⟩
  · simp [Instr.entryStore, MapKept.run_getObj_map hb, asInt, asIntOf, goInt, hidx, hmod, MapKept.run_setObj_map _ hb, Result.andThen]
  · intro e he
    rcases List.mem_append.1 he with h2 | h2
    · exact H.born e (by simp [h2])
    · rcases List.mem_cons.1 h2 with h4 | h4
      · rw [h4]; exact H.born e0 (by simp)
      · exact H.born e (by simp [h4])
  · have := H.nodup
    simpa using this
  · have := H.keys
    simpa using this
  · intro e he
    rcases List.mem_append.1 he with h2 | h2
    · exact hent _ e (by simp [h2])
    · rcases List.mem_cons.1 h2 with h4 | h4
      · rw [h4]
        exact ⟨r, hr, H.key, by rw [hur]; exact hne, by rw [hur]; exact hrow _ h3⟩
      · exact hent _ e (by simp [h4])
  · intro s h2 h4
    by_cases hs : s = r
    · exact ⟨{ e0 with val := v }, by simp, by rw [hs]; exact H.key⟩
    · rw [show updG G r zs s = G s from if_neg hs] at h4
      obtain ⟨e, he, hek⟩ := H.all s h2 hs h4
      refine ⟨e, ?_, hek⟩
      rcases List.mem_append.1 he with h5 | h5
      · simp [h5]
      · simp [h5]
  · rw [List.pairwise_append, List.pairwise_cons]
    refine ⟨hp.1, ⟨fun e he => ?_, hp.2.1⟩, fun x hx y hy => ?_⟩
    · have := H.mine e (by simp [he])
      exact ⟨this.2, this.1⟩
    · rcases List.mem_cons.1 hy with h4 | h4
      · rw [h4]
        exact H.mine x (by simp [hx])
      · exact hp.2.2 x hx y h4
end
open Go.RowKit
structure BX (N : Nat) (r : Option Nat) (w w' : World) : Prop where
  os : w'.os = w.os
  tape : w'.tape = w.tape
  output : w'.output = w.output
  size : w.heap.size ≤ w'.heap.size
  block : ∀ k, k < N → some k ≠ r → w'.heap[k]? = w.heap[k]?
def RowX (B N : Nat) (e : TypeId) (r : Option Nat) (l : List UInt8) (x : Value) (w' : World) : Prop := w'.ownsRow B e 1 x l.length (Lib.byteCells l) ∧ ∀ k, x.ownBlock = some k → r = some k ∨ N ≤ k
section
variable {N B : Nat} {r : Option Nat} {w w' w1 w0 : World} {e t : TypeId}
theorem BX.refl (N : Nat) (r : Option Nat) (w : World) : BX N r w w := ⟨rfl, rfl, rfl, Nat.le_refl _, fun _ _ _ => rfl⟩
theorem BX.trans {a b c : World} (h : BX N r a b) (k : BX N r b c) : BX N r a c := ⟨k.os.trans h.os, k.tape.trans h.tape, k.output.trans h.output, Nat.le_trans h.size k.size, fun i hi hr => (k.block i hi hr).trans (h.block i hi hr)⟩
theorem BX.ofExt (h : Ext w w') (hN : N ≤ w.heap.size) : BX N r w w' := ⟨h.os, h.tape, h.output, h.size, fun k hk _ => h.block k (Nat.lt_of_lt_of_le hk hN)⟩
theorem BX.ofGrown {q : Option Nat} (h : w.grownBy w' q) (hN : N ≤ w.heap.size) (hq : ∀ k, q = some k → r = some k ∨ N ≤ k) : BX N r w w' :=
  ⟨h.os, h.tape, h.output, h.size, fun k hk hr => h.block k (Nat.lt_of_lt_of_le hk hN) (fun e => (hq k e.symm).elim (fun x => hr x.symm) (fun x => by omega))⟩
theorem BX.grown (h : BX w.heap.size r w w') : w.grownBy w' r := ⟨h.os, h.tape, h.output, h.size, h.block⟩
theorem ext_bx (h : Ext w0 w) (k : BX N r w w1) (hle : w0.heap.size ≤ N) (hr : ∀ k, r = some k → w0.heap.size ≤ k) : Ext w0 w1 :=
  Below.trans h ⟨k.os, k.tape, k.output, k.size, fun i hi => k.block i (Nat.lt_of_lt_of_le hi hle) (fun e => by have := hr i e.symm; omega)⟩
theorem BX.blk {g : Nat} {o : Obj} (k : BX w.heap.size r w w1) (h : w.heap[g]? = some o) (hne : r ≠ some g) : w1.heap[g]? = some o := (k.block g (Array.getElem?_eq_some_iff.1 h).1 (fun e => hne e.symm)).trans h
end
section
variable {P : Program} {n : Nat} {ρ : Slots} {w : World} {Q : PostF}
def rowXC (w : World) (r : Option Nat) (es : List Nat) (m : Nat) : World → Prop := bif es.contains m then Ext w else BX w.heap.size r w
def rowXR (N : Nat) (r : Option Nat) (cs : List Nat) (m : Nat) : World → World → Prop := bif cs.contains m then BX N r else Ext
def esOk (l : List Oper) (cs es : List Nat) : Bool := cs.all fun m => es.all fun i => ((masks l []).getD m 0).testBit i
theorem wpF_draw_rowsX {l : List Oper} (r : Option Nat) (cs es : List Nat) (ks ls : Nat → List Nat) (Φs : List Fact) {id : Nat} (hm : P.follows .mixedOrders = true) (ds : List Tmp) (hg : goodB l n = true) (hkl : killB l ks = true) (hds : slotsW l = ds)
    (hls : lsOk l cs ks ls = true) (hes : esOk l cs es = true) (hgc : (cs.all fun m => ((l[m]?).bind (·.guard)).isNone) = true) (hst : AllStab Ext Φs) (hsB : AllCh (BX w.heap.size r) ls Φs cs)
    (hs : StepsF P l (rowXC w r es) (rowXR w.heap.size r cs) (facts Φs) ρ 0 l)
    (hQ : ∀ (ρ' : Slots) w', BX w.heap.size r w w' → EndF ds ρ ρ' → EndFacts l ks (facts Φs) ρ' w' ds → Q .normal ρ' w') : wpF P n (.region id l.toArray true) Q ρ w := by
  have stepR : ∀ m a b, BX w.heap.size r w a → rowXR w.heap.size r cs m a b → BX w.heap.size r w b := fun m a b h k => by
    unfold rowXR at k
    cases hc : cs.contains m <;> rw [hc] at k
    · exact h.trans (BX.ofExt k h.size)
    · exact h.trans k
  have drew : Ext w w.drew := (Below.refl _ _).drew
  intro a ha
  obtain ⟨T, df⟩ := a
  have hz : T.size = n := ha.size
  subst hz
  refine wp_region_core ks (rowXC w r es) (fun _ w' => BX w.heap.size r w w') _ (facts Φs) hm T df hg hkl ds hds (fun m i _ _ hne hbit w1 w' hc hr => ?_) (fun m listed w1 w' _ _ _ _ hE hR => stepR m _ _ hE hR) (fun m i hm' hi hni hne hbit v w1 w' h hr => ?_) (fun m o w1 ho hgo => ?_) (fun m _ => ?_) (BX.ofExt drew (Nat.le_refl _)) (StepsF.ok ha.get l 0 hs) (fun u listed w' hall hE hf => ?_)
  · unfold rowXC at hc ⊢
    cases he : es.contains i <;> rw [he] at hc
    · exact stepR m _ _ hc hr
    · unfold rowXR at hr
      cases hcm : cs.contains m <;> rw [hcm] at hr
      · exact Ext.trans hc hr
      · unfold esOk at hes
        have := List.all_eq_true.1 (List.all_eq_true.1 hes m (by simpa using hcm)) i (by simpa using he)
        rw [this] at hbit
        cases hbit
  · unfold rowXR at hr
    cases hc : cs.contains m <;> rw [hc] at hr
    · exact hst.get Φs i v w1 w' h hr
    · refine (AllCh.get cs hsB m hc).get Φs 0 i ?_ v w1 w' h hr
      rw [Nat.zero_add]
      intro hmem
      unfold lsOk at hls
      have h1 := List.all_eq_true.1 (List.all_eq_true.1 hls m (by simpa using hc)) i hmem
      simp only [Bool.or_eq_true] at h1
      rcases h1 with (h1 | h1) | h1
      · exact hni (by simpa using h1)
      · exact hne (Nat.eq_of_beq_eq_true h1)
      · rw [h1] at hbit
        cases hbit
  · unfold rowXR
    cases hc : cs.contains m
    · exact Ext.refl w1
    · have := List.all_eq_true.1 hgc m (by simpa using hc)
      rw [ho] at this
      simp only [Option.bind_some, Option.isNone_iff_eq_none] at this
      rw [this] at hgo
      cases hgo
  · unfold rowXC
    cases es.contains m
    · exact BX.ofExt drew (Nat.le_refl _)
    · exact drew
  · have hw := wrote_slots ha.get ds (good_room hg ds hds) u
    refine ⟨fun t => if t ∈ ds then u t else ρ t, ⟨by rw [wrote_size], ha.defers, hw⟩, hQ _ w' hE ⟨fun t ht => if_neg (by simpa using ht)⟩ ?_⟩
    have key : ∀ es : List Tmp, (∀ d ∈ es, d ∈ ds) → EndFacts l ks (facts Φs) u w' es → EndFacts l ks (facts Φs) (fun t => if t ∈ ds then u t else ρ t) w' es := by
      intro es
      induction es with
      | nil => exact fun _ _ => trivial
      | cons d es ih =>
        intro hm h
        refine ⟨?_, ih (fun x hx => hm x (by simp [hx])) h.2⟩
        have := h.1
        simp only [if_pos (hm d (by simp))]
        exact this
    exact key ds (fun _ h => h) hf
end
open Go.RowKit
set_option maxRecDepth 100000
def stopE (e : Nat) : PanicEntry := { v := .iface 69 (.agg ([NI e] : List Value).toArray), recovered := false }
theorem bcmp {vx vy : Value} {x y : Bs} {w : World} (hx : RB w vx x) (hy : RB w vy y) : (callFunc 86 #[vx, vy]).run Tryd.prog w = .ok (.value (.int .i64 (Lib.compareBytes x y))) w := by
 rw [run_callFunc_extern (e := Extern.BytealgCompare.compare) Tryd.func86 (by kernel_rfl) (by kernel_rfl) (by kernel_rfl) (by kernel_rfl), run_compareRB hx hy]
 rfl
theorem pk4_bd69i_0 (z0 : Int) (w : World) : (Instr.build 69 #[(0, .int .i64 z0)]).run Tryd.prog w = .ok (.agg ([.int .i64 z0] : List Value).toArray) w := by kernel_rfl
theorem pk4_ty69 : ∃ fs, Tryd.prog.underlying 69 = some (.struct fs) := struct_of (by kernel_rfl)
theorem pk4_ty38 : Tryd.prog.underlying 38 = some (.array 32 5) := by kernel_rfl
theorem pk4_sz5 : ∀ w' : World, (sizeOf 5).run Tryd.prog w' = .ok 1 w' := fun _ => by kernel_rfl
theorem pk4_pl73 : Plain Tryd.prog 73 := fun _ _ => by kernel_rfl
theorem need_any (w : World) (b : Bool) (e : Nat) :
  Calls Tryd.prog 64 #[.bool b, NI e] w fun r w' => (∃ v, r = .returned v ∧ v = .tuple #[] ∧ b = true ∧ Ext w w') ∨ ∃ ch, r = .panicked ch ∧ ch = [stopE e] ∧ b = false ∧ Ext w w' := by
 refine gG (args := [.bool (b), NI e]) Tryd.func64 rfl 9 rfl rfl ?_
 have hE := Ext.refl w
 refine gS (Yk.notB rfl ?_)
 refine cB (!(b)) rfl (fun hc0 => ?_) fun hc0 => ?_
 ·refine gS (Yk.build1 (vr (NI e) rfl) (fun w => pk4_bd69i_0 (((e : Nat) : Int)) w) (gS (Yk.mkIface (pk4_ty69).choose_spec (vr (.agg ([NI e]).toArray) rfl) (gP (Yp.panic rfl (postP_panic ?_))))))
  exact .inr ⟨_, rfl, rfl, by simpa using hc0, hE⟩
 refine rt0 rfl ?_
 exact .inl ⟨_, rfl, rfl, by simpa using hc0, hE⟩

theorem bytesCompare_any (w : World) (vx vy : Value) (x y : Bs) (hx : RB w vx x) (hy : RB w vy y) :
  Calls Tryd.prog 73 #[vx, vy] w fun e w' => e = .returned (.int .i64 (Lib.compareBytes x y)) ∧ Ext w w' := by
 refine gG (args := [vx, vy]) Tryd.func73 rfl 8 rfl rfl ?_
 have hE := Ext.refl w
 refine gS (Yk.extern2 rfl rfl (bcmp (hx.keep hE) (hy.keep hE)) (rt1 rfl (vr (.int .i64 (Lib.compareBytes x y : Int)) rfl) ?_))
 exact ⟨rfl, hE⟩

theorem compare_any (w : World) (x y : Bs) (hxl : x.length = 32) (hyl : y.length = 32) :
  Calls Tryd.prog 57 #[AB x, AB y] w fun e w' => e = .returned (.int .i64 (Lib.compareBytes x y)) ∧ Ext w w' := by
 refine gG (args := [AB x, AB y]) Tryd.func57 rfl 8 rfl rfl ?_
 have hE := Ext.refl w
 refine gS (Yk.box (vr (AB x) rfl) fun n2 w3 hn4 hb5 hx6 hs7 => ?_)
 have hb8 := hb5; clear hb5
 have hl9 : n2 < w3.heap.size := by omega
 refine gS (Yk.box (vr (AB y) rfl) fun n10 w11 hn12 hb13 hx14 hs15 => ?_)
 have hE := hE.trans hx6
 have hz18 := hE.size
 have hb20 := hb13; clear hb13
 have hl21 : n10 < w11.heap.size := by omega
 refine gM0 [0, 1, 2, 3] [2] [] fun w23 hx24 => (ys (Yk.sliceArr pk4_ty38 pk4_sz5 rfl zz) (ys (Yk.sliceArr pk4_ty38 pk4_sz5 rfl zz) ?_))
 have hC := Ext.refl w23
 have hlt19 := lte (bl hb8) hn12
 have hZ1 := hx14.trans hx24
 have hb8 := eb hZ1 hb8
 have hb20 := eb hx24 hb20
 refine yC (Yk.callA2 pk4_pl73 rfl rfl ((bytesCompare_any _ _ _ x y (RB.ofBlkN (eb hC hb8) hxl (by decide)) (RB.ofBlkN (eb hC hb20) hyl (by decide))).mono ?_))
 rintro e w26 ⟨rfl, hx25⟩
 refine ⟨_, rfl, ?_⟩
 refine rt1 rfl (vr (.int .i64 (Lib.compareBytes x y : Int)) rfl) ?_
 have hZ2 := hZ1.trans hx25
 have hE := hE.trans hZ2
 exact ⟨rfl, hE⟩
open Go.RowKit
set_option maxRecDepth 100000
theorem firstL_le (ids : List Bs) (c : Nat) : (firstL ids).getD c 0 ≤ ids.length := by
 by_cases h : c < 256
 ·rw [firstL_get _ _ h]
  exact List.countP_le_length
 ·rw [List.getD_eq_getElem?_getD, List.getElem?_eq_none (by rw [firstL_len]; omega)]
  simp
theorem fanStep_sum (ids : List Bs) (c : Nat) (h0 : 0 < c) (h : c < 256) : (fanStep ids c).getD c 0 + (fanStep ids c).getD (c - 1) 0 ≤ ids.length := by
 have h1 := fanStep_succ ids c h0 h
 have h2 : (fanStep ids (c + 1)).getD c 0 = (fanL ids).getD c 0 := by
  unfold fanStep
  rw [List.getD_eq_getElem?_getD, List.getElem?_append_left (by rw [List.length_take, fanL_len]; omega), List.getElem?_take, if_pos (by omega), ← List.getD_eq_getElem?_getD]
 rw [h1, List.getD_eq_getElem?_getD, List.getElem?_set_self (by rw [fanStep_len _ _ (by omega)]; exact h)] at h2
 have h3 := fanL_le ids c
 rw [Option.getD_some] at h2
 omega
theorem pk5_isz59 : (Tryd.prog.info? 59).map (·.size) = some 256 := by kernel_rfl
theorem pk5_al59 {d : Option Tmp} {ty : TypeId} {pos : String} {af : Array Edge} {gd : Option (Nat × Bool)} (σ : Operand → Value) (w : World) : (execOp σ ⟨d, .alloc 59, ty, pos, af, gd⟩).run Tryd.prog w = .ok (.value (PQ w.heap.size 0)) (w.alloc (.cells ((List.replicate 256 0).map fun x => NI x).toArray 59)) := by kernel_rfl
theorem pk5_ty47 : Tryd.prog.underlying 47 = some (.slice 38) := by kernel_rfl
theorem pk5_szg38 : ∀ w' : World, (sizeOf 38).run Tryd.prog w' = .ok 32 w' := fun _ => by kernel_rfl
theorem pk5_ty38 : Tryd.prog.underlying 38 = some (.array 32 5) := by kernel_rfl
theorem pk5_isz38 : (Tryd.prog.info? 38).map (·.size) = some 32 := by kernel_rfl
theorem pk5_al38 {d : Option Tmp} {ty : TypeId} {pos : String} {af : Array Edge} {gd : Option (Nat × Bool)} (σ : Operand → Value) (w : World) : (execOp σ ⟨d, .alloc 38, ty, pos, af, gd⟩).run Tryd.prog w = .ok (.value (PQ w.heap.size 0)) (w.alloc (.cells (Lib.byteCells (List.replicate 32 0)).toArray 38)) := by kernel_rfl
theorem pk5_sz5 : ∀ w' : World, (sizeOf 5).run Tryd.prog w' = .ok 1 w' := fun _ => by kernel_rfl
theorem pk5_ty5 : Tryd.prog.underlying 5 = some (.int .u8) := by kernel_rfl
theorem pk5_ty59 : Tryd.prog.underlying 59 = some (.array 256 3) := by kernel_rfl
theorem pk5_sz3 : ∀ w' : World, (sizeOf 3).run Tryd.prog w' = .ok 1 w' := fun _ => by kernel_rfl
theorem pk5_ty3 : Tryd.prog.underlying 3 = some (.int .i64) := by kernel_rfl
theorem pk5_isz3 : (Tryd.prog.info? 3).map (·.size) = some 1 := by kernel_rfl
theorem fan_any (w : World) (v : Value) (ids : List Bs) (hr : RG 32 Lib.byteCells w v ids) :
  Calls Tryd.prog 26 #[v] w fun e w' => e = .returned (.agg ((fanL ids).map fun x => NI x).toArray) ∧ Ext w w' := by
 have hil := hr.lenLt
 refine gG (args := [v]) Tryd.func26 rfl 34 rfl rfl ?_
 have hE := Ext.refl w
 refine gS (Yk.alloc pk5_al59 fun n2 w3 hn4 hb5 hx6 hs7 => ?_)
 have hb8 := hb5; clear hb5
 have hl9 : n2 < w3.heap.size := by omega
 refine gS (Yk.alloc pk5_al59 fun n11 w12 hn13 hb14 hx15 hs16 => ?_)
 have hA17 := Ext.refl w3
 have hE := hE.trans hx6
 have hz19 := hE.size
 have hb21 := hb14; clear hb14
 have hl22 : n11 < w12.heap.size := by omega
 have hlt20 := lte (bl hb8) hn13
 have hb8 := eb hx15 hb8
 have hE := hE.trans hx15
 have hA17 := hA17.trans hx15
 refine gS (Yk.lenRG pk5_ty47 (RG.of (hr.keep hE) rfl) (gL (fun (ρ : Slots) (wz : World) => ∃ i : Nat, ρ 0 = (v : Value) ∧ ρ 2 = (PQ n2 0 : Value) ∧ ρ 3 = (PQ n11 0 : Value) ∧ ρ 7 = (v : Value) ∧ ρ 8 = (NI ids.length : Value) ∧ ρ 9 = (NI i : Value) ∧ Ext w wz ∧ wz.heap[n2]? = some (.cells ((List.replicate 256 0).map fun x => NI x).toArray 59 (0, 0)) ∧ Ext w3 wz ∧ wz.heap[n11]? = some (.cells ((firstL (ids.take i)).map fun x => NI x).toArray 59 (0, 0)) ∧ (i ≤ ids.length) ∧ True) (fun ρ _ => ids.length - (intOf (ρ 9)).toNat) ⟨0, rfl, rfl, rfl, rfl, rfl, rfl, hE, hb8, hA17, blk_eq hb21 (congrArg (List.map fun x => NI x) (show _ = firstL [] from by decide +kernel)), Nat.zero_le _, trivial⟩ ?_))
 clear hb21
 clear hE hb8
 rintro ρ25 w26 ⟨i, T0, T2, T3, T7, T8, T9, hE, hb8, hA17, hb21l, hi, -⟩
 have q9 := T9
 refine gS (Yk.eqI (a := (i : Nat)) (b := (ids.length : Nat)) T9 T8 (k_lss _ _ _ _) ?_)
 refine cD rfl (fun hc0 => ?_) fun hc0 => ?_
 ·have hx32 : (ids.getD i []).length = 32 := by have h1 := RG.elem hr [] (show i < ids.length by omega); rwa [Lib.byteCells_length] at h1
  have hl33 : (Lib.byteCells (ids.getD (i) ([] : List UInt8))).length = 32 := (RG.elem (hr.keep hE) ([] : List UInt8) (by omega))
  refine gS (Yk.atRG pk5_ty47 pk5_szg38 (by decide) ([] : List UInt8) (RG.of (hr.keep hE) T7) T9 (by omega) fun v31 hp32 => (gS (Yk.loadPR (PR.of hp32 rfl) pk5_ty38 rfl (by rw [hl33]; exact pk5_isz38) (gS (Yk.alloc pk5_al38 fun n34 w35 hn36 hb37 hx38 hs39 => ?_)))))
  have hA40 := Ext.refl w26
  have hz43 := hE.size
  have hz44 := hA17.size
  have hb47 := hb37; clear hb37
  have hl48 : n34 < w35.heap.size := by omega
  refine gS (Yk.storeAll (vr (PQ n34 0) rfl) (vr (AB (ids.getD (i) ([] : List UInt8))) rfl) hb47 (by exact idsize (bytes_len32 (hl33)) List.length_replicate) (by exact sizeId_of (bytes_len32 (hl33))) (byteCells_one _) fun w49 hb50 hg51 hs52 => ?_)
  clear hb47
  have hb47 := hb50; clear hb50
  have hl53 := bl hb47
  clear hp32
  have hA40 := hA40.trans hx38
  have hA40 := row_fresh hA40 hg51 (Nat.le_trans (Nat.le_refl _) (by omega))
  have hb21l := eb hA40 hb21l
  refine gS (Yk.atArr0 (i := 0) pk5_ty38 pk5_sz5 rfl rfl (by decide) (gS (Yk.cell1 pk5_ty5 rfl rfl (cellAt hb47 (byte_at (i := 0) (by rw [hx32]; omega))) (gS (Yk.atArr0 (i := ((ids.getD (i) ([] : List UInt8)).getD (0) 0).toNat) pk5_ty59 pk5_sz3 T3 rfl (by exact UInt8.toNat_lt _) (gS (Yk.cell1 pk5_ty3 rfl rfl (cellAt hb21l (nat_at (i := ((ids.getD (i) ([] : List UInt8)).getD (0) 0).toNat) (by rw [firstL_len]; exact UInt8.toNat_lt _))) (gS (Yk.bin (xv := NI ((firstL (ids.take i)).getD (((ids.getD (i) ([] : List UInt8)).getD (0) 0).toNat) 0)) (yv := NI 1) rfl rfl rfl (i64_add _ _ _ (by have := firstL_le (ids.take i) ((ids.getD i []).getD 0 0).toNat; rw [List.length_take] at this; omega)) (gS (Yk.atArr0 (i := ((ids.getD (i) ([] : List UInt8)).getD (0) 0).toNat) pk5_ty59 pk5_sz3 T3 rfl (by exact UInt8.toNat_lt _) (gS (Yk.storeN (i := ((ids.getD (i) ([] : List UInt8)).getD (0) 0).toNat) (v := ((firstL (ids.take i)).getD (((ids.getD (i) ([] : List UInt8)).getD (0) 0).toNat) 0) + (1)) rfl rfl hb21l (by rw [firstL_len]; exact UInt8.toNat_lt _) pk5_isz3 fun w54 hb55 hg56 hs57 => ?_)))))))))))))
  clear hb21l
  have hb21l := hb55; clear hb55
  have hl58 := bl hb21l
  have hlt45 := lte (bl hb8) hn36
  have hb8 := eb hx38 hb8
  have hb8 := kb hg51 hb8 (by omega)
  have hb8 := kb hg56 hb8 (by omega)
  have hE := hE.trans hx38
  have hE := row_fresh hE hg51 (Nat.le_trans hz43 (by omega))
  have hE := row_fresh hE hg56 (Nat.le_trans hz19 (by omega))
  have hA17 := hA17.trans hx38
  have hA17 := row_fresh hA17 hg51 (Nat.le_trans hz44 (by omega))
  have hA17 := row_fresh hA17 hg56 (Nat.le_trans (Nat.le_refl _) (by omega))
  refine gS (Yk.bin (xv := NI i) (yv := NI 1) T9 rfl rfl (i64_add _ _ _ (by omega)) ?_)
  refine gK (And.intro ⟨i + 1, T0, T2, T3, T7, T8, rfl, hE, hb8, hA17, blk_eq hb21l (congrArg (List.map fun x => NI x) (by rw [List.take_succ_eq_append_getElem (by omega), firstL_snoc]; simp only [List.getD_eq_getElem?_getD, List.getElem?_eq_getElem (show i < ids.length by omega), Option.getD_some]; rfl)), by omega, trivial⟩ ?_)
  show ids.length - (intOf (NI ((i) + (1)))).toNat < ids.length - (intOf (ρ25 9)).toNat
  rw [q9]
  simp only [intOf, Int.toNat_natCast]; omega
 refine gL (fun (ρ : Slots) (wz : World) => ∃ c : Nat, ρ 0 = (v : Value) ∧ ρ 2 = (PQ n2 0 : Value) ∧ ρ 3 = (PQ n11 0 : Value) ∧ ρ 7 = (v : Value) ∧ ρ 8 = (NI ids.length : Value) ∧ ρ 9 = (NI i : Value) ∧ ρ 6 = (NI c : Value) ∧ Ext w wz ∧ wz.heap[n2]? = some (.cells ((List.replicate 256 0).map fun x => NI x).toArray 59 (0, 0)) ∧ Ext w3 wz ∧ wz.heap[n11]? = some (.cells ((fanStep ids c).map fun x => NI x).toArray 59 (0, 0)) ∧ (0 < c) ∧ (c ≤ 256) ∧ True) (fun ρ _ => 256 - (intOf (ρ 6)).toNat) ⟨1, T0, T2, T3, T7, T8, T9, rfl, hE, hb8, hA17, blk_eq hb21l (congrArg (List.map fun x => NI x) (by rw [fanStep_one, show i = ids.length by omega, List.take_length])), by omega, by omega, trivial⟩ ?_
 clear hb21l
 clear hE hb8 hA17
 rintro ρ61 w62 ⟨c, T0, T2, T3, T7, T8, T9, T6, hE, hb8, hA17, hb21ll, hc0', hcl, -⟩
 have q6 := T6
 refine gS (Yk.eqI (a := (c : Nat)) (b := (256 : Nat)) T6 rfl (k_lss _ _ _ _) ?_)
 refine cD rfl (fun hc1 => ?_) fun hc1 => ?_
 ·refine gM0 [0, 1, 2, 3, 4, 5, 6, 7, 8, 9] [9] [] fun w66 hx67 => ?_
  have hb21ll := eb hx67 hb21ll
  refine ys (Yk.atArr0 (i := c) pk5_ty59 pk5_sz3 T3 T6 (by omega) zz) (ys (Yk.cell1 pk5_ty3 rfl rfl (cellAt hb21ll (nat_at (i := c) (by rw [fanStep_len _ _ hcl]; omega))) zz) (ys (Yk.bin (xv := NI c) (yv := NI 1) T6 rfl rfl (i64_sub _ _ _ (by omega) (by omega)) zz) (ys (Yk.atArr0 (i := (c) - (1)) pk5_ty59 pk5_sz3 T3 rfl (by omega) zz) (ys (Yk.cell1 pk5_ty3 rfl rfl (cellAt hb21ll (nat_at (i := (c) - (1)) (by rw [fanStep_len _ _ hcl]; omega))) zz) (ys (Yk.bin (xv := NI ((fanStep ids c).getD (c) 0)) (yv := NI ((fanStep ids c).getD ((c) - (1)) 0)) rfl rfl rfl (i64_add _ _ _ (by have := fanStep_sum ids c hc0' (by omega); omega)) zz) (ys (Yk.atArr0 (i := c) pk5_ty59 pk5_sz3 T3 T6 (by omega) zz) (yC (Yk.storeN (i := c) (v := ((fanStep ids c).getD (c) 0) + ((fanStep ids c).getD ((c) - (1)) 0)) rfl rfl hb21ll (by rw [fanStep_len _ _ hcl]; omega) pk5_isz3 fun w68 hb69 hg70 hs71 => ?_))))))))
  clear hb21ll
  have hb21ll := hb69; clear hb69
  have hl72 := bl hb21ll
  have hE := hE.trans hx67
  have hE := row_fresh hE hg70 (Nat.le_trans hz19 (by omega))
  have hb8 := eb hx67 hb8
  have hb8 := kb hg70 hb8 (by omega)
  have hA17 := hA17.trans hx67
  have hA17 := row_fresh hA17 hg70 (Nat.le_trans (Nat.le_refl _) (by omega))
  refine gS (Yk.bin (xv := NI c) (yv := NI 1) T6 rfl rfl (i64_add _ _ _ (by omega)) (gK (And.intro ⟨c + 1, T0, T2, T3, T7, T8, T9, rfl, hE, hb8, hA17, blk_eq hb21ll (congrArg (List.map fun x => NI x) (fanStep_succ ids c hc0' (by omega)).symm), by omega, by omega, trivial⟩ ?_)))
  show 256 - (intOf (NI ((c) + (1)))).toNat < 256 - (intOf (ρ61 6)).toNat
  rw [q6]
  simp only [intOf, Int.toNat_natCast]; omega
 have hc256 : c = 256 := by omega
 obtain ⟨F, hF⟩ : ∃ F, F = fanL ids := ⟨_, rfl⟩
 have hb21ll : w62.heap[n11]? = some (.cells (F.map fun x => NI x).toArray 59 (0, 0)) := blk_eq hb21ll (by rw [hc256, fanStep_all, hF])
 have hFl : F.length = 256 := by rw [hF, fanL_len]
 refine gS (Yk.loadAll T3 hb21ll pk5_ty59 rfl (by rw [List.size_toArray, List.length_map, hFl]; exact pk5_isz59) (gS (Yk.storeAll T2 (vr (.agg (F.map fun x => NI x).toArray) rfl) hb8 (by rw [List.size_toArray, List.size_toArray, List.length_map, List.length_map, hFl]; rfl) (by rw [List.size_toArray, List.length_map, hFl]; exact pk5_isz59) (cellsN_one _) fun w74 hb75 hg76 hs77 => ?_)))
 clear hA17
 clear hb8
 have hb8 := hb75; clear hb75
 have hl78 := bl hb8
 refine rg1 rfl (ResF.row T2 hb8 pk5_ty59 rfl (by rw [List.size_toArray, List.length_map, hFl]; exact pk5_isz59)) ?_
 subst hF
 have hE := row_fresh hE hg76 (Nat.le_trans (Nat.le_refl _) (by omega))
 exact ⟨rfl, hE⟩
open Go.RowKit
section
variable {P : Program}
theorem run_reslice_readsW {t e : TypeId} {size : Nat} (ht : P.underlying t = some (.slice e)) (he : ∀ w' : World, (sizeOf e).run P w' = .ok size w') {w : World} {v : Value} {n : Nat} {xs : List Value} (hr : Reads w size v n xs) (lo hi : Option Value) (l h : Nat) (hlh : l ≤ h) (hn : h ≤ n)
    (hlo : lo = none ∧ l = 0 ∨ ∃ k, lo = some (.int k l)) (hhi : hi = none ∧ h = n ∨ ∃ k, hi = some (.int k h)) :
    ∃ ao c, ((∀ w : World, (Instr.sliceAt t v lo hi none).run P w = .ok (.slice ao (h - l) c) w) ∧ (Value.slice ao (h - l) c).ownBlock = v.ownBlock) ∧ Reads w size (.slice ao (h - l) c) (h - l) ((xs.drop (l * size)).take ((h - l) * size)) := by
  obtain ⟨h1, ao, cap, rfl, h2, h3, h4, h5⟩ := hr
  have hE : P.elem t = e := by simp [Program.elem, ht]
  have ht' : P.underlying t = some (.slice (P.elem t)) := by rw [hE]; exact ht
  refine ⟨if cap = l then ao else ao.map (·.add (l * size)), cap - l, ⟨?_, ?_⟩, ?_, _, _, rfl, by omega, by omega, ?_, ?_⟩
  · intro w
    rw [run_sliceAt_slice (P := P) w t _ _ _ _ ht']
    have hl' : (l : Int) ≤ (h : Int) := by omega
    have hh' : (h : Int) ≤ (cap : Int) := by omega
    have hn' : (l : Int) ≤ (n : Int) := by omega
    rcases hlo with ⟨rfl, rfl⟩ | ⟨k, rfl⟩ <;> rcases hhi with ⟨rfl, rfl⟩ | ⟨k', rfl⟩
    · rw [run_slice_all (P := P) w t ao h cap ht', hE, he]
      simp [Result.andThen, sliced]
    · rw [run_slice_h (P := P) w t ao n cap ht' k' h (by omega) hh', hE, he]
      simp [Result.andThen, sliced]
    · rw [run_slice_l (P := P) w t ao h cap ht' k l (by omega) hl', hE, he]
      simp [Result.andThen, sliced]
    · rw [run_slice_lh (P := P) w t ao n cap ht' k k' l h (by omega) hl' hh', hE, he]
      simp [Result.andThen, sliced]
  · cases ao with
    | none => simp [Value.ownBlock]
    | some x =>
      split
      · rfl
      · simp only [Option.map_some, Value.ownBlock, Option.some.injEq]
        unfold Addr.add
        split <;> rfl
  · rw [List.length_take, List.length_drop, h1]
    have : (h - l) * size ≤ n * size - l * size := by rw [← Nat.sub_mul]; exact Nat.mul_le_mul_right _ (by omega)
    omega
  · intro hnone
    have : ao = none := by
      cases ao with
      | none => rfl
      | some x => split at hnone <;> simp at hnone
    obtain ⟨h6, h7⟩ := h4 this
    omega
  · intro a ha j u hu
    have hj : j < ((xs.drop (l * size)).take ((h - l) * size)).length := (List.getElem?_eq_some_iff.1 hu).1
    have hj2 : j < (h - l) * size := by rw [List.length_take] at hj; omega
    have hhl : h - l ≠ 0 := fun e => by rw [e] at hj2; simp at hj2
    rw [if_neg (by omega)] at ha
    cases ao with
    | none => simp at ha
    | some x =>
      simp at ha
      subst ha
      rw [addr_add_add]
      refine h5 x rfl _ _ ?_
      rw [List.getElem?_take, if_pos hj2, List.getElem?_drop] at hu
      exact hu
end
section
variable {P : Program} {K : Value → World → Prop} {ρ : Slots} {w w0 : World} {d : Option Tmp} {ty : TypeId} {pos : String} {af : Array Edge} {gd : Option (Nat × Bool)}
variable {α : Type} {k : Nat} {enc : α → List Value} {t e : TypeId}
theorem Yk.sliceLoW (ht : P.underlying t = some (.slice e)) (he : ∀ w' : World, (sizeOf e).run P w' = .ok k w') {x lo : Operand} {v : Value} {xs : List α} (hx : evalR ρ x = v) (h : RG k enc w0 v xs) {kd : IntKind} {l : Nat} (hlo : evalR ρ lo = .int kd (l : Int)) (hl : l ≤ xs.length)
    (hk : ∀ v', RG k enc w0 v' (xs.drop l) → v'.ownBlock = v.ownBlock → K v' w) : Yk P K ((execOp (evalR ρ) ⟨d, .slice t x (some lo) none none, ty, pos, af, gd⟩).run P w) := by
  obtain ⟨ao, c, ⟨hrun, hb⟩, hR⟩ := run_reslice_readsW ht he h.2 (some (.int kd l)) none l xs.length hl (Nat.le_refl _) (.inr ⟨kd, rfl⟩) (.inl ⟨rfl, rfl⟩)
  have hR' := RG.cut h.1 hl (Nat.le_refl _) hR
  rw [List.take_of_length_le (by rw [List.length_drop]; exact Nat.le_refl _)] at hR'
  refine Yk.value (v := .slice ao (xs.length - l) c) (w' := w) ?_ (hk _ hR' hb)
  unfold execOp
  simp only [hx, hlo, Option.map_some, Option.map_none, hrun, Sem.run_bind, Sem.run_pure, Result.andThen_ok]
theorem Yk.sliceHiW (ht : P.underlying t = some (.slice e)) (he : ∀ w' : World, (sizeOf e).run P w' = .ok k w') {x hi : Operand} {v : Value} {xs : List α} (hx : evalR ρ x = v) (h : RG k enc w0 v xs) {kd : IntKind} {n : Nat} (hhi : evalR ρ hi = .int kd (n : Int)) (hl : n ≤ xs.length)
    (hk : ∀ v', RG k enc w0 v' (xs.take n) → v'.ownBlock = v.ownBlock → K v' w) : Yk P K ((execOp (evalR ρ) ⟨d, .slice t x none (some hi) none, ty, pos, af, gd⟩).run P w) := by
  obtain ⟨ao, c, ⟨hrun, hb⟩, hR⟩ := run_reslice_readsW ht he h.2 none (some (.int kd n)) 0 n (Nat.zero_le _) hl (.inl ⟨rfl, rfl⟩) (.inr ⟨kd, rfl⟩)
  have hR' := RG.cut h.1 (Nat.zero_le _) hl hR
  rw [List.drop_zero, Nat.sub_zero] at hR'
  refine Yk.value (v := .slice ao (n - 0) c) (w' := w) ?_ (hk _ hR' hb)
  unfold execOp
  simp only [hx, hhi, Option.map_some, Option.map_none, hrun, Sem.run_bind, Sem.run_pure, Result.andThen_ok]
theorem info_ex {P : Program} {e : TypeId} {k b : Nat} (h : (P.info? e).map (fun i => (i.zero.map (fun z => z.cells.size), i.size, i.bytes)) = some (some k, k, b)) : ∃ z, (P.info? e).map (fun i => (i.zero, i.size, i.bytes)) = some (some z, k, b) ∧ z.cells.size = k := by
  cases hi : P.info? e with
  | none => rw [hi] at h; cases h
  | some i =>
    rw [hi] at h
    simp only [Option.map_some, Option.some.injEq, Prod.mk.injEq] at h
    cases hz : i.zero with
    | none => rw [hz] at h; cases h.1
    | some z =>
      rw [hz] at h
      simp only [Option.map_some, Option.some.injEq] at h
      exact ⟨z, by simp [hz, h.2.1, h.2.2], h.1⟩
theorem Yk.makeG (base : Nat) (z : Value) (bytes : Nat) (ht : P.underlying t = some (.slice e)) (hi : (P.info? e).map (fun i => (i.zero, i.size, i.bytes)) = some (some z, k, bytes)) {x y : Operand} {kl kc : IntKind} {n : Nat} (hx : evalR ρ x = .int kl 0) (hy : evalR ρ y = .int kc (n : Int)) (hb : bytes * n ≤ 281474976710656) (hn : n ≤ 9223372036854775807) (hbase : base ≤ w.heap.size)
    (hk : ∀ v w', OG base e k enc w' v ([] : List α) → Ext w w' → K v w') : Yk P K ((execOp (evalR ρ) ⟨d, .makeSlice t x y, ty, pos, af, gd⟩).run P w) := by
  obtain ⟨i, hi, hz, hsize, hby⟩ := info_parts hi
  obtain ⟨w', hr, h2, h3⟩ := run_make_own (P := P) (w := w) base t e i z k ht hi hz hsize kl kc n (by rw [hby]; exact hb) (by unfold maxLen; omega) hbase
  refine Yk.value (v := .slice (some ⟨w.heap.size, 0, none⟩) 0 n) (w' := w') ?_ (hk _ w' ⟨by simp, h2⟩ (Ext.of h3))
  unfold execOp
  simp only [hx, hy, hr, Sem.run_bind, Sem.run_pure, Result.andThen_ok]
theorem Yk.makeN (bytes : Nat) (ht : P.underlying t = some (.slice e)) (hi : (P.info? e).map (fun i => (i.zero, i.size, i.bytes)) = some (some (.int .i64 0), 1, bytes)) {x y : Operand} {kl kc : IntKind} {n : Nat} (hx : evalR ρ x = .int kl (n : Int)) (hy : evalR ρ y = .int kc (n : Int)) (hb : bytes * n ≤ 281474976710656) (hn : n ≤ 9223372036854775807)
    (hk : ∀ g w', w.heap.size = g → w'.heap[g]? = some (.cells ((List.replicate n 0).map fun x => NI x).toArray e (0, 0)) → Ext w w' → w'.heap.size = g + 1 → K (.slice (some ⟨g, 0, none⟩) n n) w') : Yk P K ((execOp (evalR ρ) ⟨d, .makeSlice t x y, ty, pos, af, gd⟩).run P w) := by
  obtain ⟨i, hi, hz, hsize, hby⟩ := info_parts hi
  have hb' : (i.bytes : Int) * (n : Int) ≤ 281474976710656 := by
    have h : ((i.bytes * n : Nat) : Int) ≤ 281474976710656 := by rw [hby]; omega
    rwa [Int.natCast_mul] at h
  have hr := run_make (P := P) w t e i _ ht hi hz kl kc (n : Int) n (by omega) (by omega) hb' (by omega)
  have hm : madeCells (Value.int .i64 0).cells (n * i.size) = ((List.replicate n 0).map fun x => NI x).toArray := by
    rw [hsize, Nat.mul_one]
    apply Array.ext
    · simp [madeCells]
    · intro j h1 h2
      simp [madeCells, Value.cells, Nat.mod_one]
  simp only [Int.toNat_natCast] at hr
  rw [hm] at hr
  refine Yk.value (v := .slice (some ⟨w.heap.size, 0, none⟩) n n) (w' := w.alloc (.cells ((List.replicate n 0).map fun x => NI x).toArray e)) ?_ (hk w.heap.size _ rfl (heap_alloc_new w _) ((Below.refl _ _).alloc (Nat.le_refl _) _) (by simp))
  unfold execOp
  simp only [hx, hy, hr, Sem.run_bind, Sem.run_pure, Result.andThen_ok]
theorem Yk.atSl0 (ht : P.underlying t = some (.slice e)) (he : ∀ w' : World, (sizeOf e).run P w' = .ok 1 w') {x y : Operand} {b i n c : Nat} {kd : IntKind} (hx : evalR ρ x = .slice (some ⟨b, 0, none⟩) n c) (hy : evalR ρ y = .int kd (i : Int)) (hi : i < n) (hk : K (.pointer (some ⟨b, i, none⟩)) w) : Yk P K ((execOp (evalR ρ) ⟨d, .indexAddr t x y, ty, pos, af, gd⟩).run P w) :=
  Yk.atSl ht he hx hy hi (by rw [Nat.zero_add]; exact hk)
theorem OG.base {α : Type} {b b' k : Nat} {e : TypeId} {enc : α → List Value} {v : Value} {l : List α} (h : OG b e k enc w v l) (hb : b' ≤ b) : OG b' e k enc w v l := ⟨h.1, ownsRow_base h.2 hb⟩
theorem map_eq {α β : Type} {ek : α → Value} {ev : β → Value} {D : α → Prop} {b : Nat} {G G' : α → Option β} (h : MapF ek ev D w b G) (e : G = G') : MapF ek ev D w b G' := by rw [← e]; exact h
def RowG {α : Type} (B N : Nat) (e : TypeId) (k : Nat) (enc : α → List Value) (r : Option Nat) (l : List α) (x : Value) (w' : World) : Prop := OG B e k enc w' x l ∧ ∀ k, x.ownBlock = some k → r = some k ∨ N ≤ k
theorem RG.nilOwn (w : World) (b : Nat) (e : TypeId) : OG b e k enc w (.slice none 0 0) ([] : List α) := OG.nil b e k enc w
structure MI (l O A B : List (List UInt8)) : Prop where
  perm : (O ++ (A ++ B)).Perm l
  ascO : Asc O
  ascA : Asc A
  ascB : Asc B
  le : ∀ x ∈ O, ∀ y ∈ A ++ B, Lib.compareBytes x y ≤ 0
theorem MI.start {l A B : List (List UInt8)} {h : Nat} (hA : A.Perm (l.take h)) (hB : B.Perm (l.drop h)) (a1 : Asc A) (b1 : Asc B) : MI l [] A B :=
  ⟨by rw [List.nil_append]; exact (hA.append hB).trans (by rw [List.take_append_drop]), List.Pairwise.nil, a1, b1, by simp⟩
theorem MI.left {l O A B : List (List UInt8)} (h : MI l O A B) (hA : 0 < A.length) (hB : 0 < B.length) (hc : Lib.compareBytes (A.getD 0 []) (B.getD 0 []) ≤ 0) : MI l (O ++ [A.getD 0 []]) (A.drop 1) B := by
  match A, B, hA, hB, h, hc with
  | a :: A, b :: B, _, _, h, hc =>
    simp only [List.getD_cons_zero, List.drop_succ_cons, List.drop_zero] at hc ⊢
    have hp := List.pairwise_cons.1 h.ascA
    have hq := List.pairwise_cons.1 h.ascB
    have hall : ∀ y ∈ A ++ b :: B, Lib.compareBytes a y ≤ 0 := fun y hy => by
      rcases List.mem_append.1 hy with h1 | h1
      · exact hp.1 y h1
      · rcases List.mem_cons.1 h1 with rfl | h1
        · exact hc
        · exact cmp_trans hc (hq.1 y h1)
    refine ⟨by rw [List.append_assoc]; exact h.perm, ?_, hp.2, h.ascB, ?_⟩
    · unfold Asc
      rw [List.pairwise_append]
      exact ⟨h.ascO, by simp, fun x hx y hy => by rw [List.mem_singleton.1 hy]; exact h.le x hx a (by simp)⟩
    · intro x hx y hy
      rcases List.mem_append.1 hx with h1 | h1
      · exact h.le x h1 y (by simp only [List.cons_append, List.mem_cons]; exact .inr hy)
      · rw [List.mem_singleton.1 h1]; exact hall y hy
theorem MI.right {l O A B : List (List UInt8)} (h : MI l O A B) (hA : 0 < A.length) (hB : 0 < B.length) (hc : ¬ Lib.compareBytes (A.getD 0 []) (B.getD 0 []) ≤ 0) : MI l (O ++ [B.getD 0 []]) A (B.drop 1) := by
  match A, B, hA, hB, h, hc with
  | a :: A, b :: B, _, _, h, hc =>
    simp only [List.getD_cons_zero, List.drop_succ_cons, List.drop_zero] at hc ⊢
    have hp := List.pairwise_cons.1 h.ascA
    have hq := List.pairwise_cons.1 h.ascB
    have hba : Lib.compareBytes b a ≤ 0 := by have := cmp_neg a b; omega
    have hall : ∀ y ∈ a :: A ++ B, Lib.compareBytes b y ≤ 0 := fun y hy => by
      rcases List.mem_append.1 hy with h1 | h1
      · rcases List.mem_cons.1 h1 with rfl | h1
        · exact hba
        · exact cmp_trans hba (hp.1 y h1)
      · exact hq.1 y h1
    refine ⟨?_, ?_, h.ascA, hq.2, ?_⟩
    · refine List.Perm.trans ?_ h.perm
      rw [List.append_assoc]
      refine List.Perm.append_left O ?_
      simp only [List.singleton_append]
      exact (List.perm_middle (l₁ := a :: A) (l₂ := B) (a := b)).symm
    · unfold Asc
      rw [List.pairwise_append]
      exact ⟨h.ascO, by simp, fun x hx y hy => by rw [List.mem_singleton.1 hy]; exact h.le x hx b (by simp)⟩
    · intro x hx y hy
      rcases List.mem_append.1 hx with h1 | h1
      · exact h.le x h1 y (by
          rcases List.mem_append.1 hy with h2 | h2
          · exact List.mem_append_left _ h2
          · exact List.mem_append_right _ (by simp [h2]))
      · rw [List.mem_singleton.1 h1]; exact hall y hy
theorem MI.done {l O A B : List (List UInt8)} (h : MI l O A B) (he : A.length = 0 ∨ B.length = 0) : ((O ++ A) ++ B).Perm l ∧ Asc ((O ++ A) ++ B) := by
  refine ⟨by rw [List.append_assoc]; exact h.perm, ?_⟩
  rw [List.append_assoc]
  unfold Asc
  rw [List.pairwise_append]
  refine ⟨h.ascO, ?_, h.le⟩
  rcases he with he | he
  · rw [List.eq_nil_of_length_eq_zero he, List.nil_append]; exact h.ascB
  · rw [List.eq_nil_of_length_eq_zero he, List.append_nil]; exact h.ascA
theorem asc_short {l : List (List UInt8)} (h : l.length < 2) : Asc l := by
  match l, h with
  | [], _ => exact List.Pairwise.nil
  | [a], _ => simp [Asc]
end
open Go.RowKit
set_option maxRecDepth 100000
theorem pk6_ty47 : Tryd.prog.underlying 47 = some (.slice 38) := by kernel_rfl
theorem pk6_ig38 : ∃ z, (Tryd.prog.info? 38).map (fun i => (i.zero, i.size, i.bytes)) = some (some z, 32, 32) ∧ z.cells.size = 32 := info_ex (by kernel_rfl)
theorem pk6_szg38 : ∀ w' : World, (sizeOf 38).run Tryd.prog w' = .ok 32 w' := fun _ => by kernel_rfl
theorem pk6_pl56 : Plain Tryd.prog 56 := fun _ _ => by kernel_rfl
theorem pk6_ty38 : Tryd.prog.underlying 38 = some (.array 32 5) := by kernel_rfl
theorem pk6_isz38 : (Tryd.prog.info? 38).map (·.size) = some 32 := by kernel_rfl
theorem pk6_pl57 : Plain Tryd.prog 57 := fun _ _ => by kernel_rfl
theorem pk6_lh47 (c0 c1 c2 c3 c4 c5 c6 c7 c8 c9 c10 c11 c12 c13 c14 c15 c16 c17 c18 c19 c20 c21 c22 c23 c24 c25 c26 c27 c28 c29 c30 c31 : Value) (w : World) : (Instr.buildSlice 47 1 #[(0, .agg #[c0, c1, c2, c3, c4, c5, c6, c7, c8, c9, c10, c11, c12, c13, c14, c15, c16, c17, c18, c19, c20, c21, c22, c23, c24, c25, c26, c27, c28, c29, c30, c31])]).run Tryd.prog w = .ok (.slice (some ⟨w.heap.size, 0, none⟩) 1 1) (w.alloc (.cells #[c0, c1, c2, c3, c4, c5, c6, c7, c8, c9, c10, c11, c12, c13, c14, c15, c16, c17, c18, c19, c20, c21, c22, c23, c24, c25, c26, c27, c28, c29, c30, c31] 38)) := by kernel_rfl
theorem pk6_lg47 : ∀ (cs : Array Value), cs.size = 32 → ∀ w : World, (Instr.buildSlice 47 1 #[(0, .agg cs)]).run Tryd.prog w = .ok (.slice (some ⟨w.heap.size, 0, none⟩) 1 1) (w.alloc (.cells cs 38))
 | ⟨[c0, c1, c2, c3, c4, c5, c6, c7, c8, c9, c10, c11, c12, c13, c14, c15, c16, c17, c18, c19, c20, c21, c22, c23, c24, c25, c26, c27, c28, c29, c30, c31]⟩, _, w => pk6_lh47 c0 c1 c2 c3 c4 c5 c6 c7 c8 c9 c10 c11 c12 c13 c14 c15 c16 c17 c18 c19 c20 c21 c22 c23 c24 c25 c26 c27 c28 c29 c30 c31 w
theorem merge_step (n : Nat) (ih : ∀ l : List Bs, l.length < n → ∀ (w : World) (v : Value), RG 32 Lib.byteCells w v l → Calls Tryd.prog 56 #[v, .func (.func 57) #[] #[]] w fun e w' => ∃ v' m, e = .returned v' ∧ OG w.heap.size 38 32 Lib.byteCells w' v' m ∧ m.Perm l ∧ Asc m ∧ Ext w w') (l : List Bs) (hn : l.length = n) (hlim : l.length ≤ 1048576) (w : World) (v : Value) (hr : RG 32 Lib.byteCells w v l) :
  Calls Tryd.prog 56 #[v, .func (.func 57) #[] #[]] w fun e w' => ∃ v' m, e = .returned v' ∧ OG w.heap.size 38 32 Lib.byteCells w' v' m ∧ m.Perm l ∧ Asc m ∧ Ext w w' := by
 refine gG (args := [v, .func (.func 57) #[] #[]]) Tryd.func56 rfl 68 rfl rfl ?_
 have hE := Ext.refl w
 refine gS (Yk.lenRG pk6_ty47 (RG.of hr rfl) (gS (Yk.eqI (a := (l.length : Nat)) (b := (2 : Nat)) rfl rfl (k_lss _ _ _ _) ?_)))
 refine cD rfl (fun hc0 => ?_) fun hc0 => ?_
 ·refine gS (Yk.appendRG _ _ w.heap.size _ 32 pk6_ty47 pk6_ig38.choose_spec.1 pk6_ig38.choose_spec.2 pk6_ty47 ([]) (l) (RG.nilOwn _ _ _) (RG.of hr (vr v rfl)) (fun _ _ => byteCells_one _) (by simp only [List.length_nil]; omega) (by simp only [List.length_nil]; omega) hE.size fun v5 w6 ho7 hg8 => ?_)
  have hg8 : Grew w w6 (.slice none 0 0) v5 := hg8
  have hx_ : Ext w w6 := Ext.of (by have := hg8.by_; exact this)
  refine rt1 rfl (vr v5 rfl) ?_
  have hE := hE.trans hx_
  exact ⟨_, l, rfl, OG.base (og_eq ho7 (List.nil_append l)) (by omega), List.Perm.refl _, asc_short hc0, hE⟩
 refine gR ?_
 refine wpF_draw [Is (v), Is (v), Is (NI l.length), Is (NI ((l.length) / (2))), fun x _ => RG 32 (Lib.byteCells) w x (l.take ((l.length) / (2))), Is (.func (.func 57) #[] #[]), fun x w' => ∃ m, RG 32 Lib.byteCells w' x m ∧ m.Perm (l.take ((l.length) / (2))) ∧ Asc m, Is (v), Is (v), Is (NI l.length), Is (NI ((l.length) / (2))), fun x _ => RG 32 (Lib.byteCells) w x (l.drop ((l.length) / (2))), Is (.func (.func 57) #[] #[]), fun x w' => ∃ m, RG 32 Lib.byteCells w' x m ∧ m.Perm (l.drop ((l.length) / (2))) ∧ Asc m, fun x w' => ∃ m, RG 32 Lib.byteCells w' x m ∧ m.Perm (l.take ((l.length) / (2))) ∧ Asc m, fun x w' => ∃ m, RG 32 Lib.byteCells w' x m ∧ m.Perm (l.drop ((l.length) / (2))) ∧ Asc m] (by kernel_rfl) [13, 14, 15, 16, 17, 18, 19, 20, 21, 22, 23, 24, 25, 26, 5, 6] (by kernel_rfl) (by kernel_rfl) (si4 ⟨(fun _ _ _ h _ => h), Stab.is _, (fun _ _ _ ⟨m, h1, h2⟩ k => ⟨m, h1.keep k, h2⟩), (si4 ⟨(fun _ _ _ h _ => h), Stab.is _, (fun _ _ _ ⟨m, h1, h2⟩ k => ⟨m, h1.keep k, h2⟩), (fun _ _ _ ⟨m, h1, h2⟩ k => ⟨m, h1.keep k, h2⟩), (fun _ _ _ ⟨m, h1, h2⟩ k => ⟨m, h1.keep k, h2⟩), trivial⟩)⟩) ?hs1003 ?hQ1003
 case hs1003 =>
  refine ⟨?_, ?_, ?_, ?_, ?_, ?_, ?_, ?_, ?_, ?_, ?_, ?_, ?_, ?_, ?_, ?_, trivial⟩
  ·refine stepN rfl fun σ w1 hC h => ?_
   have e0 : σ 0 = v := (eqo (h 0 (by decide))).trans rfl
   exact Yk.move e0 ⟨Ext.refl _, rfl⟩
  ·refine stepN rfl fun σ w1 hC h => ?_
   have e0 : σ 0 = v := (eqo (h 0 (by decide))).trans rfl
   exact Yk.move e0 ⟨Ext.refl _, rfl⟩
  ·refine stepN rfl fun σ w1 hC h => ?_
   have e14 := eqo (h 14 (by decide))
   exact Yk.lenRG pk6_ty47 (RG.of (hr.keep hC) e14) ⟨Ext.refl _, rfl⟩
  ·refine stepN rfl fun σ w1 hC h => ?_
   have e15 := eqo (h 15 (by decide))
   exact Yk.bin (xv := NI l.length) (yv := NI 2) e15 rfl rfl (i64_quo _ _ _ (by omega) (by omega)) ⟨Ext.refl _, rfl⟩
  ·refine stepN rfl fun σ w1 hC h => ?_
   have e13 := eqo (h 13 (by decide))
   have e16 := eqo (h 16 (by decide))
   exact Yk.sliceHiW pk6_ty47 pk6_szg38 e13 hr e16 (by omega) fun v h _ => ⟨Ext.refl _, h⟩
  ·refine stepN rfl fun σ w1 hC h => ?_
   have e1 : σ 1 = .func (.func 57) #[] #[] := (eqo (h 1 (by decide))).trans rfl
   exact Yk.move e1 ⟨Ext.refl _, rfl⟩
  ·refine stepN rfl fun σ w1 hC h => ?_
   have e17 : (fun x _ => RG 32 (Lib.byteCells) w x (l.take ((l.length) / (2)))) (σ 17) w1 := h 17 (by decide)
   have e18 := eqo (h 18 (by decide))
   refine Yk.callA2 pk6_pl56 rfl e18 ((ih (l.take ((l.length) / (2))) (by have hlen_ := List.length_take_le (l.length / 2) l; first | (simp only [List.length_take]; omega) | (simp only [List.length_drop]; omega)) _ _ (RG.keep e17 hC)).mono ?_)
   rintro e w2 ⟨_, m, rfl, h1, h2, h3, h4⟩
   exact ⟨_, rfl, h4, m, RG.ofOwn h1, h2, h3⟩
  ·refine stepN rfl fun σ w1 hC h => ?_
   have e0 : σ 0 = v := (eqo (h 0 (by decide))).trans rfl
   exact Yk.move e0 ⟨Ext.refl _, rfl⟩
  ·refine stepN rfl fun σ w1 hC h => ?_
   have e0 : σ 0 = v := (eqo (h 0 (by decide))).trans rfl
   exact Yk.move e0 ⟨Ext.refl _, rfl⟩
  ·refine stepN rfl fun σ w1 hC h => ?_
   have e21 := eqo (h 21 (by decide))
   exact Yk.lenRG pk6_ty47 (RG.of (hr.keep hC) e21) ⟨Ext.refl _, rfl⟩
  ·refine stepN rfl fun σ w1 hC h => ?_
   have e22 := eqo (h 22 (by decide))
   exact Yk.bin (xv := NI l.length) (yv := NI 2) e22 rfl rfl (i64_quo _ _ _ (by omega) (by omega)) ⟨Ext.refl _, rfl⟩
  ·refine stepN rfl fun σ w1 hC h => ?_
   have e20 := eqo (h 20 (by decide))
   have e23 := eqo (h 23 (by decide))
   exact Yk.sliceLoW pk6_ty47 pk6_szg38 e20 hr e23 (by omega) fun v h _ => ⟨Ext.refl _, h⟩
  ·refine stepN rfl fun σ w1 hC h => ?_
   have e1 : σ 1 = .func (.func 57) #[] #[] := (eqo (h 1 (by decide))).trans rfl
   exact Yk.move e1 ⟨Ext.refl _, rfl⟩
  ·refine stepN rfl fun σ w1 hC h => ?_
   have e24 : (fun x _ => RG 32 (Lib.byteCells) w x (l.drop ((l.length) / (2)))) (σ 24) w1 := h 24 (by decide)
   have e25 := eqo (h 25 (by decide))
   refine Yk.callA2 pk6_pl56 rfl e25 ((ih (l.drop ((l.length) / (2))) (by have hlen_ := List.length_take_le (l.length / 2) l; first | (simp only [List.length_take]; omega) | (simp only [List.length_drop]; omega)) _ _ (RG.keep e24 hC)).mono ?_)
   rintro e w2 ⟨_, m, rfl, h1, h2, h3, h4⟩
   exact ⟨_, rfl, h4, m, RG.ofOwn h1, h2, h3⟩
  ·refine stepN rfl fun σ w1 hC h => ?_
   have e19 : (fun x w' => ∃ m, RG 32 Lib.byteCells w' x m ∧ m.Perm (l.take ((l.length) / (2))) ∧ Asc m) (σ 19) w1 := h 19 (by decide)
   exact Yk.assign rfl ⟨Ext.refl _, e19⟩
  ·refine stepN rfl fun σ w1 hC h => ?_
   have e26 : (fun x w' => ∃ m, RG 32 Lib.byteCells w' x m ∧ m.Perm (l.drop ((l.length) / (2))) ∧ Asc m) (σ 26) w1 := h 26 (by decide)
   exact Yk.assign rfl ⟨Ext.refl _, e26⟩
 intro ρ10 w11 hx12 he hf
 obtain ⟨-, -, -, -, -, -, -, -, -, -, -, -, -, -, k5, k6, -⟩ := hf
 obtain ⟨T0, T1, T4, -⟩ := he.hold [(0, v), (1, .func (.func 57) #[] #[]), (4, (Value.slice none 0 0))] ⟨rfl, rfl, rfl, trivial⟩ rfl
 clear he
 have k5 : (fun x w' => ∃ m, RG 32 Lib.byteCells w' x m ∧ m.Perm (l.take ((l.length) / (2))) ∧ Asc m) (ρ10 5) w11 := k5
 obtain ⟨v13, T5⟩ : ∃ v, ρ10 5 = v := ⟨_, rfl⟩
 rw [T5] at k5
 have hk14 := k5; clear k5
 obtain ⟨A, hr15, hp16, ha17⟩ := hk14
 have k6 : (fun x w' => ∃ m, RG 32 Lib.byteCells w' x m ∧ m.Perm (l.drop ((l.length) / (2))) ∧ Asc m) (ρ10 6) w11 := k6
 obtain ⟨v18, T6⟩ : ∃ v, ρ10 6 = v := ⟨_, rfl⟩
 rw [T6] at k6
 have hk19 := k6; clear k6
 obtain ⟨B, hr20, hp21, ha22⟩ := hk19
 have hr := hr.keep hx12
 refine gX (gS (Yk.lenRG pk6_ty47 (RG.of hr T0) ?_))
 have hA28 := Ext.refl w11
 have hE := hE.trans hx12
 have hz30 := hE.size
 refine gS (Yk.makeG (enc := Lib.byteCells) w11.heap.size _ 32 pk6_ty47 pk6_ig38.choose_spec.1 rfl rfl (by omega) (by omega) (Nat.le_refl _) fun v24 w25 ho26 hx27 => ?_)
 have hE := hE.trans hx27
 have hA28 := hA28.trans hx27
 refine gL (fun (ρ : Slots) (wz : World) => ∃ va : Value, ∃ vb : Value, ∃ Al : List Bs, ∃ Bl : List Bs, ∃ Ol : List Bs, ∃ vo : Value, ρ 0 = (v : Value) ∧ ρ 1 = (.func (.func 57) #[] #[] : Value) ∧ ρ 4 = ((Value.slice none 0 0) : Value) ∧ ρ 5 = (va : Value) ∧ ρ 6 = (vb : Value) ∧ ρ 7 = (vo : Value) ∧ Ext w wz ∧ Ext w11 wz ∧ RG 32 Lib.byteCells w11 va Al ∧ RG 32 Lib.byteCells w11 vb Bl ∧ OG w11.heap.size 38 32 (Lib.byteCells) wz vo Ol ∧ (MI l Ol Al Bl) ∧ True) (fun ρ _ => sliceLen (ρ 5) + sliceLen (ρ 6)) ⟨v13, v18, A, B, [], v24, T0, T1, T4, T5, T6, rfl, hE, hA28, hr15, hr20, ho26, MI.start hp16 hp21 ha17 ha22, trivial⟩ ?_
 clear ho26
 clear hE
 rintro ρ32 w33 ⟨va, vb, Al, Bl, Ol, vo, T0, T1, T4, T5, T6, T7, hE, hA28, hfa, hfb, hfo, hMI, -⟩
 have q5 := T5
 have q6 := T6
 have qa := hfa.sliceLen
 have qb := hfb.sliceLen
 have hla := hMI.perm.length_eq
 simp only [List.length_append] at hla
 by_cases hga : 0 < Al.length
 ·by_cases hgb : 0 < Bl.length
  ·refine gS (Yk.lenRG pk6_ty47 (RG.of (hfa.keep hA28) T5) (gS (Yk.eqI (a := (Al.length : Nat)) (b := (0 : Nat)) rfl rfl (k_gtr _ _ _ _) (kT (hga) (gS (Yk.lenRG pk6_ty47 (RG.of (hfb.keep hA28) T6) (gS (Yk.eqI (a := (Bl.length : Nat)) (b := (0 : Nat)) rfl rfl (k_gtr _ _ _ _) (kT (hgb) (gS (Yk.pickT rfl rfl (cT rfl (gM0 [0, 1, 2, 3, 4, 5, 6, 7, 8] [7] [] fun w37 hx38 => ?_)))))))))))))
   have hA28 := hA28.trans hx38
   have hl41 : (Lib.byteCells (Al.getD (0) ([] : List UInt8))).length = 32 := (RG.elem (hfa.keep hA28) ([] : List UInt8) (by omega))
   refine yA (Yk.atRG pk6_ty47 pk6_szg38 (by decide) ([] : List UInt8) (RG.of (hfa.keep hA28) T5) rfl (by omega) fun v39 hp40 => (ys (Yk.loadPR (PR.of hp40 rfl) pk6_ty38 rfl (by rw [hl41]; exact pk6_isz38) zz) ?_))
   have hl44 : (Lib.byteCells (Bl.getD (0) ([] : List UInt8))).length = 32 := (RG.elem (hfb.keep hA28) ([] : List UInt8) (by omega))
   refine yA (Yk.atRG pk6_ty47 pk6_szg38 (by decide) ([] : List UInt8) (RG.of (hfb.keep hA28) T6) rfl (by omega) fun v42 hp43 => (ys (Yk.loadPR (PR.of hp43 rfl) pk6_ty38 rfl (by rw [hl44]; exact pk6_isz38) zz) (yC (Yk.clo pk6_pl57 (caps := #[]) T1 #[AB (Al.getD (0) ([] : List UInt8)), AB (Bl.getD (0) ([] : List UInt8))] (by simp only [List.map_toArray, List.map_cons, List.map_nil, List.append_toArray, List.cons_append, List.nil_append]; exact congrArg List.toArray (list2 rfl rfl)) ((compare_any _ (Al.getD (0) ([] : List UInt8)) (Bl.getD (0) ([] : List UInt8)) ((bytes_len32 (hl41))) ((bytes_len32 (hl44)))).mono ?_)))))
   rintro e w46 ⟨rfl, hx45⟩
   refine ⟨_, rfl, ?_⟩
   have hp40 := PR.keep hp40 hx45
   have hp43 := PR.keep hp43 hx45
   refine ys (Yk.eqI rfl rfl (z_leq _ .i64 (Lib.compareBytes (Al.getD (0) ([] : List UInt8)) (Bl.getD (0) ([] : List UInt8)) : Int) ((0 : Nat) : Int)) zz) ?_
   clear hp40
   clear hp43
   refine cD rfl (fun hc2 => ?_) fun hc2 => ?_
   ·refine gR ?_
    have hZ1 := hx38.trans hx45
    have hfo := hfo.keep hZ1
    have hlow47 : ∀ k, Value.ownBlock vo = some k → w11.heap.size ≤ k := fun k hk => (hfo.2.lt k hk).1
    have hA28 := hA28.trans hx45
    have hsz_ : w11.heap.size ≤ w46.heap.size := hA28.size
    refine wpF_draw_rowsX (Value.ownBlock vo) [5] [0] (fun m => if m = 5 then [0, 2, 4] else []) (fun m => if m = 5 then [0, 2, 4, 5, 8] else []) [fun x w' => RowG w11.heap.size w46.heap.size 38 32 (Lib.byteCells) (Value.ownBlock vo) (Ol) x w', Is (va), fun x w' => PR (Lib.byteCells (Al.getD (0) ([] : List UInt8))) x w', Is (AB (Al.getD (0) ([] : List UInt8))), fun x w' => RG 32 (Lib.byteCells) w' x ([(Al.getD (0) ([] : List UInt8))]), fun x w' => RowG w11.heap.size w46.heap.size 38 32 (Lib.byteCells) (Value.ownBlock vo) ((Ol) ++ [(Al.getD (0) ([] : List UInt8))]) x w', Is (va), fun x _ => RG 32 (Lib.byteCells) w11 x (Al.drop (1)), fun x w' => RowG w11.heap.size w46.heap.size 38 32 (Lib.byteCells) (Value.ownBlock vo) ((Ol) ++ [(Al.getD (0) ([] : List UInt8))]) x w', fun x _ => RG 32 (Lib.byteCells) w11 x (Al.drop (1))] (by kernel_rfl) [47, 48, 49, 50, 51, 52, 53, 54, 7, 5] (by kernel_rfl) (by kernel_rfl) (by kernel_rfl) (by kernel_rfl) (by kernel_rfl) rfl ⟨(fun _ _ _ h k => ⟨OG.keep h.1 k, h.2⟩), Stab.is _, (fun _ _ _ h k => PR.keep h k), Stab.is _, (fun _ _ _ h k => RG.keep h k), (fun _ _ _ h k => ⟨OG.keep h.1 k, h.2⟩), Stab.is _, (fun _ _ _ h _ => h), (fun _ _ _ h k => ⟨OG.keep h.1 k, h.2⟩), (fun _ _ _ h _ => h), trivial⟩ ⟨⟨.inl rfl, .inr (Stab.is _), .inl rfl, .inr (Stab.is _), .inl rfl, .inl rfl, .inr (Stab.is _), .inr ((fun _ _ _ h _ => h)), .inl rfl, .inr ((fun _ _ _ h _ => h)), trivial⟩, trivial⟩ ?hs2007 ?hQ2007
    case hs2007 =>
     refine ⟨?_, ?_, ?_, ?_, ?_, ?_, ?_, ?_, ?_, ?_, trivial⟩
     ·refine stepN rfl fun σ w1 hC h => ?_
      have hX : Ext w46 w1 := hC
      have hC : BX w46.heap.size (Value.ownBlock vo) w46 w1 := BX.ofExt hX (Nat.le_refl _)
      have e7 := (eqo (h 7 (by decide))).trans T7
      exact Yk.move e7 ⟨Ext.refl _, OG.keep hfo hX, fun k hk => .inl hk⟩
     ·refine stepN rfl fun σ w1 hC h => ?_
      have hC : BX w46.heap.size (Value.ownBlock vo) w46 w1 := hC
      have e5 := (eqo (h 5 (by decide))).trans T5
      exact Yk.move e5 ⟨Ext.refl _, rfl⟩
     ·refine stepN rfl fun σ w1 hC h => ?_
      have hC : BX w46.heap.size (Value.ownBlock vo) w46 w1 := hC
      have e48 := eqo (h 48 (by decide))
      exact Yk.atRG pk6_ty47 pk6_szg38 (by decide) ([] : List UInt8) (RG.of (hfa.keep (ext_bx hA28 hC (by omega) (fun k hk => by have := hlow47 k hk; omega))) e48) (vr (NI 0) rfl) (by omega) fun v h => ⟨Ext.refl _, h⟩
     ·refine stepN rfl fun σ w1 hC h => ?_
      have hC : BX w46.heap.size (Value.ownBlock vo) w46 w1 := hC
      have e49 : (fun x w' => PR (Lib.byteCells (Al.getD (0) ([] : List UInt8))) x w') (σ 49) w1 := h 49 (by decide)
      exact Yk.loadPR e49 pk6_ty38 rfl (by rw [RG.elem hfa ([] : List UInt8) (by omega)]; exact pk6_isz38) ⟨Ext.refl _, rfl⟩
     ·refine stepN rfl fun σ w1 hC h => ?_
      have hC : BX w46.heap.size (Value.ownBlock vo) w46 w1 := hC
      have e50 := eqo (h 50 (by decide))
      exact Yk.lit1G (a := (Al.getD (0) ([] : List UInt8))) (enc := Lib.byteCells) e50 (by rw [Lib.byteCells_length]; exact (bytes_len32 (RG.elem hfa ([] : List UInt8) (by omega)))) pk6_lg47 fun v w2 h hx => ⟨hx, h⟩
     ·refine stepN rfl fun σ w1 hC h => ?_
      have hC : BX w46.heap.size (Value.ownBlock vo) w46 w1 := hC
      have e47 : (fun x w' => RowG w11.heap.size w46.heap.size 38 32 (Lib.byteCells) (Value.ownBlock vo) (Ol) x w') (σ 47) w1 := h 47 (by decide)
      have e51 : (fun x w' => RG 32 (Lib.byteCells) w' x ([(Al.getD (0) ([] : List UInt8))])) (σ 51) w1 := h 51 (by decide)
      exact Yk.appendRG _ _ w11.heap.size _ 32 pk6_ty47 pk6_ig38.choose_spec.1 pk6_ig38.choose_spec.2 pk6_ty47 (Ol) ([(Al.getD (0) ([] : List UInt8))]) e47.1 e51 (fun _ _ => byteCells_one _) (by simp only [List.length_cons, List.length_nil]; omega) (by simp only [List.length_cons, List.length_nil]; omega) (Nat.le_trans hsz_ hC.size) fun v w2 ho hg => ⟨BX.ofGrown hg.by_ hC.size e47.2, ho, fun k hk => (hg.fresh k hk).elim (e47.2 k) (fun x => .inr (Nat.le_trans hC.size x))⟩
     ·refine stepN rfl fun σ w1 hC h => ?_
      have hC : BX w46.heap.size (Value.ownBlock vo) w46 w1 := hC
      have e5 := (eqo (h 5 (by decide))).trans T5
      exact Yk.move e5 ⟨Ext.refl _, rfl⟩
     ·refine stepN rfl fun σ w1 hC h => ?_
      have hC : BX w46.heap.size (Value.ownBlock vo) w46 w1 := hC
      have e53 := eqo (h 53 (by decide))
      exact Yk.sliceLoW pk6_ty47 pk6_szg38 e53 hfa (vr (NI 1) rfl) (by omega) fun v h _ => ⟨Ext.refl _, h⟩
     ·refine stepN rfl fun σ w1 hC h => ?_
      have hC : BX w46.heap.size (Value.ownBlock vo) w46 w1 := hC
      have e52 : (fun x w' => RowG w11.heap.size w46.heap.size 38 32 (Lib.byteCells) (Value.ownBlock vo) ((Ol) ++ [(Al.getD (0) ([] : List UInt8))]) x w') (σ 52) w1 := h 52 (by decide)
      exact Yk.assign rfl ⟨Ext.refl _, e52⟩
     ·refine stepN rfl fun σ w1 hC h => ?_
      have hC : BX w46.heap.size (Value.ownBlock vo) w46 w1 := hC
      have e54 : (fun x _ => RG 32 (Lib.byteCells) w11 x (Al.drop (1))) (σ 54) w1 := h 54 (by decide)
      exact Yk.assign rfl ⟨Ext.refl _, e54⟩
    intro ρ48 w49 hx50 he hf
    obtain ⟨-, -, -, -, -, -, -, -, k7, k5, -⟩ := hf
    obtain ⟨T0, T1, T4, T6, T37, -⟩ := he.hold [(0, _), (1, _), (4, _), (6, _), (37, .bool (true))] ⟨T0, T1, T4, T6, rfl, trivial⟩ rfl
    clear he
    have k7 : (fun x w' => RowG w11.heap.size w46.heap.size 38 32 (Lib.byteCells) (Value.ownBlock vo) ((Ol) ++ [(Al.getD (0) ([] : List UInt8))]) x w') (ρ48 7) w49 := k7
    obtain ⟨v51, T7⟩ : ∃ v, ρ48 7 = v := ⟨_, rfl⟩
    rw [T7] at k7
    have hg52 : Grew w46 w49 vo v51 := ⟨hx50.grown, k7.2⟩
    have ho53 := k7.1; clear k7
    have hE := hE.trans hZ1
    have hE := ext_grew hE hg52 hfo.2 hz30
    have hA28 := ext_grew hA28 hg52 hfo.2 (Nat.le_refl _)
    clear hfo
    have k5 : (fun x _ => RG 32 (Lib.byteCells) w11 x (Al.drop (1))) (ρ48 5) w49 := k5
    obtain ⟨v54, T5⟩ : ∃ v, ρ48 5 = v := ⟨_, rfl⟩
    rw [T5] at k5
    have hk55 := k5; clear k5
    refine gX (gK (And.intro ⟨v54, vb, Al.drop (1), Bl, (Ol) ++ [(Al.getD (0) ([] : List UInt8))], v51, T0, T1, T4, T5, T6, T7, hE, hA28, hk55, hfb, ho53, hMI.left (by omega) (by omega) hc2, trivial⟩ ?_))
    show sliceLen (ρ48 5) + sliceLen (ρ48 6) < sliceLen (ρ32 5) + sliceLen (ρ32 6)
    rw [T5, T6, q5, q6]
    have n5 := hk55.sliceLen
    have n6 := hfb.sliceLen
    try rw [n5]
    try rw [n6]
    try rw [qa]
    try rw [qb]
    simp only [List.length_drop]
    omega
   refine gR ?_
   have hZ2 := hx38.trans hx45
   have hfo := hfo.keep hZ2
   have hlow56 : ∀ k, Value.ownBlock vo = some k → w11.heap.size ≤ k := fun k hk => (hfo.2.lt k hk).1
   have hA28 := hA28.trans hx45
   have hsz_ : w11.heap.size ≤ w46.heap.size := hA28.size
   refine wpF_draw_rowsX (Value.ownBlock vo) [5] [0] (fun m => if m = 5 then [0, 2, 4] else []) (fun m => if m = 5 then [0, 2, 4, 5, 8] else []) [fun x w' => RowG w11.heap.size w46.heap.size 38 32 (Lib.byteCells) (Value.ownBlock vo) (Ol) x w', Is (vb), fun x w' => PR (Lib.byteCells (Bl.getD (0) ([] : List UInt8))) x w', Is (AB (Bl.getD (0) ([] : List UInt8))), fun x w' => RG 32 (Lib.byteCells) w' x ([(Bl.getD (0) ([] : List UInt8))]), fun x w' => RowG w11.heap.size w46.heap.size 38 32 (Lib.byteCells) (Value.ownBlock vo) ((Ol) ++ [(Bl.getD (0) ([] : List UInt8))]) x w', Is (vb), fun x _ => RG 32 (Lib.byteCells) w11 x (Bl.drop (1)), fun x w' => RowG w11.heap.size w46.heap.size 38 32 (Lib.byteCells) (Value.ownBlock vo) ((Ol) ++ [(Bl.getD (0) ([] : List UInt8))]) x w', fun x _ => RG 32 (Lib.byteCells) w11 x (Bl.drop (1))] (by kernel_rfl) [55, 56, 57, 58, 59, 60, 61, 62, 7, 6] (by kernel_rfl) (by kernel_rfl) (by kernel_rfl) (by kernel_rfl) (by kernel_rfl) rfl ⟨(fun _ _ _ h k => ⟨OG.keep h.1 k, h.2⟩), Stab.is _, (fun _ _ _ h k => PR.keep h k), Stab.is _, (fun _ _ _ h k => RG.keep h k), (fun _ _ _ h k => ⟨OG.keep h.1 k, h.2⟩), Stab.is _, (fun _ _ _ h _ => h), (fun _ _ _ h k => ⟨OG.keep h.1 k, h.2⟩), (fun _ _ _ h _ => h), trivial⟩ ⟨⟨.inl rfl, .inr (Stab.is _), .inl rfl, .inr (Stab.is _), .inl rfl, .inl rfl, .inr (Stab.is _), .inr ((fun _ _ _ h _ => h)), .inl rfl, .inr ((fun _ _ _ h _ => h)), trivial⟩, trivial⟩ ?hs3008 ?hQ3008
   case hs3008 =>
    refine ⟨?_, ?_, ?_, ?_, ?_, ?_, ?_, ?_, ?_, ?_, trivial⟩
    ·refine stepN rfl fun σ w1 hC h => ?_
     have hX : Ext w46 w1 := hC
     have hC : BX w46.heap.size (Value.ownBlock vo) w46 w1 := BX.ofExt hX (Nat.le_refl _)
     have e7 := (eqo (h 7 (by decide))).trans T7
     exact Yk.move e7 ⟨Ext.refl _, OG.keep hfo hX, fun k hk => .inl hk⟩
    ·refine stepN rfl fun σ w1 hC h => ?_
     have hC : BX w46.heap.size (Value.ownBlock vo) w46 w1 := hC
     have e6 := (eqo (h 6 (by decide))).trans T6
     exact Yk.move e6 ⟨Ext.refl _, rfl⟩
    ·refine stepN rfl fun σ w1 hC h => ?_
     have hC : BX w46.heap.size (Value.ownBlock vo) w46 w1 := hC
     have e56 := eqo (h 56 (by decide))
     exact Yk.atRG pk6_ty47 pk6_szg38 (by decide) ([] : List UInt8) (RG.of (hfb.keep (ext_bx hA28 hC (by omega) (fun k hk => by have := hlow56 k hk; omega))) e56) (vr (NI 0) rfl) (by omega) fun v h => ⟨Ext.refl _, h⟩
    ·refine stepN rfl fun σ w1 hC h => ?_
     have hC : BX w46.heap.size (Value.ownBlock vo) w46 w1 := hC
     have e57 : (fun x w' => PR (Lib.byteCells (Bl.getD (0) ([] : List UInt8))) x w') (σ 57) w1 := h 57 (by decide)
     exact Yk.loadPR e57 pk6_ty38 rfl (by rw [RG.elem hfb ([] : List UInt8) (by omega)]; exact pk6_isz38) ⟨Ext.refl _, rfl⟩
    ·refine stepN rfl fun σ w1 hC h => ?_
     have hC : BX w46.heap.size (Value.ownBlock vo) w46 w1 := hC
     have e58 := eqo (h 58 (by decide))
     exact Yk.lit1G (a := (Bl.getD (0) ([] : List UInt8))) (enc := Lib.byteCells) e58 (by rw [Lib.byteCells_length]; exact (bytes_len32 (RG.elem hfb ([] : List UInt8) (by omega)))) pk6_lg47 fun v w2 h hx => ⟨hx, h⟩
    ·refine stepN rfl fun σ w1 hC h => ?_
     have hC : BX w46.heap.size (Value.ownBlock vo) w46 w1 := hC
     have e55 : (fun x w' => RowG w11.heap.size w46.heap.size 38 32 (Lib.byteCells) (Value.ownBlock vo) (Ol) x w') (σ 55) w1 := h 55 (by decide)
     have e59 : (fun x w' => RG 32 (Lib.byteCells) w' x ([(Bl.getD (0) ([] : List UInt8))])) (σ 59) w1 := h 59 (by decide)
     exact Yk.appendRG _ _ w11.heap.size _ 32 pk6_ty47 pk6_ig38.choose_spec.1 pk6_ig38.choose_spec.2 pk6_ty47 (Ol) ([(Bl.getD (0) ([] : List UInt8))]) e55.1 e59 (fun _ _ => byteCells_one _) (by simp only [List.length_cons, List.length_nil]; omega) (by simp only [List.length_cons, List.length_nil]; omega) (Nat.le_trans hsz_ hC.size) fun v w2 ho hg => ⟨BX.ofGrown hg.by_ hC.size e55.2, ho, fun k hk => (hg.fresh k hk).elim (e55.2 k) (fun x => .inr (Nat.le_trans hC.size x))⟩
    ·refine stepN rfl fun σ w1 hC h => ?_
     have hC : BX w46.heap.size (Value.ownBlock vo) w46 w1 := hC
     have e6 := (eqo (h 6 (by decide))).trans T6
     exact Yk.move e6 ⟨Ext.refl _, rfl⟩
    ·refine stepN rfl fun σ w1 hC h => ?_
     have hC : BX w46.heap.size (Value.ownBlock vo) w46 w1 := hC
     have e61 := eqo (h 61 (by decide))
     exact Yk.sliceLoW pk6_ty47 pk6_szg38 e61 hfb (vr (NI 1) rfl) (by omega) fun v h _ => ⟨Ext.refl _, h⟩
    ·refine stepN rfl fun σ w1 hC h => ?_
     have hC : BX w46.heap.size (Value.ownBlock vo) w46 w1 := hC
     have e60 : (fun x w' => RowG w11.heap.size w46.heap.size 38 32 (Lib.byteCells) (Value.ownBlock vo) ((Ol) ++ [(Bl.getD (0) ([] : List UInt8))]) x w') (σ 60) w1 := h 60 (by decide)
     exact Yk.assign rfl ⟨Ext.refl _, e60⟩
    ·refine stepN rfl fun σ w1 hC h => ?_
     have hC : BX w46.heap.size (Value.ownBlock vo) w46 w1 := hC
     have e62 : (fun x _ => RG 32 (Lib.byteCells) w11 x (Bl.drop (1))) (σ 62) w1 := h 62 (by decide)
     exact Yk.assign rfl ⟨Ext.refl _, e62⟩
   intro ρ57 w58 hx59 he hf
   obtain ⟨-, -, -, -, -, -, -, -, k7, k6, -⟩ := hf
   obtain ⟨T0, T1, T4, T5, T37, -⟩ := he.hold [(0, _), (1, _), (4, _), (5, _), (37, .bool (true))] ⟨T0, T1, T4, T5, rfl, trivial⟩ rfl
   clear he
   have k7 : (fun x w' => RowG w11.heap.size w46.heap.size 38 32 (Lib.byteCells) (Value.ownBlock vo) ((Ol) ++ [(Bl.getD (0) ([] : List UInt8))]) x w') (ρ57 7) w58 := k7
   obtain ⟨v60, T7⟩ : ∃ v, ρ57 7 = v := ⟨_, rfl⟩
   rw [T7] at k7
   have hg61 : Grew w46 w58 vo v60 := ⟨hx59.grown, k7.2⟩
   have ho62 := k7.1; clear k7
   have hE := hE.trans hZ2
   have hE := ext_grew hE hg61 hfo.2 hz30
   have hA28 := ext_grew hA28 hg61 hfo.2 (Nat.le_refl _)
   clear hfo
   have k6 : (fun x _ => RG 32 (Lib.byteCells) w11 x (Bl.drop (1))) (ρ57 6) w58 := k6
   obtain ⟨v63, T6⟩ : ∃ v, ρ57 6 = v := ⟨_, rfl⟩
   rw [T6] at k6
   have hk64 := k6; clear k6
   refine gX (gK (And.intro ⟨va, v63, Al, Bl.drop (1), (Ol) ++ [(Bl.getD (0) ([] : List UInt8))], v60, T0, T1, T4, T5, T6, T7, hE, hA28, hfa, hk64, ho62, hMI.right (by omega) (by omega) hc2, trivial⟩ ?_))
   show sliceLen (ρ57 5) + sliceLen (ρ57 6) < sliceLen (ρ32 5) + sliceLen (ρ32 6)
   rw [T5, T6, q5, q6]
   have n5 := hfa.sliceLen
   have n6 := hk64.sliceLen
   try rw [n5]
   try rw [n6]
   try rw [qa]
   try rw [qb]
   simp only [List.length_drop]
   omega
  refine gS (Yk.lenRG pk6_ty47 (RG.of (hfa.keep hA28) T5) (gS (Yk.eqI (a := (Al.length : Nat)) (b := (0 : Nat)) rfl rfl (k_gtr _ _ _ _) (kT (hga) (gS (Yk.lenRG pk6_ty47 (RG.of (hfb.keep hA28) T6) (gS (Yk.eqI (a := (Bl.length : Nat)) (b := (0 : Nat)) rfl rfl (k_gtr _ _ _ _) (kF (hgb) (gS (Yk.pickT rfl rfl (cF rfl (gS (Yk.appendRG _ _ w11.heap.size _ 32 pk6_ty47 pk6_ig38.choose_spec.1 pk6_ig38.choose_spec.2 pk6_ty47 (Ol) (Al) (OG.of hfo T7) (RG.of (hfa.keep hA28) T5) (fun _ _ => byteCells_one _) (by omega) (by omega) hA28.size fun v68 w69 ho70 hg71 => ?_))))))))))))))
  have hg71 : Grew w33 w69 vo v68 := .eqv T7 hg71
  have hE := ext_grew hE hg71 hfo.2 hz30
  have hA28 := ext_grew hA28 hg71 hfo.2 (Nat.le_refl _)
  clear hfo
  refine gS (Yk.appendRG _ _ w11.heap.size _ 32 pk6_ty47 pk6_ig38.choose_spec.1 pk6_ig38.choose_spec.2 pk6_ty47 ((Ol) ++ Al) (Bl) (OG.of ho70 (vr v68 rfl)) (RG.of (hfb.keep hA28) T6) (fun _ _ => byteCells_one _) (by simp only [List.length_append]; omega) (by simp only [List.length_append]; omega) hA28.size fun v72 w73 ho74 hg75 => ?_)
  have hg75 : Grew w69 w73 v68 v72 := hg75
  have hE := ext_grew hE hg75 ho70.2 hz30
  have hA28 := ext_grew hA28 hg75 ho70.2 (Nat.le_refl _)
  clear ho70
  refine rt1 rfl (vr v72 rfl) ?_
  obtain ⟨hpm, hasc⟩ := hMI.done (by omega)
  exact ⟨_, _, rfl, OG.base ho74 (by omega), hpm, hasc, hE⟩
 refine gS (Yk.lenRG pk6_ty47 (RG.of (hfa.keep hA28) T5) (gS (Yk.eqI (a := (Al.length : Nat)) (b := (0 : Nat)) rfl rfl (k_gtr _ _ _ _) (kF (hga) (gS (Yk.pickF rfl rfl (cF rfl (gS (Yk.appendRG _ _ w11.heap.size _ 32 pk6_ty47 pk6_ig38.choose_spec.1 pk6_ig38.choose_spec.2 pk6_ty47 (Ol) (Al) (OG.of hfo T7) (RG.of (hfa.keep hA28) T5) (fun _ _ => byteCells_one _) (by omega) (by omega) hA28.size fun v79 w80 ho81 hg82 => ?_)))))))))
 have hg82 : Grew w33 w80 vo v79 := .eqv T7 hg82
 have hE := ext_grew hE hg82 hfo.2 hz30
 have hA28 := ext_grew hA28 hg82 hfo.2 (Nat.le_refl _)
 clear hfo
 refine gS (Yk.appendRG _ _ w11.heap.size _ 32 pk6_ty47 pk6_ig38.choose_spec.1 pk6_ig38.choose_spec.2 pk6_ty47 ((Ol) ++ Al) (Bl) (OG.of ho81 (vr v79 rfl)) (RG.of (hfb.keep hA28) T6) (fun _ _ => byteCells_one _) (by simp only [List.length_append]; omega) (by simp only [List.length_append]; omega) hA28.size fun v83 w84 ho85 hg86 => ?_)
 have hg86 : Grew w80 w84 v79 v83 := hg86
 have hE := ext_grew hE hg86 ho81.2 hz30
 have hA28 := ext_grew hA28 hg86 ho81.2 (Nat.le_refl _)
 clear ho81
 refine rt1 rfl (vr v83 rfl) ?_
 obtain ⟨hpm, hasc⟩ := hMI.done (by omega)
 exact ⟨_, _, rfl, OG.base ho85 (by omega), hpm, hasc, hE⟩

theorem merge_any : ∀ (n : Nat) (l : List Bs), l.length = n → l.length ≤ 1048576 → ∀ (w : World) (v : Value), RG 32 Lib.byteCells w v l → Calls Tryd.prog 56 #[v, .func (.func 57) #[] #[]] w fun e w' => ∃ v' m, e = .returned v' ∧ OG w.heap.size 38 32 Lib.byteCells w' v' m ∧ m.Perm l ∧ Asc m ∧ Ext w w' := by
 intro n
 induction n using Nat.strongRecOn with
 | _ n ih => exact fun l hn hlim w v hr => merge_step n (fun l' hl w v hr => ih l'.length hl l' rfl (by omega) w v hr) l hn hlim w v hr

theorem sort_any (w : World) (v : Value) (l : List Bs) (hlim : l.length ≤ 1048576) (hr : RG 32 Lib.byteCells w v l) :
  Calls Tryd.prog 28 #[v] w fun e w' => ∃ v', e = .returned v' ∧ OG w.heap.size 38 32 Lib.byteCells w' v' (sortB l) ∧ Ext w w' := by
 refine gG (args := [v]) Tryd.func28 rfl 5 rfl rfl ?_
 have hE := Ext.refl w
 refine gS (Yk.callA2 pk6_pl56 rfl rfl ((merge_any _ l rfl hlim _ v hr).mono ?_))
 rintro e w9 ⟨v3, m4, rfl, hr5, hp6, ha7, hx8⟩
 refine ⟨_, rfl, ?_⟩
 have hms := asc_sortB ha7 hp6
 subst hms
 refine rt1 rfl (vr v3 rfl) ?_
 have hE := hE.trans hx8
 exact ⟨_, rfl, hr5, hE⟩
open Go.RowKit
set_option maxHeartbeats 400000 in
theorem dnumber_any (w : World) (B : Nat) (v : Value) (l : List UInt8) (hown : w.ownsRow B 5 1 v l.length (Lib.byteCells l)) (hB : B ≤ w.heap.size) (n : Nat) (hn : n ≤ 9223372036854775807) (hl : l.length + 16 ≤ 140737488355328) :
    Calls Tryd.prog 52 #[v, .int .i64 n] w fun e w' => ∃ v', e = .returned v' ∧ w'.ownsRow B 5 1 v' (l ++ Lib.uvarint n).length (Lib.byteCells (l ++ Lib.uvarint n)) ∧ Grew w w' v v' := by
  obtain ⟨i0, hi, hz0, hz1, hz2⟩ := info_parts infoB
  have h9 := uvarint_len63 n (by omega)
  go_enter Tryd.func52, Tryd.ntmps52
  go_wp2_with fail
  refine (put_any w (.slice none 0 0) [] (RB.nil w) (by simp) n hn).mono ?_
  rintro e w1 ⟨v1, rfl, h1⟩
  have ho1 : w1.ownsRow B 5 1 v l.length (Lib.byteCells l) := Stab.own _ _ _ _ _ _ _ _ hown h1.ext
  have hs := h1.rb.src u22
  have hE := h1.ext
  rw [List.nil_append] at hs
  have hz := h1.ext.size
  go_wp2_with (at_builtin; refine wpList_append_src _ rfl _ _ 24 24 rfl B 5 i0 (.int .u8 0) 1 1 u22 hi hz0 hz1 hz2 rfl _ _ _ rfl ho1 v1 _ _ rfl hs ?c1 ?c2 ?c3 ?_)
  case c1 => unfold maxLen; omega
  case c2 => omega
  case c3 => omega
  intro v' w3 hown' hgrow
  go_wp2
  go_ret
  exact ⟨v', rfl, by rw [List.length_append, Lib.byteCells_append]; exact hown', Grew.after hE hgrow⟩
def lcp : List UInt8 → List UInt8 → Nat
  | a :: u, b :: z => if a = b then lcp u z + 1 else 0
  | _, _ => 0
theorem lcp_step {a b : List UInt8} {i : Nat} (h1 : i < a.length) (h2 : i < b.length) (h : a.getD i 0 = b.getD i 0) : lcp (a.drop i) (b.drop i) = lcp (a.drop (i + 1)) (b.drop (i + 1)) + 1 := by
  rw [List.drop_eq_getElem_cons h1, List.drop_eq_getElem_cons h2]
  rw [lcp, if_pos (by simpa [List.getD, h1, h2] using h)]
theorem lcp_ne {a b : List UInt8} {i : Nat} (h1 : i < a.length) (h2 : i < b.length) (h : a.getD i 0 ≠ b.getD i 0) : lcp (a.drop i) (b.drop i) = 0 := by
  rw [List.drop_eq_getElem_cons h1, List.drop_eq_getElem_cons h2]
  unfold lcp
  rw [if_neg (by simpa [List.getD, h1, h2] using h)]
theorem lcp_endA {a b : List UInt8} {i : Nat} (h : a.length ≤ i) : lcp (a.drop i) (b.drop i) = 0 := by
  rw [List.drop_of_length_le h]
  unfold lcp
  rfl
theorem lcp_endB {a b : List UInt8} {i : Nat} (h : b.length ≤ i) : lcp (a.drop i) (b.drop i) = 0 := by
  rw [List.drop_of_length_le h]
  cases a.drop i <;> rfl
theorem lcp_le : ∀ a b : List UInt8, lcp a b ≤ a.length ∧ lcp a b ≤ b.length
  | [], b => by simp [lcp]
  | a :: u, [] => by simp [lcp]
  | a :: u, b :: z => by
    unfold lcp
    have := lcp_le u z
    split <;> simp <;> omega
theorem getNo (w : World) (v : Value) (l : List UInt8) (hr : RB w v l) (a : Nat) (ha : a ≤ l.length) (h : lebDec 0 (l.drop a) = none) :
    Calls Tryd.prog 63 #[v, .int .i64 a] w fun e w' => e = .returned (.tuple #[.int .i64 0, .int .i64 0, .int .i64 6]) ∧ Ext w w' :=
  (get_in w v l hr a ha).mono fun e w' ⟨h1, h2⟩ => by
    rw [h] at h1
    exact ⟨h1, h2 ▸ Ext.refl w⟩
theorem getYes (w : World) (v : Value) (l : List UInt8) (hr : RB w v l) (a : Nat) (ha : a ≤ l.length) (x k : Nat) (h : lebDec 0 (l.drop a) = some (x, k)) :
    Calls Tryd.prog 63 #[v, .int .i64 a] w fun e w' => e = .returned (.tuple #[.int .i64 (x : Nat), .int .i64 ((a + k : Nat) : Int), .int .i64 0]) ∧ Ext w w' :=
  (get_in w v l hr a ha).mono fun e w' ⟨h1, h2⟩ => by
    rw [h] at h1
    exact ⟨h1, h2 ▸ Ext.refl w⟩
theorem lebDec_bound {l : List UInt8} {a x k : Nat} (ha : a ≤ l.length) (h : lebDec 0 (l.drop a) = some (x, k)) : x < 9223372036854775808 ∧ a + k ≤ l.length ∧ 1 ≤ k := by
  have h1 := lebDec_pos _ _ _ h
  have h2 := lebDec_lt _ _ _ h
  have h3 : k ≤ 9 := by have := h1.2.2; simp at this; omega
  have h4 : 128 ^ k ≤ 128 ^ 9 := Nat.pow_le_pow_right (by decide) h3
  have h5 := h1.2.1
  rw [List.length_drop] at h5
  exact ⟨Nat.lt_of_lt_of_le h2 h4, by omega, h1.1⟩
open Go.RowKit
set_option maxRecDepth 100000
theorem del2_ty24 : Tryd.prog.underlying 24 = some (.slice 5) := by kernel_rfl
theorem del2_sz5 : ∀ w' : World, (sizeOf 5).run Tryd.prog w' = .ok 1 w' := fun _ => by kernel_rfl
theorem del2_ty5 : Tryd.prog.underlying 5 = some (.int .u8) := by kernel_rfl
theorem common_any (w : World) (va vb : Value) (a b : List UInt8) (hra : RB w va a) (hrb : RB w vb b) (hal : a.length ≤ 4611686018427387904) :
  Calls Tryd.prog 55 #[va, vb] w fun e w' => e = .returned (NI (lcp a b)) ∧ Ext w w' := by
 refine gG (args := [va, vb]) Tryd.func55 rfl 30 rfl rfl ?_
 have hE := Ext.refl w
 refine gL (fun (ρ : Slots) (wz : World) => ∃ i : Nat, ρ 0 = (va : Value) ∧ ρ 1 = (vb : Value) ∧ ρ 4 = (NI 0 : Value) ∧ ρ 5 = (NI i : Value) ∧ Ext w wz ∧ (i ≤ a.length) ∧ (i ≤ b.length) ∧ (lcp a b = i + lcp (a.drop i) (b.drop i)) ∧ True) (fun ρ _ => a.length - (intOf (ρ 5)).toNat) ⟨0, rfl, rfl, rfl, rfl, hE, Nat.zero_le _, Nat.zero_le _, by simp, trivial⟩ ?_
 clear hE
 rintro ρ4 w5 ⟨i, T0, T1, T4, T5, hE, hia, hib, hlc, -⟩
 have q5 := T5
 by_cases h1 : i < a.length
 ·by_cases h2 : i < b.length
  ·by_cases h3 : a.getD i 0 = b.getD i 0
   ·refine gM0 [0, 1, 2, 3, 4, 5, 6, 7, 8, 9, 10, 11, 12, 13, 14, 15, 16, 17, 18, 19, 20] [] [] fun w8 hx9 => ?_
    have hE := hE.trans hx9
    refine ys (Yk.lenRB del2_ty24 (RB.of (hra.keep hE) T0) zz) (ys (Yk.eqI (a := (i : Nat)) (b := (a.length : Nat)) T5 rfl (k_lss _ _ _ _) zz) (kT (h1) (ys (Yk.lenRB del2_ty24 (RB.of (hrb.keep hE) T1) zz) (ys (Yk.eqI (a := (i : Nat)) (b := (b.length : Nat)) T5 rfl (k_lss _ _ _ _) zz) (kT (h2) (ys (Yk.pickT rfl rfl zz) (yA (Yk.atRB (l := a) (i := i) del2_ty24 del2_sz5 (RB.of (hra.keep hE) T0) T5 (h1) fun v10 hp11 => (ys (Yk.loadC del2_ty5 rfl (PCell.of hp11 rfl) zz) (yA (Yk.atRB (l := b) (i := i) del2_ty24 del2_sz5 (RB.of (hrb.keep hE) T1) T5 (h2) fun v12 hp13 => (ys (Yk.loadC del2_ty5 rfl (PCell.of hp13 rfl) zz) (ys (Yk.eqI (a := ((a.getD (i) 0).toNat : Nat)) (b := ((b.getD (i) 0).toNat : Nat)) rfl rfl (k_eql _ _ _ _) zz) (kT (congrArg UInt8.toNat h3) (ys (Yk.pickT rfl rfl zz) ?_)))))))))))))))
    clear hp11
    clear hp13
    refine cT rfl (gS (Yk.bin (xv := NI i) (yv := NI 1) T5 rfl rfl (i64_add _ _ _ (by omega)) (gK (And.intro ⟨i + 1, T0, T1, T4, rfl, hE, by omega, by omega, by rw [hlc, lcp_step h1 h2 h3]; omega, trivial⟩ ?_))))
    show a.length - (intOf (NI ((i) + (1)))).toNat < a.length - (intOf (ρ4 5)).toNat
    rw [q5]
    simp only [intOf, Int.toNat_natCast]; omega
   have hz0 := lcp_ne h1 h2 h3
   refine gM0 [0, 1, 2, 3, 4, 5, 6, 7, 8, 9, 10, 11, 12, 13, 14, 15, 16, 17, 18, 19, 20] [] [] fun w16 hx17 => ?_
   have hE := hE.trans hx17
   refine ys (Yk.lenRB del2_ty24 (RB.of (hra.keep hE) T0) zz) (ys (Yk.eqI (a := (i : Nat)) (b := (a.length : Nat)) T5 rfl (k_lss _ _ _ _) zz) (kT (h1) (ys (Yk.lenRB del2_ty24 (RB.of (hrb.keep hE) T1) zz) (ys (Yk.eqI (a := (i : Nat)) (b := (b.length : Nat)) T5 rfl (k_lss _ _ _ _) zz) (kT (h2) (ys (Yk.pickT rfl rfl zz) (yA (Yk.atRB (l := a) (i := i) del2_ty24 del2_sz5 (RB.of (hra.keep hE) T0) T5 (h1) fun v18 hp19 => (ys (Yk.loadC del2_ty5 rfl (PCell.of hp19 rfl) zz) (yA (Yk.atRB (l := b) (i := i) del2_ty24 del2_sz5 (RB.of (hrb.keep hE) T1) T5 (h2) fun v20 hp21 => (ys (Yk.loadC del2_ty5 rfl (PCell.of hp21 rfl) zz) (ys (Yk.eqI (a := ((a.getD (i) 0).toNat : Nat)) (b := ((b.getD (i) 0).toNat : Nat)) rfl rfl (k_eql _ _ _ _) zz) (kF (fun h => h3 (UInt8.toNat_inj.1 h)) (ys (Yk.pickT rfl rfl zz) ?_)))))))))))))))
   clear hp19
   clear hp21
   refine cF rfl (rt1 rfl T5 ?_)
   rw [hlc, hz0]
   exact ⟨rfl, hE⟩
  have hz0 := lcp_endB (a := a) (i := i) (b := b) (by omega)
  refine gM0 [0, 1, 2, 3, 4, 5, 6, 7, 8, 9, 10, 11, 12, 13, 14, 15, 16, 17, 18, 19, 20] [] [] fun w25 hx26 => ?_
  have hE := hE.trans hx26
  refine ys (Yk.lenRB del2_ty24 (RB.of (hra.keep hE) T0) zz) (ys (Yk.eqI (a := (i : Nat)) (b := (a.length : Nat)) T5 rfl (k_lss _ _ _ _) zz) (kT (h1) (ys (Yk.lenRB del2_ty24 (RB.of (hrb.keep hE) T1) zz) (ys (Yk.eqI (a := (i : Nat)) (b := (b.length : Nat)) T5 rfl (k_lss _ _ _ _) zz) (kF (by omega) (ys (Yk.pickT rfl rfl zz) (ys (Yk.pickF rfl rfl zz) (cF rfl (rt1 rfl T5 ?_)))))))))
  rw [hlc, hz0]
  exact ⟨rfl, hE⟩
 have hz0 := lcp_endA (a := a) (i := i) (b := b) (by omega)
 refine gM0 [0, 1, 2, 3, 4, 5, 6, 7, 8, 9, 10, 11, 12, 13, 14, 15, 16, 17, 18, 19, 20] [] [] fun w30 hx31 => ?_
 have hE := hE.trans hx31
 refine ys (Yk.lenRB del2_ty24 (RB.of (hra.keep hE) T0) zz) (ys (Yk.eqI (a := (i : Nat)) (b := (a.length : Nat)) T5 rfl (k_lss _ _ _ _) zz) (kF (by omega) (ys (Yk.pickF rfl rfl zz) (ys (Yk.pickF rfl rfl zz) (cF rfl (rt1 rfl T5 ?_))))))
 rw [hlc, hz0]
 exact ⟨rfl, hE⟩
end Go.Proofs.YtcegdjpdnlaleaaDoor
