/- Part 1 of what stands behind closePackBack.card: laws and walks of the functions that are reached. Conditions: those that each theorem names. -/
import Derived.Test.YtcegdjpdnlaleaaDoorSQ6
set_option linter.unusedVariables false
namespace Go.Proofs.YtcegdjpdnlaleaaDoor
open Go.RowKit
def qOf : Except Nat PackV → Option PackV
  | .ok p => some p
  | .error _ => none
def eOf : Except Nat PackV → Nat
  | .ok _ => 0
  | .error e => e
theorem OpenRes.q {w : World} {v : Value} {r : Except Nat PackV} {c : Nat} (h : OpenRes w v r c) : PackO w v (qOf r) ∧ c = eOf r := by
  cases r with
  | ok p => exact ⟨h.2, h.1⟩
  | error e => exact ⟨h.2, h.1⟩
theorem objStep_e {E : Bs → Ent} {id : Bs} {s : ObS} {e : Nat} (h : objStep E id s = .error e) : e = 17 ∨ e = 6 ∨ e = 18 ∨ e = 2 := by
  unfold objStep at h
  split at h
  · cases h; exact .inl rfl
  · split at h
    · cases h; exact .inr (.inl rfl)
    · split at h
      · split at h
        · cases h
        · cases h; exact .inr (.inr (.inr rfl))
      · cases h; exact .inr (.inr (.inl rfl))
theorem objGo_e {E : Bs → Ent} {ids : List Bs} : ∀ {n e : Nat}, objGo E ids n = .error e → e = 17 ∨ e = 6 ∨ e = 18 ∨ e = 2
  | 0, e, h => by cases h
  | n + 1, e, h => by
    cases h1 : objGo E ids n with
    | error e1 => rw [objGo_err h1 1] at h; cases h; exact objGo_e h1
    | ok s => rw [objGo_step h1] at h; exact objStep_e h
theorem readP_e {b : Bs} {e : Nat} (h : readP b = .error e) : e = 17 ∨ e = 6 ∨ e = 18 ∨ e = 2 := by
  unfold readP at h
  split at h
  · cases h; exact .inr (.inl rfl)
  · unfold readA at h
    split at h
    · split at h
      · unfold readB at h
        split at h
        · cases h; exact .inr (.inl rfl)
        · unfold readC at h
          split at h
          · cases h; exact .inr (.inl rfl)
          · unfold readD at h
            split at h
            · split at h
              · unfold readE at h
                split at h
                · cases h; exact objGo_e ‹_›
                · cases h
              · cases h; exact .inr (.inl rfl)
            · cases h; exact .inr (.inl rfl)
      · cases h; exact .inr (.inl rfl)
    · cases h; exact .inr (.inl rfl)
theorem openP_e {b : Bs} {e : Nat} (h : openP b = .error e) : e ≠ 0 := by
  unfold openP at h
  split at h
  · cases h; decide
  · split at h
    · cases h; decide
    · split at h
      · have := readP_e h; omega
      · cases h; decide
theorem eOf_zero {b : Bs} : eOf (openP b) = 0 ↔ (qOf (openP b)).isSome = true := by
  cases h : openP b with
  | ok p => simp [eOf, qOf]
  | error e => simp [eOf, qOf, openP_e h]
structure ObGood (ids : List Bs) (o : ObS) : Prop where
  all : ∀ id ∈ ids, ∃ x d, o.O id = some (x, d) ∧ Sha.sum x = id ∧ x.length ≤ o.total
  any : ∀ id x, o.O id = some x → Sha.sum x.1 = id ∧ x.1.length ≤ o.total ∧ id ∈ ids
  total : o.total ≤ 4194304
theorem objGo_good {E : Bs → Ent} {ids : List Bs} : ∀ {n : Nat} {o : ObS}, n ≤ ids.length → objGo E ids n = .ok o → ObGood (ids.take n) o
  | 0, o, _, h => by
    cases h
    exact ⟨(fun id hid => by simp at hid), (fun id x hx => by cases hx), Nat.zero_le _⟩
  | n + 1, o, hn, h => by
    cases h1 : objGo E ids n with
    | error e1 => rw [objGo_err h1 1] at h; cases h
    | ok s =>
      have ih := objGo_good (by omega) h1
      rw [objGo_step h1] at h
      have ht : ids.take (n + 1) = ids.take n ++ [ids.getD n []] := by
        rw [List.take_succ_eq_append_getElem (by omega), List.getD_eq_getElem?_getD, List.getElem?_eq_getElem (show n < ids.length by omega)]; rfl
      cases hd : depthGo E 50 (E (ids.getD n [])) with
      | none => rw [objStep_17 hd] at h; cases h
      | some d =>
        cases hc : chainGo E (d + 1) (ids.getD n []) with
        | none => rw [objStep_6 hd hc] at h; cases h
        | some x =>
          rw [objStep_eq (b := x.1) (k := x.2) hd hc] at h
          split at h
          · split at h
            · cases h
              rename_i hs hle
              refine ⟨fun id hid => ?_, fun id y hy => ?_, hle⟩
              · rw [ht] at hid
                by_cases e : id = ids.getD n []
                · exact ⟨x.1, d, by show updM s.O _ _ id = _; unfold updM; rw [if_pos e], by rw [e]; exact hs, by dsimp only; omega⟩
                · obtain ⟨y, d', k1, k2, k3⟩ := ih.all id (by
                    rcases List.mem_append.1 hid with q | q
                    · exact q
                    · exact absurd (List.mem_singleton.1 q) e)
                  exact ⟨y, d', by show updM s.O _ _ id = _; unfold updM; rw [if_neg e]; exact k1, k2, by dsimp only; omega⟩
              · have hy' : updM s.O (ids.getD n []) (some (x.1, d)) id = some y := hy
                unfold updM at hy'
                rw [ht]
                split at hy'
                · cases hy'
                  rename_i e
                  exact ⟨by rw [e]; exact hs, by dsimp only; omega, by rw [e]; simp⟩
                · obtain ⟨k1, k2, k3⟩ := ih.any id y hy'
                  exact ⟨k1, by dsimp only; omega, by simp [k3]⟩
            · cases h
          · cases h
structure PackGood (b : Bs) (p : PackV) : Prop where
  len : p.1.length ≤ b.length
  l32 : ∀ id ∈ p.1, id.length = 32
  all : ∀ id ∈ p.1, ∃ x d, p.2 id = some (x, d) ∧ Sha.sum x = id ∧ x.length ≤ 4194304
  any : ∀ id x, p.2 id = some x → Sha.sum x.1 = id ∧ x.1.length ≤ 4194304 ∧ id ∈ p.1
theorem readP_good {b : Bs} {p : PackV} (h36 : 36 ≤ b.length) (h : readP b = .ok p) : PackGood b p := by
  unfold readP at h
  split at h
  · cases h
  · rename_i x hx
    unfold readA at h
    split at h
    · rename_i hc
      split at h
      · rename_i hn
        unfold readB at h
        split at h
        · cases h
        · rename_i es hes
          have hel := entriesP_len hes (by omega)
          unfold readC at h
          split at h
          · cases h
          · rename_i s hs
            have hi := ixGo_ok _ _ hs
            unfold readD at h
            split at h
            · split at h
              · unfold readE at h
                split at h
                · cases h
                · rename_i o ho
                  cases h
                  have hg := objGo_good (Nat.le_refl _) ho
                  rw [List.take_length] at hg
                  refine ⟨?_, fun id hid => ?_, fun id hid => ?_, fun id y hy => ?_⟩
                  · show s.ids.length ≤ _
                    rw [hi.len, hel.1]; omega
                  · obtain ⟨j, hj, rfl⟩ := hi.ids id hid
                    refine rowId_len (n := x.1) ?_ (by rw [hel.1] at hj; exact hj)
                    rw [List.length_take, List.length_drop]
                    omega
                  · obtain ⟨y, d, k1, k2, k3⟩ := hg.all id hid
                    exact ⟨y, d, k1, k2, Nat.le_trans k3 hg.total⟩
                  · obtain ⟨k1, k2, k3⟩ := hg.any id y hy
                    exact ⟨k1, Nat.le_trans k2 hg.total, k3⟩
              · cases h
            · cases h
      · cases h
    · cases h
theorem openP_good {b : Bs} {p : PackV} (h : openP b = .ok p) : PackGood b p := by
  unfold openP at h
  split at h
  · cases h
  · split at h
    · cases h
    · split at h
      · exact readP_good (by omega) h
      · cases h
theorem open_ids (b : Bs) : (idsQ (qOf (openP b))).length ≤ b.length ∧ (∀ id ∈ idsQ (qOf (openP b)), id.length = 32 ∧ (getQ (qOf (openP b)) id).2 = 0 ∧ Sha.sum (getQ (qOf (openP b)) id).1.1 = id) := by
  cases h : openP b with
  | error e => exact ⟨Nat.zero_le _, (fun id hid => by cases hid)⟩
  | ok p =>
    have g := openP_good h
    refine ⟨g.len, fun id hid => ⟨g.l32 id hid, ?_⟩⟩
    obtain ⟨x, d, h1, h2, h3⟩ := g.all id hid
    have e : getQ (qOf (.ok p)) id = ((x, d), 0) := by show (match p.2 id with | none => _ | some x => _) = _; rw [h1]
    rw [e]
    exact ⟨rfl, h2⟩
theorem open_get (b : Bs) (id : Bs) : (getQ (qOf (openP b)) id).1.1.length ≤ 4194304 := by
  cases h : openP b with
  | error e => exact Nat.zero_le _
  | ok p =>
    have g := openP_good h
    show (match p.2 id with | none => (([], 0), 12) | some x => (x, 0)).1.1.length ≤ 4194304
    cases h1 : p.2 id with
    | none => exact Nat.zero_le _
    | some x => exact (g.any id x h1).2.1
open Go.RowKit
def ptD (p : Pt) : Bs × Int := (p.bytes, p.base)
theorem ptD_get {ps qs : List Pt} (h : qs.map ptD = ps.map ptD) (i : Nat) : (qs.getD i dPt).bytes = (ps.getD i dPt).bytes ∧ (qs.getD i dPt).base = (ps.getD i dPt).base := by
  have h1 : (qs.map ptD)[i]? = (ps.map ptD)[i]? := by rw [h]
  rw [List.getElem?_map, List.getElem?_map] at h1
  rw [List.getD_eq_getElem?_getD, List.getD_eq_getElem?_getD]
  cases ha : qs[i]? <;> cases hb : ps[i]? <;> rw [ha, hb] at h1
  · exact ⟨rfl, rfl⟩
  · cases h1
  · cases h1
  · injection h1 with h1
    exact ⟨congrArg Prod.fst h1, congrArg Prod.snd h1⟩
theorem ptD_len {ps qs : List Pt} (h : qs.map ptD = ps.map ptD) : qs.length = ps.length := by simpa using congrArg List.length h
theorem bgo_congr {ps qs : List Pt} (h : qs.map ptD = ps.map ptD) : ∀ i, bgo qs i = bgo ps i
  | 0 => by unfold bgo; rw [ptD_len h]
  | i + 1 => by
    have ih := bgo_congr h i
    have hi := ptD_get h i
    cases hb : bgo ps i with
    | error e => rw [bgo_err hb 1, bgo_err (ih.trans hb) 1]
    | ok s =>
      rw [bgo_step hb, bgo_step (ih.trans hb)]
      have hd : depthB (qs.getD i dPt) s = depthB (ps.getD i dPt) s := by unfold depthB; rw [hi.2]
      have hn : bnext qs (qs.getD i dPt) s = bnext ps (ps.getD i dPt) s := by
        unfold bnext
        rw [hd, hi.1, hi.2, (ptD_get h (ps.getD i dPt).base.toNat).1]
      unfold pstep
      rw [hi.1, hi.2, hd, hn]
theorem buildP_congr {ps qs : List Pt} (h : qs.map ptD = ps.map ptD) : buildP qs = buildP ps := by
  unfold buildP
  rw [ptD_len h, bgo_congr h]
theorem light_congr {ps qs : List Pt} (h : qs.map ptD = ps.map ptD) (hL : LightP ps) : LightP qs := by
  refine ⟨by rw [ptD_len h]; exact hL.1, fun p hp => ?_⟩
  obtain ⟨i, hi, rfl⟩ := List.getElem_of_mem hp
  have h1 := (ptD_get h i).1
  rw [List.getD_eq_getElem?_getD, List.getElem?_eq_getElem hi] at h1
  have h2 := hL.2 _ (getD_mem dPt (l := ps) (i := i) (by rw [← ptD_len h]; exact hi))
  have h3 : (qs[i]).bytes = (ps.getD i dPt).bytes := h1
  rw [h3]
  exact h2
theorem build_told (w : World) (hG : Laid w) (v : Value) (ps qs : List Pt) (hr : RG 2 partC w v qs) (hps : PartsOk w qs) (hq : qs.map ptD = ps.map ptD) (hL : LightP ps) :
    Calls Tryd.prog 11 #[v] w fun e w' => ∃ v', e = .returned (.tuple #[v', NI (buildP ps).2]) ∧ RB w' v' (buildP ps).1 ∧ Ext w w' := by
  have h := build_any w hG v qs hr hps (light_congr hq hL)
  rw [buildP_congr hq] at h
  exact h
def PartsIn (w : World) (va : Value) (qs : List Pt) : Prop := ∀ x ∈ qs, RB w x.v x.bytes ∧ (-9223372036854775808 ≤ x.base ∧ x.base ≤ 9223372036854775807) ∧ ∀ k, x.v.ownBlock = some k → k < w.heap.size ∧ va.ownBlock ≠ some k
theorem PartsIn.keep {w w' : World} {va : Value} {qs : List Pt} (h : PartsIn w va qs) (k : Ext w w') : PartsIn w' va qs := fun x hx =>
  ⟨(h x hx).1.keep k, (h x hx).2.1, fun j hj => ⟨Nat.lt_of_lt_of_le ((h x hx).2.2 j hj).1 k.size, ((h x hx).2.2 j hj).2⟩⟩
theorem PartsIn.nil (w : World) (va : Value) : PartsIn w va [] := fun x hx => by cases hx
theorem PartsIn.snoc {w : World} {va : Value} {qs : List Pt} (h : PartsIn w va qs) {x : Pt} (h1 : RB w x.v x.bytes) (h2 : -9223372036854775808 ≤ x.base ∧ x.base ≤ 9223372036854775807) (h3 : ∀ k, x.v.ownBlock = some k → k < w.heap.size ∧ va.ownBlock ≠ some k) : PartsIn w va (qs ++ [x]) := fun y hy => by
  rcases List.mem_append.1 hy with hy | hy
  · exact h y hy
  · rw [List.mem_singleton.1 hy]; exact ⟨h1, h2, h3⟩
theorem PartsIn.grew {w w' : World} {va va' : Value} {qs : List Pt} (h : PartsIn w va qs) (g : Grew w w' va va') : PartsIn w' va' qs := fun x hx =>
  ⟨rb_grewX (h x hx).1 (fun k hk => ((h x hx).2.2 k hk).2) g, (h x hx).2.1, fun j hj => ⟨Nat.lt_of_lt_of_le ((h x hx).2.2 j hj).1 g.by_.size, fun e => (g.fresh j e).elim (fun q => ((h x hx).2.2 j hj).2 q) (fun q => by have := ((h x hx).2.2 j hj).1; omega)⟩⟩
theorem PartsIn.ok {w : World} {va : Value} {qs : List Pt} (h : PartsIn w va qs) : PartsOk w qs := fun x hx => ⟨(h x hx).1, (h x hx).2.1⟩
def NewR (w0 : World) (B : Bs) (x : Value) (w : World) : Prop := RB w x B ∧ ∀ k, x.ownBlock = some k → w0.heap.size ≤ k ∧ k < w.heap.size
def NewP (w0 : World) (B : Bs) (z : Int) (x : Value) (w : World) : Prop := ∃ v, x = .agg (partC ⟨v, B, z⟩).toArray ∧ NewR w0 B v w
def NewPs (w0 : World) (B : Bs) (z : Int) (x : Value) (w : World) : Prop := ∃ v, RG 2 partC w x [⟨v, B, z⟩] ∧ NewR w0 B v w
theorem NewR.keep {w0 w w' : World} {B : Bs} {x : Value} (h : NewR w0 B x w) (k : Ext w w') : NewR w0 B x w' := ⟨h.1.keep k, fun j hj => ⟨(h.2 j hj).1, Nat.lt_of_lt_of_le (h.2 j hj).2 k.size⟩⟩
theorem NewP.keep {w0 w w' : World} {B : Bs} {z : Int} {x : Value} (h : NewP w0 B z x w) (k : Ext w w') : NewP w0 B z x w' := by
  obtain ⟨v, h1, h2⟩ := h
  exact ⟨v, h1, h2.keep k⟩
theorem NewPs.keep {w0 w w' : World} {B : Bs} {z : Int} {x : Value} (h : NewPs w0 B z x w) (k : Ext w w') : NewPs w0 B z x w' := by
  obtain ⟨v, h1, h2⟩ := h
  exact ⟨v, h1.keep k, h2.keep k⟩
theorem NewR.of {e : TypeId} {w0 w1 w2 : World} {B : Bs} {v : Value} (h : NewB e w1 w2 v B) (k : Ext w0 w1) : NewR w0 B v w2 := ⟨h.rb, fun j hj => ⟨Nat.le_trans k.size (h.own.lt j hj).1, (h.own.lt j hj).2⟩⟩
theorem part_snoc (ps : List Pt) {i : Nat} (h : i < ps.length) (v : Value) : (ps.take i).map ptD ++ [ptD ⟨v, (ps.getD i dPt).bytes, (ps.getD i dPt).base⟩] = (ps.take (i + 1)).map ptD := by
  rw [List.take_succ_eq_append_getElem h, List.map_append]
  rw [List.getD_eq_getElem?_getD, List.getElem?_eq_getElem h]
  rfl
section
variable {P : Program} {K : Value → World → Prop} {ρ : Slots} {w : World} {d : Option Tmp} {ty : TypeId} {pos : String} {af : Array Edge} {gd : Option (Nat × Bool)}
theorem Yk.neBool {a b : Bool} {t ty2 : TypeId} (ht : P.underlying t = some .bool) {x y : Operand} (hx : evalR ρ x = .bool a) (hy : evalR ρ y = .bool b) (hk : K (.bool (a != b)) w) : Yk P K ((execOp (evalR ρ) ⟨d, .binOp .neq t x y ty2, ty, pos, af, gd⟩).run P w) := by
  refine Yk.value (v := .bool (a != b)) (w' := w) ?_ hk
  unfold execOp
  simp only [hx, hy]
  have he : (Op.equal t (.bool a) (.bool b)).run P w = .ok (a == b) w := by
    unfold Op.equal
    rw [show Op.maxDepth = (Op.maxDepth - 1) + 1 from rfl]
    simp [Op.equalIn, run_underlying ht, Sem.run_bind, Sem.run_pure]
  cases a <;> cases b <;> simp [eqGuard, Go.binOp, he]
end
theorem back_get {ps : List Pt} (hL : LightP ps) {s : BS} (h : bgo ps ps.length = .ok s) {j : Nat} (hj : j < ps.length) :
    getQ (some (sortB s.ids, objB ps s)) (Sha.sum (ps.getD j dPt).bytes) = (((ps.getD j dPt).bytes, s.depths.getD j 0), 0) ∧ s.depths.getD j 0 ≤ 50 ∧ ((ps.getD j dPt).base < 0 → s.depths.getD j 0 = 0) ∧ (¬ (ps.getD j dPt).base < 0 → s.depths.getD j 0 ≠ 0) := by
  obtain ⟨es, I⟩ := bgo_inv hL ps.length s (Nat.le_refl _) h
  refine ⟨?_, I.ok.dp _ (getD_mem 0 (l := s.depths) (i := j) (by rw [I.ok.depths]; exact hj)), fun hb => (I.flat j hj hb).2.2, fun hb => ?_⟩
  · show (match objB ps s (Sha.sum (ps.getD j dPt).bytes) with | none => _ | some x => _) = _
    rw [I.sum (Nat.le_refl _) hj, I.obj hL rfl hj]
  · have := (I.upon j hj hb).2.2.2.2
    omega
theorem back_len {ps : List Pt} (hL : LightP ps) {s : BS} (h : bgo ps ps.length = .ok s) : lenQ (some (sortB s.ids, objB ps s)) = ps.length := by
  show (sortB s.ids).length = _
  rw [sortB_len, (bgo_ok hL _ _ (Nat.le_refl _) h).ids]
theorem pstep_e {ps : List Pt} {i e : Nat} {s : BS} (h : pstep ps i s = .error e) : e ≠ 0 := by
  unfold pstep at h
  split at h
  · cases h; decide
  · split at h
    · cases h; decide
    · split at h
      · cases h; decide
      · cases h
theorem bgo_e {ps : List Pt} : ∀ {i e : Nat}, bgo ps i = .error e → e ≠ 0
  | 0, e, h => by cases h
  | i + 1, e, h => by
    cases hb : bgo ps i with
    | error e1 => rw [bgo_err hb 1] at h; cases h; exact bgo_e hb
    | ok s => rw [bgo_step hb] at h; exact pstep_e h
theorem build_no {ps : List Pt} {e : Nat} (h : bgo ps ps.length = .error e) : buildP ps = ([], e) := by unfold buildP; rw [h]
theorem build_yes {ps : List Pt} {s : BS} (h : bgo ps ps.length = .ok s) : (buildP ps).2 = 0 := by unfold buildP; rw [h]
open Go.RowKit
set_option maxRecDepth 100000
theorem pk26_ty22 : Tryd.prog.underlying 22 = some (.slice 41) := by kernel_rfl
theorem pk26_szg41 : ∀ w' : World, (sizeOf 41).run Tryd.prog w' = .ok 2 w' := fun _ => by kernel_rfl
theorem pk26_fo41_0 : FieldOff Tryd.prog 41 0 0 := fun b o w => by simp [go_sem]
theorem pk26_ty24 : Tryd.prog.underlying 24 = some (.slice 5) := by kernel_rfl
theorem pk26_pl29 : Plain Tryd.prog 29 := fun _ _ => by kernel_rfl
theorem pk26_fo41_1 : FieldOff Tryd.prog 41 1 1 := fun b o w => by simp [go_sem]
theorem pk26_ty3 : Tryd.prog.underlying 3 = some (.int .i64) := by kernel_rfl
theorem pk26_bdP {v : Value} (h : ∃ ao n c, v = .slice ao n c) (z : Int) (w : World) : (Instr.build 55 #[(0, v), (1, .int .i64 z)]).run Tryd.prog w = .ok (.agg ([v, .int .i64 z] : List Value).toArray) w := by obtain ⟨_, _, _, rfl⟩ := h; kernel_rfl
theorem pk26_lh28 (c0 c1 : Value) (w : World) : (Instr.buildSlice 28 1 #[(0, .agg #[c0, c1])]).run Tryd.prog w = .ok (.slice (some ⟨w.heap.size, 0, none⟩) 1 1) (w.alloc (.cells #[c0, c1] 55)) := by kernel_rfl
theorem pk26_lg28 : ∀ (cs : Array Value), cs.size = 2 → ∀ w : World, (Instr.buildSlice 28 1 #[(0, .agg cs)]).run Tryd.prog w = .ok (.slice (some ⟨w.heap.size, 0, none⟩) 1 1) (w.alloc (.cells cs 55))
 | ⟨[c0, c1]⟩, _, w => pk26_lh28 c0 c1 w
theorem pk26_ig55 : ∃ z, (Tryd.prog.info? 55).map (fun i => (i.zero, i.size, i.bytes)) = some (some z, 2, 32) ∧ z.cells.size = 2 := info_ex (by kernel_rfl)
theorem pk26_ty28 : Tryd.prog.underlying 28 = some (.slice 55) := by kernel_rfl
theorem pk26_pl10 : Plain Tryd.prog 10 := fun _ _ => by kernel_rfl
theorem pk26_pl12 : Plain Tryd.prog 12 := fun _ _ => by kernel_rfl
theorem pk26_pl11 : Plain Tryd.prog 11 := fun _ _ => by kernel_rfl
theorem pk26_pl14 : Plain Tryd.prog 14 := fun _ _ => by kernel_rfl
theorem pk26_pl15 : Plain Tryd.prog 15 := fun _ _ => by kernel_rfl
theorem pk26_pl16 : Plain Tryd.prog 16 := fun _ _ => by kernel_rfl
theorem pk26_rows1_75 (ao : Option Addr) (n c : Nat) (w : World) : (Instr.buildSlice 75 1 #[(0, .slice ao n c)]).run Tryd.prog w = .ok (.slice (some ⟨w.heap.size, 0, none⟩) 1 1) (w.alloc (.cells #[.slice ao n c] 24)) := by kernel_rfl
theorem pk26_pl17 : Plain Tryd.prog 17 := fun _ _ => by kernel_rfl
theorem pk26_al38 {d : Option Tmp} {ty : TypeId} {pos : String} {af : Array Edge} {gd : Option (Nat × Bool)} (σ : Operand → Value) (w : World) : (execOp σ ⟨d, .alloc 38, ty, pos, af, gd⟩).run Tryd.prog w = .ok (.value (PQ w.heap.size 0)) (w.alloc (.cells (Lib.byteCells (List.replicate 32 0)).toArray 38)) := by kernel_rfl
theorem pk26_ty38 : Tryd.prog.underlying 38 = some (.array 32 5) := by kernel_rfl
theorem pk26_pl18 : Plain Tryd.prog 18 := fun _ _ => by kernel_rfl
theorem pk26_pl19 : Plain Tryd.prog 19 := fun _ _ => by kernel_rfl
theorem pk26_ty5 : Tryd.prog.underlying 5 = some (.int .u8) := by kernel_rfl
theorem pk26_ty9 : Tryd.prog.underlying 9 = some (.string) := by kernel_rfl
theorem pk26_ty4 : Tryd.prog.underlying 4 = some (.bool) := by kernel_rfl
set_option maxHeartbeats 1600000
theorem told_any (w : World) (v : Value) (ps : List Pt) (hr : RG 2 partC w v ps) (hps : PartsOk w ps) (hL : LightP ps) :
  Calls Tryd.prog 12 #[v] w fun e w' => ∃ v' qs, e = .returned v' ∧ RG 2 partC w' v' qs ∧ PartsOk w' qs ∧ qs.map ptD = ps.map ptD ∧ Ext w w' := by
 refine calls_of_wpF (args := [v]) Tryd.func12 rfl 27 rfl (Nat.le_of_ble_eq_true rfl) ?_
 intro ρ0 hb
 have T0 : ρ0 0 = (v : Value) := hb.get 0
 clear hb
 have hE := Ext.refl w
 refine sk fun K1 hK1 => (wt (oA rfl (oZ (tN (hK1 _ _ (sk fun K2 hK2 => (wt (oA rfl (oZ ?_)))))))))
 have hrow0 : OG w.heap.size 55 2 partC w (Value.slice none 0 0) ([] : List Pt) := OG.nil _ _ _ _ _
 refine tN (hK2 _ _ (sk fun K3 hK3 => (sk fun K4 hK4 => (wt (oA rfl (oL_ [(0, v), (2, (Value.slice none 0 0)), (3, (Value.slice none 0 0)), (4, NI 0)] ⟨T0, rfl, rfl, rfl, trivial⟩ fun ρ5 ⟨T0, T2, T3, T4, _⟩ => (tN (hK4 _ _ (wpF_block (wpF_loop (fun (ρ : Slots) (wz : World) => ∃ i : Nat, ∃ qs : List Pt, ∃ va : Value, ρ 0 = (v : Value) ∧ ρ 2 = ((Value.slice none 0 0) : Value) ∧ ρ 4 = (NI i : Value) ∧ ρ 3 = (va : Value) ∧ Ext w wz ∧ PartsIn wz va qs ∧ OG w.heap.size 55 2 (partC) wz va (qs) ∧ (i ≤ ps.length) ∧ (qs.map ptD = (ps.take i).map ptD) ∧ True) (fun ρ _ => ps.length - (intOf (ρ 4)).toNat) ⟨0, [], (Value.slice none 0 0), T0, T2, T4, T3, hE, PartsIn.nil _ _, og_eq hrow0 (rfl), Nat.zero_le _, rfl, trivial⟩ ?_))))))))))
 clear hrow0
 clear hE
 rintro ρ6 w7 ⟨i, qs, va, T0, T2, T4, T3, hE, hIn, hr_va, hi, hq, -⟩
 have q4 := T4
 by_cases hlt : i < ps.length
 ·have hp2 := hL.2 _ (getD_mem dPt hlt)
  have h60 := hL.1
  have hqn : qs.length ≤ 60 := by have := congrArg List.length hq; simp only [List.length_map, List.length_take] at this; have := hL.1; omega
  have hpr : RB w (ps.getD (i) dPt).v (ps.getD (i) dPt).bytes := (hps _ (getD_mem dPt hlt)).1
  have hpb : -9223372036854775808 ≤ (ps.getD (i) dPt).base ∧ (ps.getD (i) dPt).base ≤ 9223372036854775807 := (hps _ (getD_mem dPt hlt)).2
  refine sk fun K8 hK8 => (sk fun K9 hK9 => (wt (oM rfl (oM rfl (oS rfl (Yk.lenRG pk26_ty22 (RG.of (hr.keep hE) T0) (oS rfl (Yk.eqI (a := (i : Nat)) (b := (ps.length : Nat)) T4 rfl (k_lss _ _ _ _) (oZ ?_)))))))))
  have hva0 : ∀ k, Value.ownBlock va = some k → k < w7.heap.size := fun k hk => ((hr_va).2.lt k hk).2
  refine tN (hK9 _ _ (wpF_true (vr (.bool (true)) (congrArg Value.bool (decide_eq_true (hlt)))) (wpF_skip (tN (hK8 _ _ (sk fun K10 hK10 => (wpF_block ?_)))))))
  refine wpF_draw_cut 14 [Is (va), Is (v), Is (NI i), fun x w' => PR (partC (ps.getD (i) dPt)) x w', fun x w' => PR (((partC (ps.getD (i) dPt)).drop 0).take 1) x w', Is ((ps.getD (i) dPt).v), fun x w' => NewR w7 (ps.getD (i) dPt).bytes x w', Is (v), Is (NI i), fun x w' => PR (partC (ps.getD (i) dPt)) x w', fun x w' => PR (((partC (ps.getD (i) dPt)).drop 1).take 1) x w', Is (.int .i64 ((ps.getD (i) dPt).base : Int)), fun x w' => NewP w7 (ps.getD (i) dPt).bytes (ps.getD (i) dPt).base x w', fun x w' => NewPs w7 (ps.getD (i) dPt).bytes (ps.getD (i) dPt).base x w'] (by kernel_rfl) [11, 12, 13, 14, 15, 16, 17, 18, 19, 20, 21, 22, 23, 24, 25, 3] (by kernel_rfl) (by kernel_rfl) (by kernel_rfl) (by kernel_rfl) rfl rfl (si3 ⟨(fun _ _ _ h k => PR.keep h k), (fun _ _ _ h k => PR.keep h k), Stab.is _, (fun _ _ _ h k => NewR.keep h k), (si2 ⟨(fun _ _ _ h k => PR.keep h k), (fun _ _ _ h k => PR.keep h k), Stab.is _, (fun _ _ _ h k => NewP.keep h k), (fun _ _ _ h k => NewPs.keep h k), trivial⟩)⟩) ?hs1005 ?hQ1005
  case hs1005 =>
   refine ⟨?_, ?_, ?_, ?_, ?_, ?_, ?_, ?_, ?_, ?_, ?_, ?_, ?_, ?_, ?_, ?_, trivial⟩
   ·refine stepFC (stepN rfl fun σ w1 hC h => ?_)
    have e3 := (eqo (h 3 (by decide))).trans T3
    exact Yk.move e3 ⟨Ext.refl _, rfl⟩
   ·refine stepFC (stepN rfl fun σ w1 hC h => ?_)
    have e0 := (eqo (h 0 (by decide))).trans T0
    exact Yk.move e0 ⟨Ext.refl _, rfl⟩
   ·refine stepFC (stepN rfl fun σ w1 hC h => ?_)
    have e4 := (eqo (h 4 (by decide))).trans T4
    exact Yk.move e4 ⟨Ext.refl _, rfl⟩
   ·refine stepFC (stepN rfl fun σ w1 hC h => ?_)
    have e12 := eqo (h 12 (by decide))
    have e13 := eqo (h 13 (by decide))
    exact Yk.atRG pk26_ty22 pk26_szg41 (by decide) dPt (RG.of (hr.keep (hE.trans hC)) e12) e13 (by omega) fun v h => ⟨Ext.refl _, h⟩
   ·refine stepFC (stepN rfl fun σ w1 hC h => ?_)
    have e14 : (fun x w' => PR (partC (ps.getD (i) dPt)) x w') (σ 14) w1 := h 14 (by decide)
    exact Yk.fieldPR (n := 1) pk26_fo41_0 e14 fun v h => ⟨Ext.refl _, h⟩
   ·refine stepFC (stepN rfl fun σ w1 hC h => ?_)
    have e15 : (fun x w' => PR (((partC (ps.getD (i) dPt)).drop 0).take 1) x w') (σ 15) w1 := h 15 (by decide)
    exact Yk.loadC pk26_ty24 rfl (PR.cell e15 (show _ = some ((ps.getD (i) dPt).v : Value) from rfl)) ⟨Ext.refl _, rfl⟩
   ·refine stepFC (stepN rfl fun σ w1 hC h => ?_)
    have e16 := eqo (h 16 (by decide))
    refine Yk.callA1 pk26_pl29 e16 ((copy_any _ (ps.getD (i) dPt).v ((ps.getD (i) dPt).bytes) (hpr.keep (hE.trans hC)) (by omega)).mono ?_)
    rintro e w2 ⟨v, rfl, hN⟩
    exact ⟨_, rfl, hN.ext, NewR.of hN hC⟩
   ·refine stepFC (stepN rfl fun σ w1 hC h => ?_)
    have e0 := (eqo (h 0 (by decide))).trans T0
    exact Yk.move e0 ⟨Ext.refl _, rfl⟩
   ·refine stepFC (stepN rfl fun σ w1 hC h => ?_)
    have e4 := (eqo (h 4 (by decide))).trans T4
    exact Yk.move e4 ⟨Ext.refl _, rfl⟩
   ·refine stepFC (stepN rfl fun σ w1 hC h => ?_)
    have e18 := eqo (h 18 (by decide))
    have e19 := eqo (h 19 (by decide))
    exact Yk.atRG pk26_ty22 pk26_szg41 (by decide) dPt (RG.of (hr.keep (hE.trans hC)) e18) e19 (by omega) fun v h => ⟨Ext.refl _, h⟩
   ·refine stepFC (stepN rfl fun σ w1 hC h => ?_)
    have e20 : (fun x w' => PR (partC (ps.getD (i) dPt)) x w') (σ 20) w1 := h 20 (by decide)
    exact Yk.fieldPR (n := 1) pk26_fo41_1 e20 fun v h => ⟨Ext.refl _, h⟩
   ·refine stepFC (stepN rfl fun σ w1 hC h => ?_)
    have e21 : (fun x w' => PR (((partC (ps.getD (i) dPt)).drop 1).take 1) x w') (σ 21) w1 := h 21 (by decide)
    exact Yk.loadC pk26_ty3 rfl (PR.cell e21 (show _ = some (.int .i64 ((ps.getD (i) dPt).base : Int) : Value) from rfl)) ⟨Ext.refl _, rfl⟩
   ·refine stepFC (stepN rfl fun σ w1 hC h => ?_)
    have e17 : (fun x w' => NewR w7 (ps.getD (i) dPt).bytes x w') (σ 17) w1 := h 17 (by decide)
    have e22 := eqo (h 22 (by decide))
    exact Yk.build2 rfl e22 (fun w => pk26_bdP (RB.slice e17.1) _ w) ⟨Ext.refl _, _, rfl, e17⟩
   ·refine stepFC (stepN rfl fun σ w1 hC h => ?_)
    have e23 : (fun x w' => NewP w7 (ps.getD (i) dPt).bytes (ps.getD (i) dPt).base x w') (σ 23) w1 := h 23 (by decide)
    obtain ⟨v0, e23_, hn_⟩ := e23
    exact Yk.lit1G (enc := partC) (show _ = Value.agg (partC _).toArray from e23_) rfl pk26_lg28 fun v w2 h hx => ⟨hx, v0, h, hn_.keep hx⟩
   ·exact trivial
   ·exact trivial
  intro ρ11 w12 hx13 he hf
  obtain ⟨k11, -, -, -, -, -, -, -, -, -, -, -, -, k24, -⟩ := hf
  obtain ⟨T0, T2, T4, T8, -⟩ := he.hold [(0, _), (2, _), (4, _), (8, _)] ⟨T0, T2, T4, (congrArg Value.bool (decide_eq_true (hlt))), trivial⟩ rfl
  clear he
  have hE := hE.trans hx13
  have hIn : PartsIn w12 va qs := (hIn.keep hx13)
  have hr_va := hr_va.keep hx13
  have T11 : ρ11 11 = va := k11
  have k24 : (fun x w' => NewPs w7 (ps.getD (i) dPt).bytes (ps.getD (i) dPt).base x w') (ρ11 24) w12 := k24
  obtain ⟨v14, T24⟩ : ∃ v, ρ11 24 = v := ⟨_, rfl⟩
  rw [T24] at k24
  have hk15 := k24; clear k24
  obtain ⟨v16, hR17, hN18⟩ := hk15
  clear k11
  have hIn : PartsIn w12 va (qs ++ [(⟨v16, (ps.getD (i) dPt).bytes, (ps.getD (i) dPt).base⟩ : Pt)]) := PartsIn.snoc hIn hN18.1 hpb (fun k hk => ⟨(hN18.2 k hk).2, fun e => by have h1 := (hN18.2 k hk).1; have h2 := hva0 k e; omega⟩)
  refine oS rfl (Yk.appendRG _ _ w.heap.size _ 32 pk26_ty28 pk26_ig55.choose_spec.1 pk26_ig55.choose_spec.2 pk26_ty28 (qs) ([(⟨v16, (ps.getD (i) dPt).bytes, (ps.getD (i) dPt).base⟩ : Pt)]) (OG.of hr_va T11) (RG.of hR17 T24) (fun y hy => by rw [List.mem_singleton.1 hy]; exact partC_one (RB.one hN18.1)) (by simp only [List.length_cons, List.length_nil]; omega) (by simp only [List.length_cons, List.length_nil]; omega) hE.size fun v19 w20 ho21 hg22 => ?_)
  have hIn_ := hIn
  have hg22 : Grew w12 w20 va v19 := .eqv T11 hg22
  have hE := ext_grew hE hg22 hr_va.2 (Nat.le_refl _)
  clear hr_va
  clear hR17
  have hIn : PartsIn w20 v19 (qs ++ [(⟨v16, (ps.getD (i) dPt).bytes, (ps.getD (i) dPt).base⟩ : Pt)]) := PartsIn.grew hIn_ hg22; clear hIn_
  refine oA rfl (oZ (bN (tN (hK10 _ _ (wt (oM rfl (oS rfl (Yk.bin (xv := NI i) (yv := NI 1) T4 rfl rfl (i64_add _ _ _ (by omega)) (oA rfl (oL_ [(0, v), (2, (Value.slice none 0 0)), (3, v19), (4, NI ((i) + (1))), (8, .bool (true))] ⟨T0, T2, rfl, rfl, T8, trivial⟩ fun ρ23 ⟨T0, T2, T3, T4, T8, _⟩ => (tN (And.intro ⟨i + 1, qs ++ [(⟨v16, (ps.getD (i) dPt).bytes, (ps.getD (i) dPt).base⟩ : Pt)], v19, T0, T2, T4, T3, hE, hIn, og_eq ho21 (rfl), by omega, by rw [List.map_append, hq]; exact part_snoc ps hlt v16, trivial⟩ ?_))))))))))))
  show ps.length - (intOf (ρ23 4)).toNat < ps.length - (intOf (ρ6 4)).toNat
  rw [T4, q4]
  simp only [intOf, Int.toNat_natCast]; omega
 refine sk fun K24 hK24 => (sk fun K25 hK25 => (wt (oM rfl (oM rfl (oS rfl (Yk.lenRG pk26_ty22 (RG.of (hr.keep hE) T0) (oS rfl (Yk.eqI (a := (i : Nat)) (b := (ps.length : Nat)) T4 rfl (k_lss _ _ _ _) (oZ (tN (hK25 _ _ (wpF_false (vr (.bool (false)) (congrArg Value.bool (decide_eq_false (hlt)))) (wpF_exit (thenF_exit (thenF_exit (inBlockF_hit (tN (hK3 _ _ (sk fun K26 hK26 => (wt (oM rfl (oA rfl ?_))))))))))))))))))))))
 refine oZ (tN (hK26 _ _ (wpF_ret (postF_ret (fn := Tryd.f12) _ rfl [va] (va) rfl ⟨T3, trivial⟩ ?_))))
 have hil : i = ps.length := by omega
 rw [hil, List.take_length] at hq
 exact ⟨_, qs, rfl, RG.ofOwn hr_va, (hIn).ok, hq, hE⟩

theorem light_any (w : World) (v : Value) (ps : List Pt) (hr : RG 2 partC w v ps) (hps : PartsOk w ps) :
  Calls Tryd.prog 10 #[v] w fun e w' => ∃ c, e = .returned (.bool c) ∧ (c = true ↔ LightP ps) ∧ Ext w w' := by
 refine calls_of_wpF (args := [v]) Tryd.func10 rfl 20 rfl (Nat.le_of_ble_eq_true rfl) ?_
 intro ρ0 hb
 have T0 : ρ0 0 = (v : Value) := hb.get 0
 clear hb
 have hE := Ext.refl w
 refine sk fun K1 hK1 => (wt (oA rfl (oZ ?_)))
 by_cases q1 : 60 < ps.length
 ·refine tN (hK1 _ _ (sk fun K2 hK2 => (sk fun K3 hK3 => (wt (oM rfl (oS rfl (Yk.lenRG pk26_ty22 (RG.of (hr.keep hE) T0) (oS rfl (Yk.eqI (a := (ps.length : Nat)) (b := (60 : Nat)) rfl rfl (k_gtr _ _ _ _) (oZ (tN (hK3 _ _ (wpF_true (vr (.bool (true)) (congrArg Value.bool (decide_eq_true (q1)))) (sk fun K4 hK4 => (wt (oA rfl (oZ (tN (hK4 _ _ (wpF_ret (thenF_ret ?_)))))))))))))))))))))
  refine postF_ret (fn := Tryd.f10) _ rfl [.bool (false)] (.bool (false)) rfl ⟨rfl, trivial⟩ ?_
  exact ⟨_, rfl, ⟨fun h => Bool.noConfusion h, fun h => absurd h.1 (by omega)⟩, hE⟩
 refine tN (hK1 _ _ (sk fun K5 hK5 => (sk fun K6 hK6 => (wt (oM rfl (oS rfl (Yk.lenRG pk26_ty22 (RG.of (hr.keep hE) T0) (oS rfl (Yk.eqI (a := (ps.length : Nat)) (b := (60 : Nat)) rfl rfl (k_gtr _ _ _ _) (oZ (tN (hK6 _ _ (wpF_false (vr (.bool (false)) (congrArg Value.bool (decide_eq_false (q1)))) (wpF_skip (tN (hK5 _ _ (sk fun K7 hK7 => (sk fun K8 hK8 => (wt (oA rfl ?_))))))))))))))))))))
 refine oL_ [(0, v), (2, .bool (false)), (3, NI 0), (6, .bool (false))] ⟨T0, rfl, rfl, (congrArg Value.bool (decide_eq_false (q1))), trivial⟩ fun ρ9 ⟨T0, T2, T3, T6, _⟩ => (tN (hK8 _ _ (wpF_block (wpF_loop (fun (ρ : Slots) (wz : World) => ∃ i : Nat, ρ 0 = (v : Value) ∧ ρ 6 = (.bool (false) : Value) ∧ ρ 3 = (NI i : Value) ∧ Ext w wz ∧ (i ≤ ps.length) ∧ (∀ p ∈ ps.take i, p.bytes.length ≤ 200) ∧ True) (fun ρ _ => ps.length - (intOf (ρ 3)).toNat) ⟨0, T0, T6, T3, hE, Nat.zero_le _, (fun p hp => by cases hp), trivial⟩ ?_))))
 clear hE
 rintro ρ10 w11 ⟨i, T0, T6, T3, hE, hi, hq, -⟩
 have q3 := T3
 by_cases hlt : i < ps.length
 ·have hpr : RB w (ps.getD (i) dPt).v (ps.getD (i) dPt).bytes := (hps _ (getD_mem dPt hlt)).1
  have hpb : -9223372036854775808 ≤ (ps.getD (i) dPt).base ∧ (ps.getD (i) dPt).base ≤ 9223372036854775807 := (hps _ (getD_mem dPt hlt)).2
  by_cases q2 : 200 < (ps.getD (i) dPt).bytes.length
  ·refine sk fun K12 hK12 => (sk fun K13 hK13 => (wt (oM rfl (oM rfl (oS rfl (Yk.lenRG pk26_ty22 (RG.of (hr.keep hE) T0) (oS rfl (Yk.eqI (a := (i : Nat)) (b := (ps.length : Nat)) T3 rfl (k_lss _ _ _ _) (oZ (tN (hK13 _ _ (wpF_true (vr (.bool (true)) (congrArg Value.bool (decide_eq_true (hlt)))) (wpF_skip (tN (hK12 _ _ (sk fun K14 hK14 => (wpF_block (sk fun K15 hK15 => (wt ?_)))))))))))))))))))
   refine oM rfl (oM rfl ?_)
   have hl18 : (partC (ps.getD (i) dPt)).length = 2 := (RG.elem (hr.keep hE) dPt (by omega))
   refine oS rfl (Yk.atRG pk26_ty22 pk26_szg41 (by decide) dPt (RG.of (hr.keep hE) T0) T3 (by omega) fun v16 hp17 => (oS rfl (Yk.fieldPR (n := 1) pk26_fo41_0 (PR.of hp17 (vr v16 rfl)) fun v19 hp20 => (oS rfl (Yk.loadC pk26_ty24 rfl (PR.cell (PR.of hp20 (vr v19 rfl)) (show _ = some ((ps.getD (i) dPt).v : Value) from rfl)) (oS rfl (Yk.lenRB pk26_ty24 (RB.of (hpr.keep hE) (vr ((ps.getD (i) dPt).v) rfl)) (oS rfl (Yk.eqI (a := (((ps.getD (i) dPt).bytes : List UInt8).length : Nat)) (b := (200 : Nat)) rfl rfl (k_gtr _ _ _ _) (oZ ?_))))))))))
   clear hp17
   clear hp20
   refine tN (hK15 _ _ (wpF_true (vr (.bool (true)) (congrArg Value.bool (decide_eq_true (q2)))) (sk fun K21 hK21 => (wt (oA rfl (oZ (tN (hK21 _ _ (wpF_ret (inBlockF_ret (thenF_ret (thenF_ret (inBlockF_ret (thenF_ret (postF_ret (fn := Tryd.f10) _ rfl [.bool (false)] (.bool (false)) rfl ⟨rfl, trivial⟩ ?_)))))))))))))))
   exact ⟨_, rfl, ⟨fun h => Bool.noConfusion h, fun h => absurd (h.2 _ (getD_mem dPt hlt)) (by omega)⟩, hE⟩
  refine sk fun K22 hK22 => (sk fun K23 hK23 => (wt (oM rfl (oM rfl (oS rfl (Yk.lenRG pk26_ty22 (RG.of (hr.keep hE) T0) (oS rfl (Yk.eqI (a := (i : Nat)) (b := (ps.length : Nat)) T3 rfl (k_lss _ _ _ _) (oZ (tN (hK23 _ _ (wpF_true (vr (.bool (true)) (congrArg Value.bool (decide_eq_true (hlt)))) (wpF_skip (tN (hK22 _ _ (sk fun K24 hK24 => (wpF_block (sk fun K25 hK25 => (wt ?_)))))))))))))))))))
  refine oM rfl (oM rfl ?_)
  have hl28 : (partC (ps.getD (i) dPt)).length = 2 := (RG.elem (hr.keep hE) dPt (by omega))
  refine oS rfl (Yk.atRG pk26_ty22 pk26_szg41 (by decide) dPt (RG.of (hr.keep hE) T0) T3 (by omega) fun v26 hp27 => (oS rfl (Yk.fieldPR (n := 1) pk26_fo41_0 (PR.of hp27 (vr v26 rfl)) fun v29 hp30 => (oS rfl (Yk.loadC pk26_ty24 rfl (PR.cell (PR.of hp30 (vr v29 rfl)) (show _ = some ((ps.getD (i) dPt).v : Value) from rfl)) (oS rfl (Yk.lenRB pk26_ty24 (RB.of (hpr.keep hE) (vr ((ps.getD (i) dPt).v) rfl)) (oS rfl (Yk.eqI (a := (((ps.getD (i) dPt).bytes : List UInt8).length : Nat)) (b := (200 : Nat)) rfl rfl (k_gtr _ _ _ _) (oZ ?_))))))))))
  clear hp27
  clear hp30
  refine tN (hK25 _ _ (wpF_false (vr (.bool (false)) (congrArg Value.bool (decide_eq_false (q2)))) (wpF_skip (bN (tN (hK24 _ _ (wt (oM rfl (oS rfl (Yk.bin (xv := NI i) (yv := NI 1) T3 rfl rfl (i64_add _ _ _ (by omega)) (oA rfl (oL_ [(0, v), (3, NI ((i) + (1))), (6, .bool (false)), (10, .bool (true)), (19, .bool (false))] ⟨T0, rfl, T6, (congrArg Value.bool (decide_eq_true (hlt))), (congrArg Value.bool (decide_eq_false (q2))), trivial⟩ fun ρ31 ⟨T0, T3, T6, T10, T19, _⟩ => ?_))))))))))))
  refine tN (And.intro ⟨i + 1, T0, T6, T3, hE, by omega, (fun p hp => by rw [List.take_succ_eq_append_getElem hlt] at hp; rcases List.mem_append.1 hp with hp | hp; exact hq p hp; rw [List.mem_singleton.1 hp]; have h2 : ¬ 200 < (ps.getD i dPt).bytes.length := q2; rw [List.getD_eq_getElem?_getD, List.getElem?_eq_getElem hlt] at h2; exact Nat.le_of_not_lt h2), trivial⟩ ?_)
  show ps.length - (intOf (ρ31 3)).toNat < ps.length - (intOf (ρ10 3)).toNat
  rw [T3, q3]
  simp only [intOf, Int.toNat_natCast]; omega
 refine sk fun K32 hK32 => (sk fun K33 hK33 => (wt (oM rfl (oM rfl (oS rfl (Yk.lenRG pk26_ty22 (RG.of (hr.keep hE) T0) (oS rfl (Yk.eqI (a := (i : Nat)) (b := (ps.length : Nat)) T3 rfl (k_lss _ _ _ _) (oZ (tN (hK33 _ _ (wpF_false (vr (.bool (false)) (congrArg Value.bool (decide_eq_false (hlt)))) (wpF_exit (thenF_exit (thenF_exit (inBlockF_hit (tN (hK7 _ _ (sk fun K34 hK34 => (wt (oA rfl (oZ ?_))))))))))))))))))))))
 refine tN (hK34 _ _ (wpF_ret (postF_ret (fn := Tryd.f10) _ rfl [.bool (true)] (.bool (true)) rfl ⟨rfl, trivial⟩ ?_)))
 rw [show i = ps.length by omega, List.take_length] at hq
 exact ⟨_, rfl, ⟨fun _ => ⟨by omega, hq⟩, fun _ => rfl⟩, hE⟩

theorem packBack_walk (w : World) (hG : Laid w) (v : Value) (ps : List Pt) (hr : RG 2 partC w v ps) (hps : PartsOk w ps) :
  Calls Tryd.prog 4 #[v] w fun e w' => e = .returned (.bool true) ∧ Ext w w' := by
 refine calls_of_wpF (args := [v]) Tryd.func4 rfl 102 rfl (Nat.le_of_ble_eq_true rfl) ?_
 intro ρ0 hb
 have T0 : ρ0 0 = (v : Value) := hb.get 0
 clear hb
 have hE := Ext.refl w
 refine sk fun K1 hK1 => (wt (oA rfl (oZ ?_)))
 by_cases hL : LightP ps
 ·rcases hb : bgo ps ps.length with e | s
  ·have hbe := build_no hb
   have hz := bgo_e hb
   refine tN (hK1 _ _ (sk fun K2 hK2 => (sk fun K3 hK3 => (wt (oM rfl (oS rfl (Yk.callA1 pk26_pl10 T0 ((light_any _ v ps (hr.keep hE) (hps.keep hE)).mono ?_))))))))
   rintro e w5 ⟨c_, rfl, hlc, hx4⟩
   refine ⟨_, rfl, ?_⟩
   have hE := hE.trans hx4
   obtain rfl : c_ = true := hlc.2 hL
   refine oS rfl (Yk.notB (vr (.bool (true)) rfl) (oZ (tN (hK3 _ _ (wpF_false (vr (.bool (false)) rfl) (wpF_skip (tN (hK2 _ _ (sk fun K6 hK6 => (wt (oM rfl (oS rfl (Yk.callA1 pk26_pl12 T0 ((told_any _ v ps (hr.keep hE) (hps.keep hE) hL).mono ?_))))))))))))))
   rintro e w10 ⟨v7, qs, rfl, hr8, hqo, hqq, hx9⟩
   refine ⟨_, rfl, ?_⟩
   have hE := hE.trans hx9
   refine oS rfl (Yk.callA1 pk26_pl11 (vr v7 rfl) ((build_told _ (hG.keep hE) v7 ps qs hr8 hqo hqq hL).mono ?_))
   rintro e w14 ⟨v11, rfl, hr12, hx13⟩
   refine ⟨_, rfl, ?_⟩
   have hE := hE.trans hx13
   have hr8 := hr8.keep hx13
   have hqo := hqo.keep hx13
   refine oM rfl (oS rfl (Yk.extract (vs := [v11, NI ((buildP ps).2)]) (vr (.tuple #[v11, NI ((buildP ps).2)]) rfl) (show _ = some (v11 : Value) from rfl) (oS rfl (Yk.extract (vs := [v11, NI ((buildP ps).2)]) (vr (.tuple #[v11, NI ((buildP ps).2)]) rfl) (show _ = some (NI ((buildP ps).2) : Value) from rfl) (oA rfl (oA rfl (oZ (tN (hK6 _ _ (sk fun K15 hK15 => (sk fun K16 hK16 => (wt (oM rfl (oS rfl (Yk.eqI (a := ((buildP ps).2 : Nat)) (b := (0 : Nat)) rfl rfl (k_neq _ _ _ _) (oZ (tN (hK16 _ _ (wpF_true (vr (.bool (true)) (congrArg Value.bool (decide_eq_true (by rw [hbe]; exact hz)))) (sk fun K17 hK17 => ?_))))))))))))))))))))
   refine wt (oM rfl (oS rfl (Yk.lenRB pk26_ty24 (RB.of hr12 (vr v11 rfl)) (oS rfl (Yk.eqI (a := (((buildP ps).1 : List UInt8).length : Nat)) (b := (0 : Nat)) rfl rfl (k_eql _ _ _ _) (oM rfl (oY (d := 27) rfl rfl (vr (.bool (true)) (congrArg Value.bool (decide_eq_true (by rw [hbe]; rfl)))) (Yk.callA0 pk26_pl14  ((awake11 _ (hG.keep hE)).mono ?_)))))))))
   rintro e w19 ⟨rfl, hx18⟩
   refine ⟨_, rfl, ?_⟩
   have hE := hE.trans hx18
   have hr8 := hr8.keep hx18
   have hqo := hqo.keep hx18
   have hr12 := hr12.keep hx18
   refine oS rfl (Yk.pickT (vr (.bool (true)) (congrArg Value.bool (decide_eq_true (by rw [hbe]; rfl)))) (vr (.bool (true)) rfl) (oA rfl (oZ (tN (hK17 _ _ (wpF_ret (thenF_ret (postF_ret (fn := Tryd.f4) _ rfl [.bool (true)] (.bool (true)) rfl ⟨rfl, trivial⟩ ?_))))))))
   exact ⟨rfl, hE⟩
  have hb0 := build_yes hb
  have hbl : (buildP ps).1.length ≤ 1099511627776 := by unfold buildP; rw [hb]; have hk := bgo_ok hL _ _ (Nat.le_refl _) hb; have h1 := hk.b; have h2 := behindB_len hk s.b.length; have h3 := hL.1; have h4 := Sha.sum_length (s.b ++ behindB s s.b.length); simp only [List.length_append] at h2 ⊢; omega
  refine tN (hK1 _ _ (sk fun K20 hK20 => (sk fun K21 hK21 => (wt (oM rfl (oS rfl (Yk.callA1 pk26_pl10 T0 ((light_any _ v ps (hr.keep hE) (hps.keep hE)).mono ?_))))))))
  rintro e w23 ⟨c_, rfl, hlc, hx22⟩
  refine ⟨_, rfl, ?_⟩
  have hE := hE.trans hx22
  obtain rfl : c_ = true := hlc.2 hL
  refine oS rfl (Yk.notB (vr (.bool (true)) rfl) (oZ (tN (hK21 _ _ (wpF_false (vr (.bool (false)) rfl) (wpF_skip (tN (hK20 _ _ (sk fun K24 hK24 => (wt (oM rfl (oS rfl (Yk.callA1 pk26_pl12 T0 ((told_any _ v ps (hr.keep hE) (hps.keep hE) hL).mono ?_))))))))))))))
  rintro e w28 ⟨v25, qs, rfl, hr26, hqo, hqq, hx27⟩
  refine ⟨_, rfl, ?_⟩
  have hE := hE.trans hx27
  refine oS rfl (Yk.callA1 pk26_pl11 (vr v25 rfl) ((build_told _ (hG.keep hE) v25 ps qs hr26 hqo hqq hL).mono ?_))
  rintro e w32 ⟨v29, rfl, hr30, hx31⟩
  refine ⟨_, rfl, ?_⟩
  have hE := hE.trans hx31
  have hr26 := hr26.keep hx31
  have hqo := hqo.keep hx31
  refine oM rfl (oS rfl (Yk.extract (vs := [v29, NI ((buildP ps).2)]) (vr (.tuple #[v29, NI ((buildP ps).2)]) rfl) (show _ = some (v29 : Value) from rfl) (oS rfl (Yk.extract (vs := [v29, NI ((buildP ps).2)]) (vr (.tuple #[v29, NI ((buildP ps).2)]) rfl) (show _ = some (NI ((buildP ps).2) : Value) from rfl) (oA rfl (oA rfl (oZ (tN (hK24 _ _ (sk fun K33 hK33 => (sk fun K34 hK34 => (wt (oM rfl (oS rfl (Yk.eqI (a := ((buildP ps).2 : Nat)) (b := (0 : Nat)) rfl rfl (k_neq _ _ _ _) (oZ (tN (hK34 _ _ (wpF_false (vr (.bool (false)) (congrArg Value.bool (decide_eq_false (fun h => h hb0)))) (wpF_skip ?_))))))))))))))))))))
  refine tN (hK33 _ _ (sk fun K35 hK35 => (wt (oM rfl (oS rfl (Yk.callA1 pk26_pl15 (vr v29 rfl) ((open_any _ (hG.keep hE) v29 ((buildP ps).1) hr30).mono ?_)))))))
  rintro e w40 ⟨_, rfl, v36, k37, rfl, hO38, hx39⟩
  refine ⟨_, rfl, ?_⟩
  have hE := hE.trans hx39
  have hr26 := hr26.keep hx39
  have hqo := hqo.keep hx39
  have hr30 := hr30.keep hx39
  rw [open_build hL hb] at hO38
  obtain ⟨hc0, hat⟩ := hO38
  subst hc0
  have hq : PackO w40 v36 (some (sortB s.ids, objB ps s)) := hat
  refine oM rfl (oS rfl (Yk.extract (vs := [v36, NI 0]) (vr (.tuple #[v36, NI 0]) rfl) (show _ = some (v36 : Value) from rfl) (oS rfl (Yk.extract (vs := [v36, NI 0]) (vr (.tuple #[v36, NI 0]) rfl) (show _ = some (NI 0 : Value) from rfl) (oA rfl (oA rfl (oZ (tN (hK35 _ _ (sk fun K41 hK41 => (sk fun K42 hK42 => (wt (oM rfl (oS rfl (Yk.eqI (a := (0 : Nat)) (b := (0 : Nat)) rfl rfl (k_neq _ _ _ _) (oM rfl (oY (d := 37) rfl rfl (vr (.bool (false)) (congrArg Value.bool (decide_eq_false (fun h => h rfl)))) (Yk.move (vr v36 rfl) (oY (d := 37) rfl rfl (vr (.bool (false)) (congrArg Value.bool (decide_eq_false (fun h => h rfl)))) (Yk.callA1 pk26_pl16 (vr v36 rfl) ((plen_any _ (v36) (some (sortB s.ids, objB ps s)) hq).mono ?_)))))))))))))))))))))
  rintro e w44 ⟨rfl, hx43⟩
  refine ⟨_, rfl, ?_⟩
  have hE := hE.trans hx43
  have hr26 := hr26.keep hx43
  have hqo := hqo.keep hx43
  have hr30 := hr30.keep hx43
  have hq := hq.keep hx43
  refine oY (d := 37) rfl rfl (vr (.bool (false)) (congrArg Value.bool (decide_eq_false (fun h => h rfl)))) (Yk.move T0 (oY (d := 37) rfl rfl (vr (.bool (false)) (congrArg Value.bool (decide_eq_false (fun h => h rfl)))) (Yk.lenRG pk26_ty22 (RG.of (hr.keep hE) (vr v rfl)) (oY (d := 37) rfl rfl (vr (.bool (false)) (congrArg Value.bool (decide_eq_false (fun h => h rfl)))) (Yk.eqI (a := (lenQ (some (sortB s.ids, objB ps s)) : Nat)) (b := (ps.length : Nat)) rfl rfl (k_neq _ _ _ _) (oS rfl (Yk.pickF (vr (.bool (false)) (congrArg Value.bool (decide_eq_false (fun h => h rfl)))) (vr (.bool (false)) (congrArg Value.bool (decide_eq_false (fun h => h (back_len hL hb))))) (oZ (tN (hK42 _ _ (wpF_false (vr (.bool (false)) rfl) (wpF_skip (tN (hK41 _ _ (sk fun K45 hK45 => (sk fun K46 hK46 => (wt (oA rfl (oL_ [(0, v), (2, .bool (false)), (3, v29), (4, NI ((buildP ps).2)), (5, v36), (6, NI 0), (7, NI 0), (15, .bool (false)), (23, .bool (false)), (43, .bool (false))] ⟨T0, rfl, rfl, rfl, rfl, rfl, rfl, rfl, (congrArg Value.bool (decide_eq_false (fun h => h hb0))), rfl, trivial⟩ fun ρ47 ⟨T0, T2, T3, T4, T5, T6, T7, T15, T23, T43, _⟩ => (tN (hK46 _ _ (wpF_block ?_))))))))))))))))))))))
  refine wpF_loop (fun (ρ : Slots) (wz : World) => ∃ i : Nat, ρ 0 = (v : Value) ∧ ρ 3 = (v29 : Value) ∧ ρ 4 = (NI ((buildP ps).2) : Value) ∧ ρ 5 = (v36 : Value) ∧ ρ 6 = (NI 0 : Value) ∧ ρ 15 = (.bool (false) : Value) ∧ ρ 23 = (.bool (false) : Value) ∧ ρ 43 = (.bool (false) : Value) ∧ ρ 7 = (NI i : Value) ∧ Ext w wz ∧ RG 2 partC wz v25 qs ∧ PartsOk wz qs ∧ RB wz v29 (buildP ps).1 ∧ PackO wz v36 (some (sortB s.ids, objB ps s)) ∧ (i ≤ ps.length) ∧ True) (fun ρ _ => ps.length - (intOf (ρ 7)).toNat) ⟨0, T0, T3, T4, T5, T6, T15, T23, T43, T7, hE, hr26, hqo, hr30, hq, Nat.zero_le _, trivial⟩ ?_
  clear hE hr26 hqo hr30 hq
  rintro ρ48 w49 ⟨i, T0, T3, T4, T5, T6, T15, T23, T43, T7, hE, hr26, hqo, hr30, hq, hi, -⟩
  have q7 := T7
  by_cases hlt : i < ps.length
  ·have hpr : RB w (ps.getD (i) dPt).v (ps.getD (i) dPt).bytes := (hps _ (getD_mem dPt hlt)).1
   have hpb : -9223372036854775808 ≤ (ps.getD (i) dPt).base ∧ (ps.getD (i) dPt).base ≤ 9223372036854775807 := (hps _ (getD_mem dPt hlt)).2
   have hp2 := hL.2 _ (getD_mem dPt hlt)
   have h60 := hL.1
   obtain ⟨hg, hd50, hd0, hd1⟩ := back_get hL hb hlt
   by_cases hbz : (ps.getD (i) dPt).base < 0
   ·refine sk fun K50 hK50 => (sk fun K51 hK51 => (wt (oM rfl (oM rfl (oS rfl (Yk.lenRG pk26_ty22 (RG.of (hr.keep hE) T0) (oS rfl (Yk.eqI (a := (i : Nat)) (b := (ps.length : Nat)) T7 rfl (k_lss _ _ _ _) (oZ (tN (hK51 _ _ (wpF_true (vr (.bool (true)) (congrArg Value.bool (decide_eq_true (hlt)))) (wpF_skip (tN (hK50 _ _ (sk fun K52 hK52 => (wpF_block (sk fun K53 hK53 => (wt ?_)))))))))))))))))))
    refine oM rfl (oM rfl ?_)
    have hl56 : (partC (ps.getD (i) dPt)).length = 2 := (RG.elem (hr.keep hE) dPt (by omega))
    refine oS rfl (Yk.atRG pk26_ty22 pk26_szg41 (by decide) dPt (RG.of (hr.keep hE) T0) T7 (by omega) fun v54 hp55 => (oS rfl (Yk.fieldPR (n := 1) pk26_fo41_0 (PR.of hp55 (vr v54 rfl)) fun v57 hp58 => (oS rfl (Yk.loadC pk26_ty24 rfl (PR.cell (PR.of hp58 (vr v57 rfl)) (show _ = some ((ps.getD (i) dPt).v : Value) from rfl)) (oS rfl (Yk.rows1 pk26_rows1_75 (RB.of (hpr.keep hE) (vr ((ps.getD (i) dPt).v) rfl)) fun v59 w60 hr61 hx62 => ?_)))))))
    have hE := hE.trans hx62
    have hr26 := hr26.keep hx62
    have hqo := hqo.keep hx62
    have hr30 := hr30.keep hx62
    have hq := hq.keep hx62
    have hp55 := PR.keep hp55 hx62
    have hp58 := PR.keep hp58 hx62
    refine oS rfl (Yk.callA1 pk26_pl17 (vr v59 rfl) ((sum_one _ (hG.keep hE) v59 ((ps.getD (i) dPt).bytes) hr61 (by omega)).mono ?_))
    rintro e w64 ⟨rfl, hx63⟩
    refine ⟨_, rfl, ?_⟩
    have hE := hE.trans hx63
    have hr26 := hr26.keep hx63
    have hqo := hqo.keep hx63
    have hr30 := hr30.keep hx63
    have hq := hq.keep hx63
    have hp55 := PR.keep hp55 hx63
    have hp58 := PR.keep hp58 hx63
    have hr61 := hr61.keep hx63
    refine oS rfl (Yk.alloc (cs := (Lib.byteCells (List.replicate 32 0)).toArray) pk26_al38 fun n65 w66 hn67 hb68 hx69 hs70 => ?_)
    have hA71 := Ext.refl w64
    have hea72 := hE
    have hz73 := hE.size
    have hE := hE.trans hx69
    have hA71 := hA71.trans hx69
    have hb74 := hb68; clear hb68
    have hl75 : n65 < w66.heap.size := by omega
    refine oS rfl (Yk.storeAll (vr (PQ n65 0) rfl) (vr (AB (Sha.sum ((ps.getD (i) dPt).bytes))) rfl) hb74 (by exact idsize (Sha.sum_length _) List.length_replicate) (by exact sizeId_of (Sha.sum_length _)) (byteCells_one _) fun w76 hb77 hg78 hs79 => ?_)
    have hE := row_fresh hE hg78 (Nat.le_trans hz73 (by omega))
    have hA71 := row_fresh hA71 hg78 (Nat.le_trans (Nat.le_refl _) (by omega))
    clear hb74
    have hb74 := hb77; clear hb77
    have hl80 := bl hb74
    refine oZ ?_
    clear hp55
    clear hp58
    refine tN (hK53 _ _ (sk fun K81 hK81 => (wt (oM rfl (oS rfl (Yk.loadAll (vr (PQ n65 0) rfl) hb74 pk26_ty38 rfl (by exact sizeId_of (Sha.sum_length _)) (oS rfl (Yk.callA2 pk26_pl18 T5 (vr (AB (Sha.sum ((ps.getD (i) dPt).bytes))) rfl) ((pget_any _ (v36) (some (sortB s.ids, objB ps s)) (hq.keep hA71) (Sha.sum ((ps.getD (i) dPt).bytes)) (Sha.sum_length _) (by rw [hg]; dsimp only; omega)).mono ?_)))))))))
    rintro e w85 ⟨v82, rfl, ho83, hx84⟩
    refine ⟨_, rfl, ?_⟩
    have hA86 := Ext.refl w76
    have hea87 := hE
    have hea88 := hA71
    have hz89 := hE.size
    have hz90 := hA71.size
    have hap91 : OB v82 n65 := own_older ho83 (bl hb74)
    have hE := hE.trans hx84
    have hA71 := hA71.trans hx84
    have hb74 := eb hx84 hb74
    have hA86 := hA86.trans hx84
    refine oM rfl (oS rfl (Yk.extract (vs := [v82, NI ((getQ (some (sortB s.ids, objB ps s)) (Sha.sum ((ps.getD (i) dPt).bytes))).2)]) (vr (.tuple #[v82, NI ((getQ (some (sortB s.ids, objB ps s)) (Sha.sum ((ps.getD (i) dPt).bytes))).2)]) rfl) (show _ = some (v82 : Value) from rfl) (oS rfl (Yk.extract (vs := [v82, NI ((getQ (some (sortB s.ids, objB ps s)) (Sha.sum ((ps.getD (i) dPt).bytes))).2)]) (vr (.tuple #[v82, NI ((getQ (some (sortB s.ids, objB ps s)) (Sha.sum ((ps.getD (i) dPt).bytes))).2)]) rfl) (show _ = some (NI ((getQ (some (sortB s.ids, objB ps s)) (Sha.sum ((ps.getD (i) dPt).bytes))).2) : Value) from rfl) (oA rfl (oA rfl (oZ (tN (hK81 _ _ (sk fun K92 hK92 => (wt (oM rfl (oS rfl (Yk.loadAll (vr (PQ n65 0) rfl) hb74 pk26_ty38 rfl (by exact sizeId_of (Sha.sum_length _)) (oS rfl (Yk.callA2 pk26_pl19 T5 (vr (AB (Sha.sum ((ps.getD (i) dPt).bytes))) rfl) ((pdep_any _ (v36) (some (sortB s.ids, objB ps s)) (hq.keep hA71) (Sha.sum ((ps.getD (i) dPt).bytes)) (Sha.sum_length _)).mono ?_)))))))))))))))))
    rintro e w94 ⟨rfl, hx93⟩
    refine ⟨_, rfl, ?_⟩
    have hE := hE.trans hx93
    have hA71 := hA71.trans hx93
    have hb74 := eb hx93 hb74
    have hA86 := hA86.trans hx93
    have ho83 := Stab.own _ _ _ _ _ _ _ _ ho83 hx93
    refine oM rfl (oS rfl (Yk.extract (vs := [NI ((getQ (some (sortB s.ids, objB ps s)) (Sha.sum ((ps.getD (i) dPt).bytes))).1.2), NI ((getQ (some (sortB s.ids, objB ps s)) (Sha.sum ((ps.getD (i) dPt).bytes))).2)]) (vr (.tuple #[NI ((getQ (some (sortB s.ids, objB ps s)) (Sha.sum ((ps.getD (i) dPt).bytes))).1.2), NI ((getQ (some (sortB s.ids, objB ps s)) (Sha.sum ((ps.getD (i) dPt).bytes))).2)]) rfl) (show _ = some (NI ((getQ (some (sortB s.ids, objB ps s)) (Sha.sum ((ps.getD (i) dPt).bytes))).1.2) : Value) from rfl) (oS rfl (Yk.extract (vs := [NI ((getQ (some (sortB s.ids, objB ps s)) (Sha.sum ((ps.getD (i) dPt).bytes))).1.2), NI ((getQ (some (sortB s.ids, objB ps s)) (Sha.sum ((ps.getD (i) dPt).bytes))).2)]) (vr (.tuple #[NI ((getQ (some (sortB s.ids, objB ps s)) (Sha.sum ((ps.getD (i) dPt).bytes))).1.2), NI ((getQ (some (sortB s.ids, objB ps s)) (Sha.sum ((ps.getD (i) dPt).bytes))).2)]) rfl) (show _ = some (NI ((getQ (some (sortB s.ids, objB ps s)) (Sha.sum ((ps.getD (i) dPt).bytes))).2) : Value) from rfl) (oA rfl (oA rfl (oZ (tN (hK92 _ _ (sk fun K95 hK95 => ?_))))))))))
    refine wpF_draw [Is (NI ((getQ (some (sortB s.ids, objB ps s)) (Sha.sum ((ps.getD (i) dPt).bytes))).2)), Is (.bool (false)), Is (.bool (false)), Is (NI ((getQ (some (sortB s.ids, objB ps s)) (Sha.sum ((ps.getD (i) dPt).bytes))).2)), Is (.bool (false)), Is (.bool (false)), Is (.bool (false)), Is (v82), Is (St ((getQ (some (sortB s.ids, objB ps s)) (Sha.sum ((ps.getD (i) dPt).bytes))).1.1)), Is (v), Is (NI i), fun x w' => PR (partC (ps.getD (i) dPt)) x w', fun x w' => PR (((partC (ps.getD (i) dPt)).drop 0).take 1) x w', Is ((ps.getD (i) dPt).v), Is (St ((ps.getD (i) dPt).bytes)), Is (.bool (false)), Is (.bool (false)), Is (.bool (false)), Is (NI ((getQ (some (sortB s.ids, objB ps s)) (Sha.sum ((ps.getD (i) dPt).bytes))).1.2)), Is (.bool (false)), Is (.bool (false)), Is (.bool (false)), Is (NI ((getQ (some (sortB s.ids, objB ps s)) (Sha.sum ((ps.getD (i) dPt).bytes))).1.2)), Is (.bool (true)), Is (v), Is (NI i), fun x w' => PR (partC (ps.getD (i) dPt)) x w', fun x w' => PR (((partC (ps.getD (i) dPt)).drop 1).take 1) x w', Is (.int .i64 ((ps.getD (i) dPt).base : Int)), Is (.bool (true)), Is (.bool (false)), Is (.bool (false))] (by kernel_rfl) [69, 70, 71, 72, 73, 74, 75, 76, 77, 78, 79, 80, 81, 82, 83, 84, 85, 86, 87, 88, 89, 90, 91, 92, 93, 94, 95, 96, 97, 98, 99, 100] (by kernel_rfl) (by kernel_rfl) (si11 ⟨(fun _ _ _ h k => PR.keep h k), (fun _ _ _ h k => PR.keep h k), Stab.is _, (si12 ⟨(fun _ _ _ h k => PR.keep h k), (fun _ _ _ h k => PR.keep h k), (si4 trivial)⟩)⟩) ?hs1015 ?hQ1015
    case hs1015 =>
     refine ⟨?_, ?_, ?_, ?_, ?_, ?_, ?_, ?_, ?_, ?_, ?_, ?_, ?_, ?_, ?_, ?_, ?_, ?_, ?_, ?_, ?_, ?_, ?_, ?_, ?_, ?_, ?_, ?_, ?_, ?_, ?_, ?_, trivial⟩
     ·refine stepN rfl fun σ w1 hC h => ?_
      have e10 : σ 10 = NI ((getQ (some (sortB s.ids, objB ps s)) (Sha.sum ((ps.getD (i) dPt).bytes))).2) := (eqo (h 10 (by decide))).trans rfl
      exact Yk.move e10 ⟨Ext.refl _, rfl⟩
     ·refine stepN rfl fun σ w1 hC h => ?_
      have e69 := eqo (h 69 (by decide))
      exact Yk.eqI (a := ((getQ (some (sortB s.ids, objB ps s)) (Sha.sum ((ps.getD (i) dPt).bytes))).2 : Nat)) (b := (0 : Nat)) e69 rfl (k_neq _ _ _ _) ⟨Ext.refl _, (congrArg Value.bool (decide_eq_false (fun h => h (by rw [hg]))))⟩
     ·refine stepN rfl fun σ w1 hC h => ?_
      have e70 := eqo (h 70 (by decide))
      exact Yk.move e70 ⟨Ext.refl _, rfl⟩
     ·refine stepY 2 false 71 rfl rfl (fun _ _ h => h) fun σ w1 hC h => ?_
      have e12 : σ 12 = NI ((getQ (some (sortB s.ids, objB ps s)) (Sha.sum ((ps.getD (i) dPt).bytes))).2) := (eqo (h 12 (by decide))).trans rfl
      exact Yk.move e12 ⟨Ext.refl _, rfl⟩
     ·refine stepY 2 false 71 rfl rfl (fun _ _ h => h) fun σ w1 hC h => ?_
      have e72 := eqo (h 72 (by decide))
      exact Yk.eqI (a := ((getQ (some (sortB s.ids, objB ps s)) (Sha.sum ((ps.getD (i) dPt).bytes))).2 : Nat)) (b := (0 : Nat)) e72 rfl (k_neq _ _ _ _) ⟨Ext.refl _, (congrArg Value.bool (decide_eq_false (fun h => h (by rw [hg]))))⟩
     ·refine stepN rfl fun σ w1 hC h => ?_
      have e71 := eqo (h 71 (by decide))
      have e73 := eqo (h 73 (by decide))
      exact Yk.pickF e71 e73 ⟨Ext.refl _, rfl⟩
     ·refine stepN rfl fun σ w1 hC h => ?_
      have e74 := eqo (h 74 (by decide))
      exact Yk.move e74 ⟨Ext.refl _, rfl⟩
     ·refine stepY 6 false 75 rfl rfl (fun _ _ h => h) fun σ w1 hC h => ?_
      have e9 : σ 9 = v82 := (eqo (h 9 (by decide))).trans rfl
      exact Yk.move e9 ⟨Ext.refl _, rfl⟩
     ·refine stepY 6 false 75 rfl rfl (fun _ _ h => h) fun σ w1 hC h => ?_
      have e76 := eqo (h 76 (by decide))
      exact Yk.convRB pk26_ty24 pk26_ty5 pk26_ty9 (RB.of (RB.ofOwn (Stab.own _ _ _ _ _ _ _ _ ho83 hC)) e76) ⟨Ext.refl _, rfl⟩
     ·refine stepY 6 false 75 rfl rfl (fun _ _ h => h) fun σ w1 hC h => ?_
      have e0 := (eqo (h 0 (by decide))).trans T0
      exact Yk.move e0 ⟨Ext.refl _, rfl⟩
     ·refine stepY 6 false 75 rfl rfl (fun _ _ h => h) fun σ w1 hC h => ?_
      have e7 := (eqo (h 7 (by decide))).trans T7
      exact Yk.move e7 ⟨Ext.refl _, rfl⟩
     ·refine stepY 6 false 75 rfl rfl (fun _ _ h => h) fun σ w1 hC h => ?_
      have e78 := eqo (h 78 (by decide))
      have e79 := eqo (h 79 (by decide))
      exact Yk.atRG pk26_ty22 pk26_szg41 (by decide) dPt (RG.of (hr.keep (hE.trans hC)) e78) e79 (by omega) fun v h => ⟨Ext.refl _, h⟩
     ·refine stepY 6 false 75 rfl rfl (fun _ _ h => h) fun σ w1 hC h => ?_
      have e80 : (fun x w' => PR (partC (ps.getD (i) dPt)) x w') (σ 80) w1 := h 80 (by decide)
      exact Yk.fieldPR (n := 1) pk26_fo41_0 e80 fun v h => ⟨Ext.refl _, h⟩
     ·refine stepY 6 false 75 rfl rfl (fun _ _ h => h) fun σ w1 hC h => ?_
      have e81 : (fun x w' => PR (((partC (ps.getD (i) dPt)).drop 0).take 1) x w') (σ 81) w1 := h 81 (by decide)
      exact Yk.loadC pk26_ty24 rfl (PR.cell e81 (show _ = some ((ps.getD (i) dPt).v : Value) from rfl)) ⟨Ext.refl _, rfl⟩
     ·refine stepY 6 false 75 rfl rfl (fun _ _ h => h) fun σ w1 hC h => ?_
      have e82 := eqo (h 82 (by decide))
      exact Yk.convRB pk26_ty24 pk26_ty5 pk26_ty9 (RB.of (hpr.keep (hE.trans hC)) e82) ⟨Ext.refl _, rfl⟩
     ·refine stepY 6 false 75 rfl rfl (fun _ _ h => h) fun σ w1 hC h => ?_
      have e77 := eqo (h 77 (by decide))
      have e83 := eqo (h 83 (by decide))
      exact Yk.eqSt (l := (getQ (some (sortB s.ids, objB ps s)) (Sha.sum ((ps.getD (i) dPt).bytes))).1.1) (m := (ps.getD (i) dPt).bytes) (.inr rfl) e77 e83 (decide ((getQ (some (sortB s.ids, objB ps s)) (Sha.sum ((ps.getD (i) dPt).bytes))).1.1 ≠ ((ps.getD (i) dPt).bytes : List UInt8))) rfl ⟨Ext.refl _, (congrArg Value.bool (decide_eq_false (fun h => h (by rw [hg]))))⟩
     ·refine stepN rfl fun σ w1 hC h => ?_
      have e75 := eqo (h 75 (by decide))
      have e84 := eqo (h 84 (by decide))
      exact Yk.pickF e75 e84 ⟨Ext.refl _, rfl⟩
     ·refine stepN rfl fun σ w1 hC h => ?_
      have e85 := eqo (h 85 (by decide))
      exact Yk.move e85 ⟨Ext.refl _, rfl⟩
     ·refine stepY 17 false 86 rfl rfl (fun _ _ h => h) fun σ w1 hC h => ?_
      have e11 : σ 11 = NI ((getQ (some (sortB s.ids, objB ps s)) (Sha.sum ((ps.getD (i) dPt).bytes))).1.2) := (eqo (h 11 (by decide))).trans rfl
      exact Yk.move e11 ⟨Ext.refl _, rfl⟩
     ·refine stepY 17 false 86 rfl rfl (fun _ _ h => h) fun σ w1 hC h => ?_
      have e87 := eqo (h 87 (by decide))
      exact Yk.eqI (a := ((getQ (some (sortB s.ids, objB ps s)) (Sha.sum ((ps.getD (i) dPt).bytes))).1.2 : Nat)) (b := (50 : Nat)) e87 rfl (k_gtr _ _ _ _) ⟨Ext.refl _, (congrArg Value.bool (decide_eq_false (by rw [hg]; dsimp only; omega)))⟩
     ·refine stepN rfl fun σ w1 hC h => ?_
      have e86 := eqo (h 86 (by decide))
      have e88 := eqo (h 88 (by decide))
      exact Yk.pickF e86 e88 ⟨Ext.refl _, rfl⟩
     ·refine stepN rfl fun σ w1 hC h => ?_
      have e89 := eqo (h 89 (by decide))
      exact Yk.move e89 ⟨Ext.refl _, rfl⟩
     ·refine stepY 21 false 90 rfl rfl (fun _ _ h => h) fun σ w1 hC h => ?_
      have e11 : σ 11 = NI ((getQ (some (sortB s.ids, objB ps s)) (Sha.sum ((ps.getD (i) dPt).bytes))).1.2) := (eqo (h 11 (by decide))).trans rfl
      exact Yk.move e11 ⟨Ext.refl _, rfl⟩
     ·refine stepY 21 false 90 rfl rfl (fun _ _ h => h) fun σ w1 hC h => ?_
      have e91 := eqo (h 91 (by decide))
      exact Yk.eqI (a := ((getQ (some (sortB s.ids, objB ps s)) (Sha.sum ((ps.getD (i) dPt).bytes))).1.2 : Nat)) (b := (0 : Nat)) e91 rfl (k_eql _ _ _ _) ⟨Ext.refl _, (congrArg Value.bool (decide_eq_true (by rw [hg]; exact hd0 hbz)))⟩
     ·refine stepY 21 false 90 rfl rfl (fun _ _ h => h) fun σ w1 hC h => ?_
      have e0 := (eqo (h 0 (by decide))).trans T0
      exact Yk.move e0 ⟨Ext.refl _, rfl⟩
     ·refine stepY 21 false 90 rfl rfl (fun _ _ h => h) fun σ w1 hC h => ?_
      have e7 := (eqo (h 7 (by decide))).trans T7
      exact Yk.move e7 ⟨Ext.refl _, rfl⟩
     ·refine stepY 21 false 90 rfl rfl (fun _ _ h => h) fun σ w1 hC h => ?_
      have e93 := eqo (h 93 (by decide))
      have e94 := eqo (h 94 (by decide))
      exact Yk.atRG pk26_ty22 pk26_szg41 (by decide) dPt (RG.of (hr.keep (hE.trans hC)) e93) e94 (by omega) fun v h => ⟨Ext.refl _, h⟩
     ·refine stepY 21 false 90 rfl rfl (fun _ _ h => h) fun σ w1 hC h => ?_
      have e95 : (fun x w' => PR (partC (ps.getD (i) dPt)) x w') (σ 95) w1 := h 95 (by decide)
      exact Yk.fieldPR (n := 1) pk26_fo41_1 e95 fun v h => ⟨Ext.refl _, h⟩
     ·refine stepY 21 false 90 rfl rfl (fun _ _ h => h) fun σ w1 hC h => ?_
      have e96 : (fun x w' => PR (((partC (ps.getD (i) dPt)).drop 1).take 1) x w') (σ 96) w1 := h 96 (by decide)
      exact Yk.loadC pk26_ty3 rfl (PR.cell e96 (show _ = some (.int .i64 ((ps.getD (i) dPt).base : Int) : Value) from rfl)) ⟨Ext.refl _, rfl⟩
     ·refine stepY 21 false 90 rfl rfl (fun _ _ h => h) fun σ w1 hC h => ?_
      have e97 := eqo (h 97 (by decide))
      exact Yk.eqI e97 (vr (NI 0) rfl) (z_lss _ .i64 ((ps.getD (i) dPt).base : Int) ((0 : Nat) : Int)) ⟨Ext.refl _, (congrArg Value.bool (decide_eq_true (hbz)))⟩
     ·refine stepY 21 false 90 rfl rfl (fun _ _ h => h) fun σ w1 hC h => ?_
      have e92 := eqo (h 92 (by decide))
      have e98 := eqo (h 98 (by decide))
      exact Yk.neBool (a := true) (b := true) pk26_ty4 e92 e98 ⟨Ext.refl _, rfl⟩
     ·refine stepN rfl fun σ w1 hC h => ?_
      have e90 := eqo (h 90 (by decide))
      have e99 := eqo (h 99 (by decide))
      exact Yk.pickF e90 e99 ⟨Ext.refl _, rfl⟩
    intro ρ96 w97 hx98 he hf
    obtain ⟨-, -, -, -, -, -, -, -, -, -, -, -, -, -, -, -, -, -, -, -, -, -, -, -, -, -, -, -, -, -, -, k100, -⟩ := hf
    obtain ⟨T0, T3, T4, T5, T6, T7, T8, T9, T10, T11, T12, T15, T23, T43, T47, -⟩ := he.hold [(0, _), (3, _), (4, _), (5, _), (6, _), (7, _), (8, PQ n65 0), (9, v82), (10, NI ((getQ (some (sortB s.ids, objB ps s)) (Sha.sum ((ps.getD (i) dPt).bytes))).2)), (11, NI ((getQ (some (sortB s.ids, objB ps s)) (Sha.sum ((ps.getD (i) dPt).bytes))).1.2)), (12, NI ((getQ (some (sortB s.ids, objB ps s)) (Sha.sum ((ps.getD (i) dPt).bytes))).2)), (15, _), (23, _), (43, _), (47, _)] ⟨T0, T3, T4, T5, T6, T7, rfl, rfl, rfl, rfl, rfl, T15, T23, T43, (congrArg Value.bool (decide_eq_true (hlt))), trivial⟩ rfl
    clear he
    have hE := hE.trans hx98
    have hA71 := hA71.trans hx98
    have hb74 := eb hx98 hb74
    have hA86 := hA86.trans hx98
    have ho83 := Stab.own _ _ _ _ _ _ _ _ ho83 hx98
    have T100 : ρ96 100 = .bool (false) := k100
    clear k100
    refine tN (hK95 _ _ (wpF_false T100 (wpF_skip (bN (tN (hK52 _ _ (wt (oM rfl (oS rfl (Yk.bin (xv := NI i) (yv := NI 1) T7 rfl rfl (i64_add _ _ _ (by omega)) (oA rfl (oL_ [(0, v), (3, v29), (4, NI ((buildP ps).2)), (5, v36), (6, NI 0), (7, NI ((i) + (1))), (8, PQ n65 0), (9, v82), (10, NI ((getQ (some (sortB s.ids, objB ps s)) (Sha.sum ((ps.getD (i) dPt).bytes))).2)), (11, NI ((getQ (some (sortB s.ids, objB ps s)) (Sha.sum ((ps.getD (i) dPt).bytes))).1.2)), (12, NI ((getQ (some (sortB s.ids, objB ps s)) (Sha.sum ((ps.getD (i) dPt).bytes))).2)), (15, .bool (false)), (23, .bool (false)), (43, .bool (false)), (47, .bool (true)), (100, .bool (false))] ⟨T0, T3, T4, T5, T6, rfl, T8, T9, T10, T11, T12, T15, T23, T43, T47, T100, trivial⟩ fun ρ99 ⟨T0, T3, T4, T5, T6, T7, T8, T9, T10, T11, T12, T15, T23, T43, T47, T100, _⟩ => (tN (And.intro ⟨i + 1, T0, T3, T4, T5, T6, T15, T23, T43, T7, hE, (hr26.keep hA71), (hqo.keep hA71), (hr30.keep hA71), (hq.keep hA71), by omega, trivial⟩ ?_))))))))))))))
    show ps.length - (intOf (ρ99 7)).toNat < ps.length - (intOf (ρ48 7)).toNat
    rw [T7, q7]
    simp only [intOf, Int.toNat_natCast]; omega
   refine sk fun K100 hK100 => (sk fun K101 hK101 => (wt (oM rfl (oM rfl (oS rfl (Yk.lenRG pk26_ty22 (RG.of (hr.keep hE) T0) (oS rfl (Yk.eqI (a := (i : Nat)) (b := (ps.length : Nat)) T7 rfl (k_lss _ _ _ _) (oZ (tN (hK101 _ _ (wpF_true (vr (.bool (true)) (congrArg Value.bool (decide_eq_true (hlt)))) (wpF_skip (tN (hK100 _ _ (sk fun K102 hK102 => (wpF_block (sk fun K103 hK103 => (wt ?_)))))))))))))))))))
   refine oM rfl (oM rfl ?_)
   have hl106 : (partC (ps.getD (i) dPt)).length = 2 := (RG.elem (hr.keep hE) dPt (by omega))
   refine oS rfl (Yk.atRG pk26_ty22 pk26_szg41 (by decide) dPt (RG.of (hr.keep hE) T0) T7 (by omega) fun v104 hp105 => (oS rfl (Yk.fieldPR (n := 1) pk26_fo41_0 (PR.of hp105 (vr v104 rfl)) fun v107 hp108 => (oS rfl (Yk.loadC pk26_ty24 rfl (PR.cell (PR.of hp108 (vr v107 rfl)) (show _ = some ((ps.getD (i) dPt).v : Value) from rfl)) (oS rfl (Yk.rows1 pk26_rows1_75 (RB.of (hpr.keep hE) (vr ((ps.getD (i) dPt).v) rfl)) fun v109 w110 hr111 hx112 => ?_)))))))
   have hE := hE.trans hx112
   have hr26 := hr26.keep hx112
   have hqo := hqo.keep hx112
   have hr30 := hr30.keep hx112
   have hq := hq.keep hx112
   have hp105 := PR.keep hp105 hx112
   have hp108 := PR.keep hp108 hx112
   refine oS rfl (Yk.callA1 pk26_pl17 (vr v109 rfl) ((sum_one _ (hG.keep hE) v109 ((ps.getD (i) dPt).bytes) hr111 (by omega)).mono ?_))
   rintro e w114 ⟨rfl, hx113⟩
   refine ⟨_, rfl, ?_⟩
   have hE := hE.trans hx113
   have hr26 := hr26.keep hx113
   have hqo := hqo.keep hx113
   have hr30 := hr30.keep hx113
   have hq := hq.keep hx113
   have hp105 := PR.keep hp105 hx113
   have hp108 := PR.keep hp108 hx113
   have hr111 := hr111.keep hx113
   refine oS rfl (Yk.alloc (cs := (Lib.byteCells (List.replicate 32 0)).toArray) pk26_al38 fun n115 w116 hn117 hb118 hx119 hs120 => ?_)
   have hA121 := Ext.refl w114
   have hea122 := hE
   have hz123 := hE.size
   have hE := hE.trans hx119
   have hA121 := hA121.trans hx119
   have hb124 := hb118; clear hb118
   have hl125 : n115 < w116.heap.size := by omega
   refine oS rfl (Yk.storeAll (vr (PQ n115 0) rfl) (vr (AB (Sha.sum ((ps.getD (i) dPt).bytes))) rfl) hb124 (by exact idsize (Sha.sum_length _) List.length_replicate) (by exact sizeId_of (Sha.sum_length _)) (byteCells_one _) fun w126 hb127 hg128 hs129 => ?_)
   have hE := row_fresh hE hg128 (Nat.le_trans hz123 (by omega))
   have hA121 := row_fresh hA121 hg128 (Nat.le_trans (Nat.le_refl _) (by omega))
   clear hb124
   have hb124 := hb127; clear hb127
   have hl130 := bl hb124
   refine oZ ?_
   clear hp105
   clear hp108
   refine tN (hK103 _ _ (sk fun K131 hK131 => (wt (oM rfl (oS rfl (Yk.loadAll (vr (PQ n115 0) rfl) hb124 pk26_ty38 rfl (by exact sizeId_of (Sha.sum_length _)) (oS rfl (Yk.callA2 pk26_pl18 T5 (vr (AB (Sha.sum ((ps.getD (i) dPt).bytes))) rfl) ((pget_any _ (v36) (some (sortB s.ids, objB ps s)) (hq.keep hA121) (Sha.sum ((ps.getD (i) dPt).bytes)) (Sha.sum_length _) (by rw [hg]; dsimp only; omega)).mono ?_)))))))))
   rintro e w135 ⟨v132, rfl, ho133, hx134⟩
   refine ⟨_, rfl, ?_⟩
   have hA136 := Ext.refl w126
   have hea137 := hE
   have hea138 := hA121
   have hz139 := hE.size
   have hz140 := hA121.size
   have hap141 : OB v132 n115 := own_older ho133 (bl hb124)
   have hE := hE.trans hx134
   have hA121 := hA121.trans hx134
   have hb124 := eb hx134 hb124
   have hA136 := hA136.trans hx134
   refine oM rfl (oS rfl (Yk.extract (vs := [v132, NI ((getQ (some (sortB s.ids, objB ps s)) (Sha.sum ((ps.getD (i) dPt).bytes))).2)]) (vr (.tuple #[v132, NI ((getQ (some (sortB s.ids, objB ps s)) (Sha.sum ((ps.getD (i) dPt).bytes))).2)]) rfl) (show _ = some (v132 : Value) from rfl) (oS rfl (Yk.extract (vs := [v132, NI ((getQ (some (sortB s.ids, objB ps s)) (Sha.sum ((ps.getD (i) dPt).bytes))).2)]) (vr (.tuple #[v132, NI ((getQ (some (sortB s.ids, objB ps s)) (Sha.sum ((ps.getD (i) dPt).bytes))).2)]) rfl) (show _ = some (NI ((getQ (some (sortB s.ids, objB ps s)) (Sha.sum ((ps.getD (i) dPt).bytes))).2) : Value) from rfl) (oA rfl (oA rfl (oZ (tN (hK131 _ _ (sk fun K142 hK142 => (wt (oM rfl (oS rfl (Yk.loadAll (vr (PQ n115 0) rfl) hb124 pk26_ty38 rfl (by exact sizeId_of (Sha.sum_length _)) (oS rfl (Yk.callA2 pk26_pl19 T5 (vr (AB (Sha.sum ((ps.getD (i) dPt).bytes))) rfl) ((pdep_any _ (v36) (some (sortB s.ids, objB ps s)) (hq.keep hA121) (Sha.sum ((ps.getD (i) dPt).bytes)) (Sha.sum_length _)).mono ?_)))))))))))))))))
   rintro e w144 ⟨rfl, hx143⟩
   refine ⟨_, rfl, ?_⟩
   have hE := hE.trans hx143
   have hA121 := hA121.trans hx143
   have hb124 := eb hx143 hb124
   have hA136 := hA136.trans hx143
   have ho133 := Stab.own _ _ _ _ _ _ _ _ ho133 hx143
   refine oM rfl (oS rfl (Yk.extract (vs := [NI ((getQ (some (sortB s.ids, objB ps s)) (Sha.sum ((ps.getD (i) dPt).bytes))).1.2), NI ((getQ (some (sortB s.ids, objB ps s)) (Sha.sum ((ps.getD (i) dPt).bytes))).2)]) (vr (.tuple #[NI ((getQ (some (sortB s.ids, objB ps s)) (Sha.sum ((ps.getD (i) dPt).bytes))).1.2), NI ((getQ (some (sortB s.ids, objB ps s)) (Sha.sum ((ps.getD (i) dPt).bytes))).2)]) rfl) (show _ = some (NI ((getQ (some (sortB s.ids, objB ps s)) (Sha.sum ((ps.getD (i) dPt).bytes))).1.2) : Value) from rfl) (oS rfl (Yk.extract (vs := [NI ((getQ (some (sortB s.ids, objB ps s)) (Sha.sum ((ps.getD (i) dPt).bytes))).1.2), NI ((getQ (some (sortB s.ids, objB ps s)) (Sha.sum ((ps.getD (i) dPt).bytes))).2)]) (vr (.tuple #[NI ((getQ (some (sortB s.ids, objB ps s)) (Sha.sum ((ps.getD (i) dPt).bytes))).1.2), NI ((getQ (some (sortB s.ids, objB ps s)) (Sha.sum ((ps.getD (i) dPt).bytes))).2)]) rfl) (show _ = some (NI ((getQ (some (sortB s.ids, objB ps s)) (Sha.sum ((ps.getD (i) dPt).bytes))).2) : Value) from rfl) (oA rfl (oA rfl (oZ (tN (hK142 _ _ (sk fun K145 hK145 => ?_))))))))))
   refine wpF_draw [Is (NI ((getQ (some (sortB s.ids, objB ps s)) (Sha.sum ((ps.getD (i) dPt).bytes))).2)), Is (.bool (false)), Is (.bool (false)), Is (NI ((getQ (some (sortB s.ids, objB ps s)) (Sha.sum ((ps.getD (i) dPt).bytes))).2)), Is (.bool (false)), Is (.bool (false)), Is (.bool (false)), Is (v132), Is (St ((getQ (some (sortB s.ids, objB ps s)) (Sha.sum ((ps.getD (i) dPt).bytes))).1.1)), Is (v), Is (NI i), fun x w' => PR (partC (ps.getD (i) dPt)) x w', fun x w' => PR (((partC (ps.getD (i) dPt)).drop 0).take 1) x w', Is ((ps.getD (i) dPt).v), Is (St ((ps.getD (i) dPt).bytes)), Is (.bool (false)), Is (.bool (false)), Is (.bool (false)), Is (NI ((getQ (some (sortB s.ids, objB ps s)) (Sha.sum ((ps.getD (i) dPt).bytes))).1.2)), Is (.bool (false)), Is (.bool (false)), Is (.bool (false)), Is (NI ((getQ (some (sortB s.ids, objB ps s)) (Sha.sum ((ps.getD (i) dPt).bytes))).1.2)), Is (.bool (false)), Is (v), Is (NI i), fun x w' => PR (partC (ps.getD (i) dPt)) x w', fun x w' => PR (((partC (ps.getD (i) dPt)).drop 1).take 1) x w', Is (.int .i64 ((ps.getD (i) dPt).base : Int)), Is (.bool (false)), Is (.bool (false)), Is (.bool (false))] (by kernel_rfl) [69, 70, 71, 72, 73, 74, 75, 76, 77, 78, 79, 80, 81, 82, 83, 84, 85, 86, 87, 88, 89, 90, 91, 92, 93, 94, 95, 96, 97, 98, 99, 100] (by kernel_rfl) (by kernel_rfl) (si11 ⟨(fun _ _ _ h k => PR.keep h k), (fun _ _ _ h k => PR.keep h k), Stab.is _, (si12 ⟨(fun _ _ _ h k => PR.keep h k), (fun _ _ _ h k => PR.keep h k), (si4 trivial)⟩)⟩) ?hs2015 ?hQ2015
   case hs2015 =>
    refine ⟨?_, ?_, ?_, ?_, ?_, ?_, ?_, ?_, ?_, ?_, ?_, ?_, ?_, ?_, ?_, ?_, ?_, ?_, ?_, ?_, ?_, ?_, ?_, ?_, ?_, ?_, ?_, ?_, ?_, ?_, ?_, ?_, trivial⟩
    ·refine stepN rfl fun σ w1 hC h => ?_
     have e10 : σ 10 = NI ((getQ (some (sortB s.ids, objB ps s)) (Sha.sum ((ps.getD (i) dPt).bytes))).2) := (eqo (h 10 (by decide))).trans rfl
     exact Yk.move e10 ⟨Ext.refl _, rfl⟩
    ·refine stepN rfl fun σ w1 hC h => ?_
     have e69 := eqo (h 69 (by decide))
     exact Yk.eqI (a := ((getQ (some (sortB s.ids, objB ps s)) (Sha.sum ((ps.getD (i) dPt).bytes))).2 : Nat)) (b := (0 : Nat)) e69 rfl (k_neq _ _ _ _) ⟨Ext.refl _, (congrArg Value.bool (decide_eq_false (fun h => h (by rw [hg]))))⟩
    ·refine stepN rfl fun σ w1 hC h => ?_
     have e70 := eqo (h 70 (by decide))
     exact Yk.move e70 ⟨Ext.refl _, rfl⟩
    ·refine stepY 2 false 71 rfl rfl (fun _ _ h => h) fun σ w1 hC h => ?_
     have e12 : σ 12 = NI ((getQ (some (sortB s.ids, objB ps s)) (Sha.sum ((ps.getD (i) dPt).bytes))).2) := (eqo (h 12 (by decide))).trans rfl
     exact Yk.move e12 ⟨Ext.refl _, rfl⟩
    ·refine stepY 2 false 71 rfl rfl (fun _ _ h => h) fun σ w1 hC h => ?_
     have e72 := eqo (h 72 (by decide))
     exact Yk.eqI (a := ((getQ (some (sortB s.ids, objB ps s)) (Sha.sum ((ps.getD (i) dPt).bytes))).2 : Nat)) (b := (0 : Nat)) e72 rfl (k_neq _ _ _ _) ⟨Ext.refl _, (congrArg Value.bool (decide_eq_false (fun h => h (by rw [hg]))))⟩
    ·refine stepN rfl fun σ w1 hC h => ?_
     have e71 := eqo (h 71 (by decide))
     have e73 := eqo (h 73 (by decide))
     exact Yk.pickF e71 e73 ⟨Ext.refl _, rfl⟩
    ·refine stepN rfl fun σ w1 hC h => ?_
     have e74 := eqo (h 74 (by decide))
     exact Yk.move e74 ⟨Ext.refl _, rfl⟩
    ·refine stepY 6 false 75 rfl rfl (fun _ _ h => h) fun σ w1 hC h => ?_
     have e9 : σ 9 = v132 := (eqo (h 9 (by decide))).trans rfl
     exact Yk.move e9 ⟨Ext.refl _, rfl⟩
    ·refine stepY 6 false 75 rfl rfl (fun _ _ h => h) fun σ w1 hC h => ?_
     have e76 := eqo (h 76 (by decide))
     exact Yk.convRB pk26_ty24 pk26_ty5 pk26_ty9 (RB.of (RB.ofOwn (Stab.own _ _ _ _ _ _ _ _ ho133 hC)) e76) ⟨Ext.refl _, rfl⟩
    ·refine stepY 6 false 75 rfl rfl (fun _ _ h => h) fun σ w1 hC h => ?_
     have e0 := (eqo (h 0 (by decide))).trans T0
     exact Yk.move e0 ⟨Ext.refl _, rfl⟩
    ·refine stepY 6 false 75 rfl rfl (fun _ _ h => h) fun σ w1 hC h => ?_
     have e7 := (eqo (h 7 (by decide))).trans T7
     exact Yk.move e7 ⟨Ext.refl _, rfl⟩
    ·refine stepY 6 false 75 rfl rfl (fun _ _ h => h) fun σ w1 hC h => ?_
     have e78 := eqo (h 78 (by decide))
     have e79 := eqo (h 79 (by decide))
     exact Yk.atRG pk26_ty22 pk26_szg41 (by decide) dPt (RG.of (hr.keep (hE.trans hC)) e78) e79 (by omega) fun v h => ⟨Ext.refl _, h⟩
    ·refine stepY 6 false 75 rfl rfl (fun _ _ h => h) fun σ w1 hC h => ?_
     have e80 : (fun x w' => PR (partC (ps.getD (i) dPt)) x w') (σ 80) w1 := h 80 (by decide)
     exact Yk.fieldPR (n := 1) pk26_fo41_0 e80 fun v h => ⟨Ext.refl _, h⟩
    ·refine stepY 6 false 75 rfl rfl (fun _ _ h => h) fun σ w1 hC h => ?_
     have e81 : (fun x w' => PR (((partC (ps.getD (i) dPt)).drop 0).take 1) x w') (σ 81) w1 := h 81 (by decide)
     exact Yk.loadC pk26_ty24 rfl (PR.cell e81 (show _ = some ((ps.getD (i) dPt).v : Value) from rfl)) ⟨Ext.refl _, rfl⟩
    ·refine stepY 6 false 75 rfl rfl (fun _ _ h => h) fun σ w1 hC h => ?_
     have e82 := eqo (h 82 (by decide))
     exact Yk.convRB pk26_ty24 pk26_ty5 pk26_ty9 (RB.of (hpr.keep (hE.trans hC)) e82) ⟨Ext.refl _, rfl⟩
    ·refine stepY 6 false 75 rfl rfl (fun _ _ h => h) fun σ w1 hC h => ?_
     have e77 := eqo (h 77 (by decide))
     have e83 := eqo (h 83 (by decide))
     exact Yk.eqSt (l := (getQ (some (sortB s.ids, objB ps s)) (Sha.sum ((ps.getD (i) dPt).bytes))).1.1) (m := (ps.getD (i) dPt).bytes) (.inr rfl) e77 e83 (decide ((getQ (some (sortB s.ids, objB ps s)) (Sha.sum ((ps.getD (i) dPt).bytes))).1.1 ≠ ((ps.getD (i) dPt).bytes : List UInt8))) rfl ⟨Ext.refl _, (congrArg Value.bool (decide_eq_false (fun h => h (by rw [hg]))))⟩
    ·refine stepN rfl fun σ w1 hC h => ?_
     have e75 := eqo (h 75 (by decide))
     have e84 := eqo (h 84 (by decide))
     exact Yk.pickF e75 e84 ⟨Ext.refl _, rfl⟩
    ·refine stepN rfl fun σ w1 hC h => ?_
     have e85 := eqo (h 85 (by decide))
     exact Yk.move e85 ⟨Ext.refl _, rfl⟩
    ·refine stepY 17 false 86 rfl rfl (fun _ _ h => h) fun σ w1 hC h => ?_
     have e11 : σ 11 = NI ((getQ (some (sortB s.ids, objB ps s)) (Sha.sum ((ps.getD (i) dPt).bytes))).1.2) := (eqo (h 11 (by decide))).trans rfl
     exact Yk.move e11 ⟨Ext.refl _, rfl⟩
    ·refine stepY 17 false 86 rfl rfl (fun _ _ h => h) fun σ w1 hC h => ?_
     have e87 := eqo (h 87 (by decide))
     exact Yk.eqI (a := ((getQ (some (sortB s.ids, objB ps s)) (Sha.sum ((ps.getD (i) dPt).bytes))).1.2 : Nat)) (b := (50 : Nat)) e87 rfl (k_gtr _ _ _ _) ⟨Ext.refl _, (congrArg Value.bool (decide_eq_false (by rw [hg]; dsimp only; omega)))⟩
    ·refine stepN rfl fun σ w1 hC h => ?_
     have e86 := eqo (h 86 (by decide))
     have e88 := eqo (h 88 (by decide))
     exact Yk.pickF e86 e88 ⟨Ext.refl _, rfl⟩
    ·refine stepN rfl fun σ w1 hC h => ?_
     have e89 := eqo (h 89 (by decide))
     exact Yk.move e89 ⟨Ext.refl _, rfl⟩
    ·refine stepY 21 false 90 rfl rfl (fun _ _ h => h) fun σ w1 hC h => ?_
     have e11 : σ 11 = NI ((getQ (some (sortB s.ids, objB ps s)) (Sha.sum ((ps.getD (i) dPt).bytes))).1.2) := (eqo (h 11 (by decide))).trans rfl
     exact Yk.move e11 ⟨Ext.refl _, rfl⟩
    ·refine stepY 21 false 90 rfl rfl (fun _ _ h => h) fun σ w1 hC h => ?_
     have e91 := eqo (h 91 (by decide))
     exact Yk.eqI (a := ((getQ (some (sortB s.ids, objB ps s)) (Sha.sum ((ps.getD (i) dPt).bytes))).1.2 : Nat)) (b := (0 : Nat)) e91 rfl (k_eql _ _ _ _) ⟨Ext.refl _, (congrArg Value.bool (decide_eq_false (by rw [hg]; exact hd1 hbz)))⟩
    ·refine stepY 21 false 90 rfl rfl (fun _ _ h => h) fun σ w1 hC h => ?_
     have e0 := (eqo (h 0 (by decide))).trans T0
     exact Yk.move e0 ⟨Ext.refl _, rfl⟩
    ·refine stepY 21 false 90 rfl rfl (fun _ _ h => h) fun σ w1 hC h => ?_
     have e7 := (eqo (h 7 (by decide))).trans T7
     exact Yk.move e7 ⟨Ext.refl _, rfl⟩
    ·refine stepY 21 false 90 rfl rfl (fun _ _ h => h) fun σ w1 hC h => ?_
     have e93 := eqo (h 93 (by decide))
     have e94 := eqo (h 94 (by decide))
     exact Yk.atRG pk26_ty22 pk26_szg41 (by decide) dPt (RG.of (hr.keep (hE.trans hC)) e93) e94 (by omega) fun v h => ⟨Ext.refl _, h⟩
    ·refine stepY 21 false 90 rfl rfl (fun _ _ h => h) fun σ w1 hC h => ?_
     have e95 : (fun x w' => PR (partC (ps.getD (i) dPt)) x w') (σ 95) w1 := h 95 (by decide)
     exact Yk.fieldPR (n := 1) pk26_fo41_1 e95 fun v h => ⟨Ext.refl _, h⟩
    ·refine stepY 21 false 90 rfl rfl (fun _ _ h => h) fun σ w1 hC h => ?_
     have e96 : (fun x w' => PR (((partC (ps.getD (i) dPt)).drop 1).take 1) x w') (σ 96) w1 := h 96 (by decide)
     exact Yk.loadC pk26_ty3 rfl (PR.cell e96 (show _ = some (.int .i64 ((ps.getD (i) dPt).base : Int) : Value) from rfl)) ⟨Ext.refl _, rfl⟩
    ·refine stepY 21 false 90 rfl rfl (fun _ _ h => h) fun σ w1 hC h => ?_
     have e97 := eqo (h 97 (by decide))
     exact Yk.eqI e97 (vr (NI 0) rfl) (z_lss _ .i64 ((ps.getD (i) dPt).base : Int) ((0 : Nat) : Int)) ⟨Ext.refl _, (congrArg Value.bool (decide_eq_false (hbz)))⟩
    ·refine stepY 21 false 90 rfl rfl (fun _ _ h => h) fun σ w1 hC h => ?_
     have e92 := eqo (h 92 (by decide))
     have e98 := eqo (h 98 (by decide))
     exact Yk.neBool (a := false) (b := false) pk26_ty4 e92 e98 ⟨Ext.refl _, rfl⟩
    ·refine stepN rfl fun σ w1 hC h => ?_
     have e90 := eqo (h 90 (by decide))
     have e99 := eqo (h 99 (by decide))
     exact Yk.pickF e90 e99 ⟨Ext.refl _, rfl⟩
   intro ρ146 w147 hx148 he hf
   obtain ⟨-, -, -, -, -, -, -, -, -, -, -, -, -, -, -, -, -, -, -, -, -, -, -, -, -, -, -, -, -, -, -, k100, -⟩ := hf
   obtain ⟨T0, T3, T4, T5, T6, T7, T8, T9, T10, T11, T12, T15, T23, T43, T47, -⟩ := he.hold [(0, _), (3, _), (4, _), (5, _), (6, _), (7, _), (8, PQ n115 0), (9, v132), (10, NI ((getQ (some (sortB s.ids, objB ps s)) (Sha.sum ((ps.getD (i) dPt).bytes))).2)), (11, NI ((getQ (some (sortB s.ids, objB ps s)) (Sha.sum ((ps.getD (i) dPt).bytes))).1.2)), (12, NI ((getQ (some (sortB s.ids, objB ps s)) (Sha.sum ((ps.getD (i) dPt).bytes))).2)), (15, _), (23, _), (43, _), (47, _)] ⟨T0, T3, T4, T5, T6, T7, rfl, rfl, rfl, rfl, rfl, T15, T23, T43, (congrArg Value.bool (decide_eq_true (hlt))), trivial⟩ rfl
   clear he
   have hE := hE.trans hx148
   have hA121 := hA121.trans hx148
   have hb124 := eb hx148 hb124
   have hA136 := hA136.trans hx148
   have ho133 := Stab.own _ _ _ _ _ _ _ _ ho133 hx148
   have T100 : ρ146 100 = .bool (false) := k100
   clear k100
   refine tN (hK145 _ _ (wpF_false T100 (wpF_skip (bN (tN (hK102 _ _ (wt (oM rfl (oS rfl (Yk.bin (xv := NI i) (yv := NI 1) T7 rfl rfl (i64_add _ _ _ (by omega)) (oA rfl (oL_ [(0, v), (3, v29), (4, NI ((buildP ps).2)), (5, v36), (6, NI 0), (7, NI ((i) + (1))), (8, PQ n115 0), (9, v132), (10, NI ((getQ (some (sortB s.ids, objB ps s)) (Sha.sum ((ps.getD (i) dPt).bytes))).2)), (11, NI ((getQ (some (sortB s.ids, objB ps s)) (Sha.sum ((ps.getD (i) dPt).bytes))).1.2)), (12, NI ((getQ (some (sortB s.ids, objB ps s)) (Sha.sum ((ps.getD (i) dPt).bytes))).2)), (15, .bool (false)), (23, .bool (false)), (43, .bool (false)), (47, .bool (true)), (100, .bool (false))] ⟨T0, T3, T4, T5, T6, rfl, T8, T9, T10, T11, T12, T15, T23, T43, T47, T100, trivial⟩ fun ρ149 ⟨T0, T3, T4, T5, T6, T7, T8, T9, T10, T11, T12, T15, T23, T43, T47, T100, _⟩ => (tN (And.intro ⟨i + 1, T0, T3, T4, T5, T6, T15, T23, T43, T7, hE, (hr26.keep hA121), (hqo.keep hA121), (hr30.keep hA121), (hq.keep hA121), by omega, trivial⟩ ?_))))))))))))))
   show ps.length - (intOf (ρ149 7)).toNat < ps.length - (intOf (ρ48 7)).toNat
   rw [T7, q7]
   simp only [intOf, Int.toNat_natCast]; omega
  refine sk fun K150 hK150 => (sk fun K151 hK151 => (wt (oM rfl (oM rfl (oS rfl (Yk.lenRG pk26_ty22 (RG.of (hr.keep hE) T0) (oS rfl (Yk.eqI (a := (i : Nat)) (b := (ps.length : Nat)) T7 rfl (k_lss _ _ _ _) (oZ (tN (hK151 _ _ (wpF_false (vr (.bool (false)) (congrArg Value.bool (decide_eq_false (hlt)))) (wpF_exit (thenF_exit (thenF_exit (inBlockF_hit (tN (hK45 _ _ (sk fun K152 hK152 => (wt (oS rfl (Yk.callA0 pk26_pl14  ((awake11 _ (hG.keep hE)).mono ?_)))))))))))))))))))))))
  rintro e w154 ⟨rfl, hx153⟩
  refine ⟨_, rfl, ?_⟩
  have hE := hE.trans hx153
  have hr26 := hr26.keep hx153
  have hqo := hqo.keep hx153
  have hr30 := hr30.keep hx153
  have hq := hq.keep hx153
  refine oA rfl (oZ (tN (hK152 _ _ (wpF_ret (postF_ret (fn := Tryd.f4) _ rfl [.bool (true)] (.bool (true)) rfl ⟨rfl, trivial⟩ ?_)))))
  exact ⟨rfl, hE⟩
 refine tN (hK1 _ _ (sk fun K155 hK155 => (sk fun K156 hK156 => (wt (oM rfl (oS rfl (Yk.callA1 pk26_pl10 T0 ((light_any _ v ps (hr.keep hE) (hps.keep hE)).mono ?_))))))))
 rintro e w158 ⟨c_, rfl, hlc, hx157⟩
 refine ⟨_, rfl, ?_⟩
 have hE := hE.trans hx157
 obtain rfl : c_ = false := by cases hcc : c_ with | false => rfl | true => exact absurd (hlc.1 hcc) hL
 refine oS rfl (Yk.notB (vr (.bool (false)) rfl) (oZ (tN (hK156 _ _ (wpF_true (vr (.bool (true)) rfl) (sk fun K159 hK159 => (wt (oA rfl (oZ (tN (hK159 _ _ (wpF_ret (thenF_ret (postF_ret (fn := Tryd.f4) _ rfl [.bool (true)] (.bool (true)) rfl ⟨rfl, trivial⟩ ?_))))))))))))))
 exact ⟨rfl, hE⟩
open Go.ChangeShapes Go.WideShapes Go.ChangeAt Go.RowKit Go.Deep
instance : Inhabited Pt := ⟨dPt⟩
theorem parts_get : ∀ (l : List Pt) (i r : Nat), r < 2 → i < l.length → (l.flatMap partC)[i * 2 + r]? = (partC (l.getD i dPt))[r]?
  | [], i, _, _, h => by simp at h
  | a :: l, 0, r, hr, _ => by
    rw [List.flatMap_cons, Nat.zero_mul, Nat.zero_add, List.getElem?_append_left (by simpa [partC] using hr)]
    rfl
  | a :: l, i + 1, r, hr, h => by
    rw [List.flatMap_cons, List.getElem?_append_right (by simp [partC]; omega)]
    have := parts_get l i r hr (by simpa using h)
    rw [show (i + 1) * 2 + r - (partC a).length = i * 2 + r by simp [partC]; omega, this]
    rfl
section
variable {H : Type} {enc : TypeId × Value → H} {P : Program} {W : World}
theorem open_parts {t e e8 : TypeId} {f0 f1 : Field} {r : Reach} {b0 : Nat} {v : Value} {d : DataW H} {ps : List MemPlace} (ht : P.underlying t = some (.slice e)) (he : P.underlying e = some (.struct #[f0, f1])) (ce : P.cellsOf e = 2) (o0 : f0.offset = 0) (o1 : f1.offset = 1) (c0 : P.cellsOf f0.type = 1) (c1 : P.cellsOf f1.type = 1)
    (h8 : P.underlying f0.type = some (.slice e8)) (hu : P.underlying e8 = some (.int .u8)) (c8 : P.cellsOf e8 = 1) (hi1 : P.underlying f1.type = some (.int .i64))
    (hval : Value.okWide P W r b0 t v) (hd : DataW.Trod enc P W 0 (fun _ => true) true t v d ps) : ∃ qs, RG 2 partC W v qs ∧ PartsOk W qs ∧ ∀ x ∈ ps, x.block < W.heap.size := by
  obtain ⟨a0, len0, cap0, rfl⟩ := okWide_slice ht hval
  obtain ⟨fuel, hf⟩ := hd
  have hlt := DataW.trod_lt fuel _ _ _ hf
  rcases open_slice_pairs ht he ce o0 o1 c0 c1 hf with ⟨hcs, hx⟩ | ⟨a, len, cap, m, n, V0, V1, D0, D1, P0, P1, hcs, _, hl, hm, hmm, hx, hel⟩
  · simp [Value.cells] at hcs
    obtain ⟨rfl, rfl, rfl⟩ := hcs
    exact ⟨[], RG.nil _ _ _, (fun p hp => by cases hp), hlt⟩
  · simp [Value.cells] at hcs
    obtain ⟨rfl, rfl, rfl⟩ := hcs
    have hmc : m = cap0 := by simpa using hmm
    obtain ⟨L, hL⟩ := choose_lt (α := Pt) (p := fun i q => V0 i = q.v ∧ V1 i = .int .i64 q.base ∧ RB W q.v q.bytes ∧ -9223372036854775808 ≤ q.base ∧ q.base ≤ 9223372036854775807) (fun i (hi : i < len0) => by
      obtain ⟨-, -, g0, g1⟩ := hel i (by omega)
      obtain ⟨c, l, h1, h2, _⟩ := open_bytesC h8 hu c8 g0
      simp only [List.cons.injEq, and_true] at h1
      obtain ⟨z, e1, _, wz⟩ := DataW.trod_int hi1 g1
      simp only [List.cons.injEq, and_true] at e1
      have hz : -9223372036854775808 ≤ z ∧ z ≤ 9223372036854775807 := by simpa [Lit.wf, IntKind.min, IntKind.max, IntKind.signed, IntKind.bits] using wz
      exact ⟨⟨c, l, z⟩, h1, e1, h2, hz⟩)
    have hg : ∀ i, i < len0 → ((List.range len0).map L).getD i dPt = L i := fun i hi => by
      rw [List.getD_eq_getElem?_getD, List.getElem?_map, List.getElem?_range hi]; rfl
    have hlen : ∀ l : List Pt, (l.flatMap partC).length = l.length * 2 := fun l => by
      induction l with
      | nil => rfl
      | cons a l ih => rw [List.flatMap_cons, List.length_append, ih, List.length_cons]; simp [partC]; omega
    refine ⟨(List.range len0).map L, ⟨fun x _ => rfl, hlen _, some a, cap0, by simp, by simpa using hl, hm, (fun h => by cases h), fun a' ha j u hu => ?_⟩, fun p hp => ?_, hlt⟩
    · cases ha
      have hj : j < len0 * 2 := by
        have := (List.getElem?_eq_some_iff.1 hu).1
        rw [hlen] at this
        simpa using this
      have hi : j / 2 < len0 := by omega
      have hu' : ((List.range len0).map L |>.flatMap partC)[j / 2 * 2 + j % 2]? = some u := by rw [show j / 2 * 2 + j % 2 = j by omega]; exact hu
      rw [parts_get _ _ _ (by omega) (by simpa using hi), hg _ hi] at hu'
      obtain ⟨k0, k1, -, -⟩ := hL _ hi
      obtain ⟨w0, w1, -, -⟩ := hel (j / 2) (by omega)
      rcases (by omega : j % 2 = 0 ∨ j % 2 = 1) with h | h
      · rw [h] at hu'
        have : j = j / 2 * 2 := by omega
        rw [this, w0, k0]
        exact hu'
      · rw [h] at hu'
        have : j = j / 2 * 2 + 1 := by omega
        rw [this, w1, k1]
        exact hu'
    · obtain ⟨i, hi, rfl⟩ := List.mem_map.1 hp
      obtain ⟨-, -, k2, k3⟩ := hL i (by simpa using hi)
      exact ⟨k2, k3⟩
end
end Go.Proofs.YtcegdjpdnlaleaaDoor
