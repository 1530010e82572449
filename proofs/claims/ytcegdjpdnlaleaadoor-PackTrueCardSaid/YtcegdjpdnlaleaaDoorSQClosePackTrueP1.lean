/- Part 1 of what stands behind closePackTrue.card: laws and walks of the functions that are reached. Conditions: those that each theorem names. -/
import Derived.Test.YtcegdjpdnlaleaaDoorSQ6
set_option linter.unusedVariables false
namespace Go.Proofs.YtcegdjpdnlaleaaDoor
open Go.RowKit
def qOf : Except Nat PackV → Option PackV
  | .ok p => some p
  | .error _ => none
def eOf : Except Nat PackV → Nat
  | .ok _ => 0
  | .error e => e
theorem OpenRes.q {w : World} {v : Value} {r : Except Nat PackV} {c : Nat} (h : OpenRes w v r c) : PackO w v (qOf r) ∧ c = eOf r := by
  cases r with
  | ok p => exact ⟨h.2, h.1⟩
  | error e => exact ⟨h.2, h.1⟩
theorem objStep_e {E : Bs → Ent} {id : Bs} {s : ObS} {e : Nat} (h : objStep E id s = .error e) : e = 17 ∨ e = 6 ∨ e = 18 ∨ e = 2 := by
  unfold objStep at h
  split at h
  · cases h; exact .inl rfl
  · split at h
    · cases h; exact .inr (.inl rfl)
    · split at h
      · split at h
        · cases h
        · cases h; exact .inr (.inr (.inr rfl))
      · cases h; exact .inr (.inr (.inl rfl))
theorem objGo_e {E : Bs → Ent} {ids : List Bs} : ∀ {n e : Nat}, objGo E ids n = .error e → e = 17 ∨ e = 6 ∨ e = 18 ∨ e = 2
  | 0, e, h => by cases h
  | n + 1, e, h => by
    cases h1 : objGo E ids n with
    | error e1 => rw [objGo_err h1 1] at h; cases h; exact objGo_e h1
    | ok s => rw [objGo_step h1] at h; exact objStep_e h
theorem readP_e {b : Bs} {e : Nat} (h : readP b = .error e) : e = 17 ∨ e = 6 ∨ e = 18 ∨ e = 2 := by
  unfold readP at h
  split at h
  · cases h; exact .inr (.inl rfl)
  · unfold readA at h
    split at h
    · split at h
      · unfold readB at h
        split at h
        · cases h; exact .inr (.inl rfl)
        · unfold readC at h
          split at h
          · cases h; exact .inr (.inl rfl)
          · unfold readD at h
            split at h
            · split at h
              · unfold readE at h
                split at h
                · cases h; exact objGo_e ‹_›
                · cases h
              · cases h; exact .inr (.inl rfl)
            · cases h; exact .inr (.inl rfl)
      · cases h; exact .inr (.inl rfl)
    · cases h; exact .inr (.inl rfl)
theorem openP_e {b : Bs} {e : Nat} (h : openP b = .error e) : e ≠ 0 := by
  unfold openP at h
  split at h
  · cases h; decide
  · split at h
    · cases h; decide
    · split at h
      · have := readP_e h; omega
      · cases h; decide
theorem eOf_zero {b : Bs} : eOf (openP b) = 0 ↔ (qOf (openP b)).isSome = true := by
  cases h : openP b with
  | ok p => simp [eOf, qOf]
  | error e => simp [eOf, qOf, openP_e h]
structure ObGood (ids : List Bs) (o : ObS) : Prop where
  all : ∀ id ∈ ids, ∃ x d, o.O id = some (x, d) ∧ Sha.sum x = id ∧ x.length ≤ o.total
  any : ∀ id x, o.O id = some x → Sha.sum x.1 = id ∧ x.1.length ≤ o.total ∧ id ∈ ids
  total : o.total ≤ 4194304
theorem objGo_good {E : Bs → Ent} {ids : List Bs} : ∀ {n : Nat} {o : ObS}, n ≤ ids.length → objGo E ids n = .ok o → ObGood (ids.take n) o
  | 0, o, _, h => by
    cases h
    exact ⟨(fun id hid => by simp at hid), (fun id x hx => by cases hx), Nat.zero_le _⟩
  | n + 1, o, hn, h => by
    cases h1 : objGo E ids n with
    | error e1 => rw [objGo_err h1 1] at h; cases h
    | ok s =>
      have ih := objGo_good (by omega) h1
      rw [objGo_step h1] at h
      have ht : ids.take (n + 1) = ids.take n ++ [ids.getD n []] := by
        rw [List.take_succ_eq_append_getElem (by omega), List.getD_eq_getElem?_getD, List.getElem?_eq_getElem (show n < ids.length by omega)]; rfl
      cases hd : depthGo E 50 (E (ids.getD n [])) with
      | none => rw [objStep_17 hd] at h; cases h
      | some d =>
        cases hc : chainGo E (d + 1) (ids.getD n []) with
        | none => rw [objStep_6 hd hc] at h; cases h
        | some x =>
          rw [objStep_eq (b := x.1) (k := x.2) hd hc] at h
          split at h
          · split at h
            · cases h
              rename_i hs hle
              refine ⟨fun id hid => ?_, fun id y hy => ?_, hle⟩
              · rw [ht] at hid
                by_cases e : id = ids.getD n []
                · exact ⟨x.1, d, by show updM s.O _ _ id = _; unfold updM; rw [if_pos e], by rw [e]; exact hs, by dsimp only; omega⟩
                · obtain ⟨y, d', k1, k2, k3⟩ := ih.all id (by
                    rcases List.mem_append.1 hid with q | q
                    · exact q
                    · exact absurd (List.mem_singleton.1 q) e)
                  exact ⟨y, d', by show updM s.O _ _ id = _; unfold updM; rw [if_neg e]; exact k1, k2, by dsimp only; omega⟩
              · have hy' : updM s.O (ids.getD n []) (some (x.1, d)) id = some y := hy
                unfold updM at hy'
                rw [ht]
                split at hy'
                · cases hy'
                  rename_i e
                  exact ⟨by rw [e]; exact hs, by dsimp only; omega, by rw [e]; simp⟩
                · obtain ⟨k1, k2, k3⟩ := ih.any id y hy'
                  exact ⟨k1, by dsimp only; omega, by simp [k3]⟩
            · cases h
          · cases h
structure PackGood (b : Bs) (p : PackV) : Prop where
  len : p.1.length ≤ b.length
  l32 : ∀ id ∈ p.1, id.length = 32
  all : ∀ id ∈ p.1, ∃ x d, p.2 id = some (x, d) ∧ Sha.sum x = id ∧ x.length ≤ 4194304
  any : ∀ id x, p.2 id = some x → Sha.sum x.1 = id ∧ x.1.length ≤ 4194304 ∧ id ∈ p.1
theorem readP_good {b : Bs} {p : PackV} (h36 : 36 ≤ b.length) (h : readP b = .ok p) : PackGood b p := by
  unfold readP at h
  split at h
  · cases h
  · rename_i x hx
    unfold readA at h
    split at h
    · rename_i hc
      split at h
      · rename_i hn
        unfold readB at h
        split at h
        · cases h
        · rename_i es hes
          have hel := entriesP_len hes (by omega)
          unfold readC at h
          split at h
          · cases h
          · rename_i s hs
            have hi := ixGo_ok _ _ hs
            unfold readD at h
            split at h
            · split at h
              · unfold readE at h
                split at h
                · cases h
                · rename_i o ho
                  cases h
                  have hg := objGo_good (Nat.le_refl _) ho
                  rw [List.take_length] at hg
                  refine ⟨?_, fun id hid => ?_, fun id hid => ?_, fun id y hy => ?_⟩
                  · show s.ids.length ≤ _
                    rw [hi.len, hel.1]; omega
                  · obtain ⟨j, hj, rfl⟩ := hi.ids id hid
                    refine rowId_len (n := x.1) ?_ (by rw [hel.1] at hj; exact hj)
                    rw [List.length_take, List.length_drop]
                    omega
                  · obtain ⟨y, d, k1, k2, k3⟩ := hg.all id hid
                    exact ⟨y, d, k1, k2, Nat.le_trans k3 hg.total⟩
                  · obtain ⟨k1, k2, k3⟩ := hg.any id y hy
                    exact ⟨k1, Nat.le_trans k2 hg.total, k3⟩
              · cases h
            · cases h
      · cases h
    · cases h
theorem openP_good {b : Bs} {p : PackV} (h : openP b = .ok p) : PackGood b p := by
  unfold openP at h
  split at h
  · cases h
  · split at h
    · cases h
    · split at h
      · exact readP_good (by omega) h
      · cases h
theorem open_ids (b : Bs) : (idsQ (qOf (openP b))).length ≤ b.length ∧ (∀ id ∈ idsQ (qOf (openP b)), id.length = 32 ∧ (getQ (qOf (openP b)) id).2 = 0 ∧ Sha.sum (getQ (qOf (openP b)) id).1.1 = id) := by
  cases h : openP b with
  | error e => exact ⟨Nat.zero_le _, (fun id hid => by cases hid)⟩
  | ok p =>
    have g := openP_good h
    refine ⟨g.len, fun id hid => ⟨g.l32 id hid, ?_⟩⟩
    obtain ⟨x, d, h1, h2, h3⟩ := g.all id hid
    have e : getQ (qOf (.ok p)) id = ((x, d), 0) := by show (match p.2 id with | none => _ | some x => _) = _; rw [h1]
    rw [e]
    exact ⟨rfl, h2⟩
theorem open_get (b : Bs) (id : Bs) : (getQ (qOf (openP b)) id).1.1.length ≤ 4194304 := by
  cases h : openP b with
  | error e => exact Nat.zero_le _
  | ok p =>
    have g := openP_good h
    show (match p.2 id with | none => (([], 0), 12) | some x => (x, 0)).1.1.length ≤ 4194304
    cases h1 : p.2 id with
    | none => exact Nat.zero_le _
    | some x => exact (g.any id x h1).2.1
open Go.RowKit
set_option maxRecDepth 100000
theorem pk25_ty24 : Tryd.prog.underlying 24 = some (.slice 5) := by kernel_rfl
theorem pk25_l0_24 (w : World) : (Instr.buildSlice 24 0 #[]).run Tryd.prog w = .ok (.slice (some ⟨w.heap.size, 0, none⟩) 0 0) (w.alloc (.cells #[] 5)) := by kernel_rfl
theorem pk25_inf5 : (Tryd.prog.info? 5).map (fun i => (i.zero, i.size, i.bytes)) = some (some (.int .u8 0), 1, 1) := by kernel_rfl
theorem pk25_pl15 : Plain Tryd.prog 15 := fun _ _ => by kernel_rfl
theorem pk25_pl22 : Plain Tryd.prog 22 := fun _ _ => by kernel_rfl
theorem pk25_ty47 : Tryd.prog.underlying 47 = some (.slice 38) := by kernel_rfl
theorem pk25_szg38 : ∀ w' : World, (sizeOf 38).run Tryd.prog w' = .ok 32 w' := fun _ => by kernel_rfl
theorem pk25_ty38 : Tryd.prog.underlying 38 = some (.array 32 5) := by kernel_rfl
theorem pk25_isz38 : (Tryd.prog.info? 38).map (·.size) = some 32 := by kernel_rfl
theorem pk25_pl18 : Plain Tryd.prog 18 := fun _ _ => by kernel_rfl
theorem pk25_rows1_75 (ao : Option Addr) (n c : Nat) (w : World) : (Instr.buildSlice 75 1 #[(0, .slice ao n c)]).run Tryd.prog w = .ok (.slice (some ⟨w.heap.size, 0, none⟩) 1 1) (w.alloc (.cells #[.slice ao n c] 24)) := by kernel_rfl
theorem pk25_pl17 : Plain Tryd.prog 17 := fun _ _ => by kernel_rfl
theorem pk25_eg38 : Tryd.prog.eqGuardType Tryd.prog.depth 38 = false := by kernel_rfl
theorem pk25_ty5 : Tryd.prog.underlying 5 = some (.int .u8) := by kernel_rfl
theorem pk25_sz5 : ∀ w' : World, (sizeOf 5).run Tryd.prog w' = .ok 1 w' := fun _ => by kernel_rfl
theorem pk25_pl14 : Plain Tryd.prog 14 := fun _ _ => by kernel_rfl
theorem pk25_al38 {d : Option Tmp} {ty : TypeId} {pos : String} {af : Array Edge} {gd : Option (Nat × Bool)} (σ : Operand → Value) (w : World) : (execOp σ ⟨d, .alloc 38, ty, pos, af, gd⟩).run Tryd.prog w = .ok (.value (PQ w.heap.size 0)) (w.alloc (.cells (Lib.byteCells (List.replicate 32 0)).toArray 38)) := by kernel_rfl
set_option maxHeartbeats 1600000
theorem packTrue_walk (w : World) (hG : Laid w) (v : Value) (b : Bs) (hr : RB w v b) (sl_ : Bool) :
  Calls Tryd.prog 7 #[v, .bool sl_] w fun e w' => e = .returned (.bool true) ∧ Ext w w' := by
 refine calls_of_wpF (args := [v, .bool (sl_)]) Tryd.func7 rfl 70 rfl (Nat.le_of_ble_eq_true rfl) ?_
 intro ρ0 hb
 have T0 : ρ0 0 = (v : Value) := hb.get 0
 have T1 : ρ0 1 = (.bool (sl_) : Value) := hb.get 1
 clear hb
 have hE := Ext.refl w
 refine sk fun K1 hK1 => (wt (oA rfl (oZ ?_)))
 by_cases q1 : 4000 < b.length
 ·refine tN (hK1 _ _ (sk fun K2 hK2 => (sk fun K3 hK3 => (wt (oM rfl (oS rfl (Yk.lenRB pk25_ty24 (RB.of (hr.keep hE) T0) (oS rfl (Yk.eqI (a := (b.length : Nat)) (b := (4000 : Nat)) rfl rfl (k_gtr _ _ _ _) (oZ (tN (hK3 _ _ (wpF_true (vr (.bool (true)) (congrArg Value.bool (decide_eq_true (q1)))) (sk fun K4 hK4 => (wt (oA rfl (oZ (tN (hK4 _ _ (wpF_ret (thenF_ret ?_)))))))))))))))))))))
  refine postF_ret (fn := Tryd.f7) _ rfl [.bool (true)] (.bool (true)) rfl ⟨rfl, trivial⟩ ?_
  exact ⟨rfl, hE⟩
 cases sl_
 ·refine tN (hK1 _ _ (sk fun K5 hK5 => (sk fun K6 hK6 => (wt (oM rfl (oS rfl (Yk.lenRB pk25_ty24 (RB.of (hr.keep hE) T0) (oS rfl (Yk.eqI (a := (b.length : Nat)) (b := (4000 : Nat)) rfl rfl (k_gtr _ _ _ _) (oZ (tN (hK6 _ _ (wpF_false (vr (.bool (false)) (congrArg Value.bool (decide_eq_false (q1)))) (wpF_skip (tN (hK5 _ _ (sk fun K7 hK7 => (wt (oS rfl (Yk.lit0 pk25_l0_24 fun v8 w9 hN10 => ?_))))))))))))))))))))
  have hE := hE.trans hN10.ext
  have ho11 := hN10.own; clear hN10
  refine oM rfl (oS rfl (Yk.appendRB _ _ w.heap.size (.int .u8 0) pk25_ty24 pk25_inf5 rfl pk25_ty24 (([] : List UInt8)) (b) (own_of ho11 (vr v8 rfl)) (RB.of (hr.keep hE) T0) (by simp only [List.length_nil]; omega) hE.size fun v12 w13 ho14 hg15 => ?_))
  have hg15 : Grew w9 w13 v8 v12 := hg15
  have hE := ext_grew hE hg15 ho11 (Nat.le_refl _)
  clear ho11
  refine oA rfl (oZ (tN (hK7 _ _ (sk fun K16 hK16 => (sk fun K17 hK17 => (wt (oM rfl (oZ (tN (hK17 _ _ (wpF_false T1 (wpF_skip (tN (hK16 _ _ (sk fun K18 hK18 => (wt (oM rfl (oS rfl (Yk.callA1 pk25_pl15 (vr v12 rfl) ?_)))))))))))))))))))
  refine (open_any _ (hG.keep hE) v12 (([] : List UInt8) ++ b) (RB.ofOwn ho14)).mono ?_
  rintro e w23 ⟨_, rfl, v19, k20, rfl, hO21, hx22⟩
  refine ⟨_, rfl, ?_⟩
  have hE := hE.trans hx22
  have ho14 := Stab.own _ _ _ _ _ _ _ _ ho14 hx22
  have hq : PackO w23 v19 (qOf (openP (([] : List UInt8) ++ b))) := (OpenRes.q hO21).1
  have hce := (OpenRes.q hO21).2
  subst hce
  clear hO21
  refine oM rfl (oS rfl (Yk.extract (vs := [v19, NI (eOf (openP (([] : List UInt8) ++ b)))]) (vr (.tuple #[v19, NI (eOf (openP (([] : List UInt8) ++ b)))]) rfl) (show _ = some (v19 : Value) from rfl) (oS rfl (Yk.extract (vs := [v19, NI (eOf (openP (([] : List UInt8) ++ b)))]) (vr (.tuple #[v19, NI (eOf (openP (([] : List UInt8) ++ b)))]) rfl) (show _ = some (NI (eOf (openP (([] : List UInt8) ++ b))) : Value) from rfl) (oA rfl (oA rfl (oZ (tN (hK18 _ _ (sk fun K24 hK24 => (wt (oM rfl (oS rfl (Yk.callA1 pk25_pl22 (vr v19 rfl) ((pids_any _ (v19) (qOf (openP (([] : List UInt8) ++ b))) hq (by have : lenQ _ ≤ _ := (open_ids (([] : List UInt8) ++ b)).1; simp only [List.length_append, List.length_nil, Sha.sum_length] at this; omega)).mono ?_)))))))))))))))
  rintro e w28 ⟨v25, rfl, ho26, hx27⟩
  refine ⟨_, rfl, ?_⟩
  have hA29 := Ext.refl w23
  have hea30 := hE
  have hz31 := hE.size
  have hap32 : ApartV v12 v25 := apartv_new ho14 ho26.2
  have hap33 : ApartV v25 v12 := apartv_new' ho14 ho26.2
  have hE := hE.trans hx27
  have ho14 := Stab.own _ _ _ _ _ _ _ _ ho14 hx27
  have hA29 := hA29.trans hx27
  refine oA rfl (oZ (tN (hK24 _ _ (sk fun K34 hK34 => (sk fun K35 hK35 => (wt (oA rfl (oL_ [(0, v), (1, .bool (false)), (4, .bool (false)), (5, v12), (7, v19), (8, NI (eOf (openP (([] : List UInt8) ++ b)))), (9, v25), (10, NI 0), (15, .bool (false)), (19, .bool (false))] ⟨T0, T1, rfl, rfl, rfl, rfl, rfl, rfl, (congrArg Value.bool (decide_eq_false (q1))), T1, trivial⟩ fun ρ36 ⟨T0, T1, T4, T5, T7, T8, T9, T10, T15, T19, _⟩ => (tN (hK35 _ _ (wpF_block (wpF_loop (fun (ρ : Slots) (wz : World) => ∃ j : Nat, ρ 0 = (v : Value) ∧ ρ 1 = (.bool (false) : Value) ∧ ρ 5 = (v12 : Value) ∧ ρ 7 = (v19 : Value) ∧ ρ 8 = (NI (eOf (openP (([] : List UInt8) ++ b))) : Value) ∧ ρ 9 = (v25 : Value) ∧ ρ 15 = (.bool (false) : Value) ∧ ρ 19 = (.bool (false) : Value) ∧ ρ 10 = (NI j : Value) ∧ Ext w wz ∧ wz.ownsRow w.heap.size 5 1 v12 (([] : List UInt8) ++ b : List UInt8).length (Lib.byteCells (([] : List UInt8) ++ b)) ∧ Ext w23 wz ∧ OG w23.heap.size 38 32 (Lib.byteCells) wz v25 (idsQ (qOf (openP (([] : List UInt8) ++ b)))) ∧ (j ≤ (idsQ (qOf (openP (([] : List UInt8) ++ b)))).length) ∧ True) (fun ρ _ => (idsQ (qOf (openP (([] : List UInt8) ++ b)))).length - (intOf (ρ 10)).toNat) ⟨0, T0, T1, T5, T7, T8, T9, T15, T19, T10, hE, ho14, hA29, ho26, Nat.zero_le _, trivial⟩ ?_))))))))))))
  clear hE ho14 hA29 ho26
  rintro ρ37 w38 ⟨j, T0, T1, T5, T7, T8, T9, T15, T19, T10, hE, ho14, hA29, ho26, hj, -⟩
  have q10 := T10
  by_cases hlt : j < (idsQ (qOf (openP (([] : List UInt8) ++ b)))).length
  ·have hall := (open_ids (([] : List UInt8) ++ b)).2 _ (getD_mem [] hlt)
   have hlen : (idsQ (qOf (openP (([] : List UInt8) ++ b)))).length ≤ _ := (open_ids (([] : List UInt8) ++ b)).1
   simp only [List.length_append, List.length_nil, Sha.sum_length] at hlen
   refine sk fun K39 hK39 => (sk fun K40 hK40 => (wt (oM rfl (oM rfl (oS rfl (Yk.lenRG pk25_ty47 (RG.of (RG.ofOwn ho26) T9) (oS rfl (Yk.eqI (a := (j : Nat)) (b := (((idsQ (qOf (openP (([] : List UInt8) ++ b))))).length : Nat)) T10 rfl (k_lss _ _ _ _) (oZ (tN (hK40 _ _ (wpF_true (vr (.bool (true)) (congrArg Value.bool (decide_eq_true (hlt)))) (wpF_skip (tN (hK39 _ _ (sk fun K41 hK41 => (wpF_block (sk fun K42 hK42 => (wt ?_)))))))))))))))))))
   refine oM rfl (oM rfl (oM rfl ?_))
   have hl45 : (Lib.byteCells (((idsQ (qOf (openP (([] : List UInt8) ++ b))))).getD (j) ([] : List UInt8))).length = 32 := (RG.elem (RG.ofOwn ho26) ([] : List UInt8) (by omega))
   refine oS rfl (Yk.atRG pk25_ty47 pk25_szg38 (by decide) ([] : List UInt8) (RG.of (RG.ofOwn ho26) T9) T10 (by omega) fun v43 hp44 => (oS rfl (Yk.loadPR (PR.of hp44 (vr v43 rfl)) pk25_ty38 rfl (by rw [hl45]; exact pk25_isz38) (oS rfl (Yk.callA2 pk25_pl18 T7 (vr (AB (((idsQ (qOf (openP (([] : List UInt8) ++ b))))).getD (j) ([] : List UInt8))) rfl) ((pget_any _ (v19) (qOf (openP (([] : List UInt8) ++ b))) (hq.keep hA29) (((idsQ (qOf (openP (([] : List UInt8) ++ b))))).getD (j) ([] : List UInt8)) (bytes_len32 (hl45)) (by have := open_get (([] : List UInt8) ++ b) (((idsQ (qOf (openP (([] : List UInt8) ++ b))))).getD (j) ([] : List UInt8)); omega)).mono ?_))))))
   rintro e w49 ⟨v46, rfl, ho47, hx48⟩
   refine ⟨_, rfl, ?_⟩
   have hA50 := Ext.refl w38
   have hea51 := hE
   have hea52 := hA29
   have hz53 := hE.size
   have hz54 := hA29.size
   have hap55 : ApartV v12 v46 := apartv_new ho14 ho47
   have hap56 : ApartV v46 v12 := apartv_new' ho14 ho47
   have hap57 : ApartV v25 v46 := apartv_new ho26.2 ho47
   have hap58 : ApartV v46 v25 := apartv_new' ho26.2 ho47
   have hE := hE.trans hx48
   have ho14 := Stab.own _ _ _ _ _ _ _ _ ho14 hx48
   have hA29 := hA29.trans hx48
   have ho26 := ho26.keep hx48
   have hA50 := hA50.trans hx48
   refine oM rfl (oS rfl (Yk.extract (vs := [v46, NI ((getQ (qOf (openP (([] : List UInt8) ++ b))) (((idsQ (qOf (openP (([] : List UInt8) ++ b))))).getD (j) ([] : List UInt8))).2)]) (vr (.tuple #[v46, NI ((getQ (qOf (openP (([] : List UInt8) ++ b))) (((idsQ (qOf (openP (([] : List UInt8) ++ b))))).getD (j) ([] : List UInt8))).2)]) rfl) (show _ = some (v46 : Value) from rfl) (oS rfl (Yk.extract (vs := [v46, NI ((getQ (qOf (openP (([] : List UInt8) ++ b))) (((idsQ (qOf (openP (([] : List UInt8) ++ b))))).getD (j) ([] : List UInt8))).2)]) (vr (.tuple #[v46, NI ((getQ (qOf (openP (([] : List UInt8) ++ b))) (((idsQ (qOf (openP (([] : List UInt8) ++ b))))).getD (j) ([] : List UInt8))).2)]) rfl) (show _ = some (NI ((getQ (qOf (openP (([] : List UInt8) ++ b))) (((idsQ (qOf (openP (([] : List UInt8) ++ b))))).getD (j) ([] : List UInt8))).2) : Value) from rfl) (oA rfl (oA rfl (oZ ?_)))))))
   clear hp44
   refine tN (hK42 _ _ (sk fun K59 hK59 => ?_))
   refine wpF_draw [Is (NI ((getQ (qOf (openP (([] : List UInt8) ++ b))) (((idsQ (qOf (openP (([] : List UInt8) ++ b))))).getD (j) ([] : List UInt8))).2)), Is (.bool (false)), Is (.bool (false)), Is (v46), fun x w' => RBs w' x [(getQ (qOf (openP (([] : List UInt8) ++ b))) (((idsQ (qOf (openP (([] : List UInt8) ++ b))))).getD (j) ([] : List UInt8))).1.1], Is (AB (Sha.sum ((getQ (qOf (openP (([] : List UInt8) ++ b))) (((idsQ (qOf (openP (([] : List UInt8) ++ b))))).getD (j) ([] : List UInt8))).1.1))), Is (v25), Is (NI j), fun x w' => PR (Lib.byteCells (((idsQ (qOf (openP (([] : List UInt8) ++ b))))).getD (j) ([] : List UInt8))) x w', Is (AB (((idsQ (qOf (openP (([] : List UInt8) ++ b))))).getD (j) ([] : List UInt8))), Is (.bool (false)), Is (.bool (false))] (by kernel_rfl) [48, 49, 50, 51, 52, 53, 54, 55, 56, 57, 58, 59] (by kernel_rfl) (by kernel_rfl) (si4 ⟨(fun _ _ _ h k => RBs.keep h k), (si3 ⟨(fun _ _ _ h k => PR.keep h k), (si3 trivial)⟩)⟩) ?hs1013 ?hQ1013
   case hs1013 =>
    refine ⟨?_, ?_, ?_, ?_, ?_, ?_, ?_, ?_, ?_, ?_, ?_, ?_, trivial⟩
    ·refine stepN rfl fun σ w1 hC h => ?_
     have e12 : σ 12 = NI ((getQ (qOf (openP (([] : List UInt8) ++ b))) (((idsQ (qOf (openP (([] : List UInt8) ++ b))))).getD (j) ([] : List UInt8))).2) := (eqo (h 12 (by decide))).trans rfl
     exact Yk.move e12 ⟨Ext.refl _, rfl⟩
    ·refine stepN rfl fun σ w1 hC h => ?_
     have e48 := eqo (h 48 (by decide))
     exact Yk.eqI (a := ((getQ (qOf (openP (([] : List UInt8) ++ b))) (((idsQ (qOf (openP (([] : List UInt8) ++ b))))).getD (j) ([] : List UInt8))).2 : Nat)) (b := (0 : Nat)) e48 rfl (k_neq _ _ _ _) ⟨Ext.refl _, (congrArg Value.bool (decide_eq_false (fun h => h hall.2.1)))⟩
    ·refine stepN rfl fun σ w1 hC h => ?_
     have e49 := eqo (h 49 (by decide))
     exact Yk.move e49 ⟨Ext.refl _, rfl⟩
    ·refine stepY 2 false 50 rfl rfl (fun _ _ h => h) fun σ w1 hC h => ?_
     have e11 : σ 11 = v46 := (eqo (h 11 (by decide))).trans rfl
     exact Yk.move e11 ⟨Ext.refl _, rfl⟩
    ·refine stepY 2 false 50 rfl rfl (fun _ _ h => h) fun σ w1 hC h => ?_
     have e51 := eqo (h 51 (by decide))
     exact Yk.rows1 pk25_rows1_75 (RB.of (RB.ofOwn (Stab.own _ _ _ _ _ _ _ _ ho47 hC)) e51) fun v w2 h hx => ⟨hx, h⟩
    ·refine stepY 2 false 50 rfl rfl (fun _ _ h => h) fun σ w1 hC h => ?_
     have e52 : (fun x w' => RBs w' x [(getQ (qOf (openP (([] : List UInt8) ++ b))) (((idsQ (qOf (openP (([] : List UInt8) ++ b))))).getD (j) ([] : List UInt8))).1.1]) (σ 52) w1 := h 52 (by decide)
     refine Yk.callA1 pk25_pl17 rfl ((sum_one _ (hG.keep (hE.trans hC)) _ ((getQ (qOf (openP (([] : List UInt8) ++ b))) (((idsQ (qOf (openP (([] : List UInt8) ++ b))))).getD (j) ([] : List UInt8))).1.1) e52 (by have := open_get (([] : List UInt8) ++ b) (((idsQ (qOf (openP (([] : List UInt8) ++ b))))).getD (j) ([] : List UInt8)); omega)).mono ?_)
     rintro e w2 ⟨rfl, hx⟩
     exact ⟨_, rfl, hx, rfl⟩
    ·refine stepY 2 false 50 rfl rfl (fun _ _ h => h) fun σ w1 hC h => ?_
     have e9 := (eqo (h 9 (by decide))).trans T9
     exact Yk.move e9 ⟨Ext.refl _, rfl⟩
    ·refine stepY 2 false 50 rfl rfl (fun _ _ h => h) fun σ w1 hC h => ?_
     have e10 := (eqo (h 10 (by decide))).trans T10
     exact Yk.move e10 ⟨Ext.refl _, rfl⟩
    ·refine stepY 2 false 50 rfl rfl (fun _ _ h => h) fun σ w1 hC h => ?_
     have e54 := eqo (h 54 (by decide))
     have e55 := eqo (h 55 (by decide))
     exact Yk.atRG pk25_ty47 pk25_szg38 (by decide) ([] : List UInt8) (RG.of (RG.ofOwn (ho26.keep hC)) e54) e55 (by omega) fun v h => ⟨Ext.refl _, h⟩
    ·refine stepY 2 false 50 rfl rfl (fun _ _ h => h) fun σ w1 hC h => ?_
     have e56 : (fun x w' => PR (Lib.byteCells (((idsQ (qOf (openP (([] : List UInt8) ++ b))))).getD (j) ([] : List UInt8))) x w') (σ 56) w1 := h 56 (by decide)
     exact Yk.loadPR e56 pk25_ty38 rfl (by rw [RG.elem (RG.ofOwn ho26) ([] : List UInt8) (by omega)]; exact pk25_isz38) ⟨Ext.refl _, rfl⟩
    ·refine stepY 2 false 50 rfl rfl (fun _ _ h => h) fun σ w1 hC h => ?_
     have e53 := eqo (h 53 (by decide))
     have e57 := eqo (h 57 (by decide))
     exact Yk.neArr (l1 := (Sha.sum ((getQ (qOf (openP (([] : List UInt8) ++ b))) (((idsQ (qOf (openP (([] : List UInt8) ++ b))))).getD (j) ([] : List UInt8))).1.1))) (l2 := (((idsQ (qOf (openP (([] : List UInt8) ++ b))))).getD (j) ([] : List UInt8))) pk25_ty38 pk25_ty5 pk25_sz5 pk25_eg38 e53 e57 (Sha.sum_length _) (hall.1) ⟨Ext.refl _, (congrArg Value.bool (decide_eq_false (fun h => h hall.2.2)))⟩
    ·refine stepN rfl fun σ w1 hC h => ?_
     have e50 := eqo (h 50 (by decide))
     have e58 := eqo (h 58 (by decide))
     exact Yk.pickF e50 e58 ⟨Ext.refl _, rfl⟩
   intro ρ60 w61 hx62 he hf
   obtain ⟨-, -, -, -, -, -, -, -, -, -, -, k59, -⟩ := hf
   obtain ⟨T0, T1, T5, T7, T8, T9, T10, T11, T12, T15, T19, T36, -⟩ := he.hold [(0, _), (1, _), (5, _), (7, _), (8, _), (9, _), (10, _), (11, v46), (12, NI ((getQ (qOf (openP (([] : List UInt8) ++ b))) (((idsQ (qOf (openP (([] : List UInt8) ++ b))))).getD (j) ([] : List UInt8))).2)), (15, _), (19, _), (36, _)] ⟨T0, T1, T5, T7, T8, T9, T10, rfl, rfl, T15, T19, (congrArg Value.bool (decide_eq_true (hlt))), trivial⟩ rfl
   clear he
   have hE := hE.trans hx62
   have ho14 := Stab.own _ _ _ _ _ _ _ _ ho14 hx62
   have hA29 := hA29.trans hx62
   have ho26 := ho26.keep hx62
   have hA50 := hA50.trans hx62
   have ho47 := Stab.own _ _ _ _ _ _ _ _ ho47 hx62
   have T59 : ρ60 59 = .bool (false) := k59
   clear k59
   refine tN (hK59 _ _ (wpF_false T59 (wpF_skip (bN (tN (hK41 _ _ (wt (oM rfl (oS rfl (Yk.bin (xv := NI j) (yv := NI 1) T10 rfl rfl (i64_add _ _ _ (by omega)) (oA rfl (oL_ [(0, v), (1, .bool (false)), (5, v12), (7, v19), (8, NI (eOf (openP (([] : List UInt8) ++ b)))), (9, v25), (10, NI ((j) + (1))), (11, v46), (12, NI ((getQ (qOf (openP (([] : List UInt8) ++ b))) (((idsQ (qOf (openP (([] : List UInt8) ++ b))))).getD (j) ([] : List UInt8))).2)), (15, .bool (false)), (19, .bool (false)), (36, .bool (true)), (59, .bool (false))] ⟨T0, T1, T5, T7, T8, T9, rfl, T11, T12, T15, T19, T36, T59, trivial⟩ fun ρ63 ⟨T0, T1, T5, T7, T8, T9, T10, T11, T12, T15, T19, T36, T59, _⟩ => (tN (And.intro ⟨j + 1, T0, T1, T5, T7, T8, T9, T15, T19, T10, hE, ho14, hA29, ho26, by omega, trivial⟩ ?_))))))))))))))
   show (idsQ (qOf (openP (([] : List UInt8) ++ b)))).length - (intOf (ρ63 10)).toNat < (idsQ (qOf (openP (([] : List UInt8) ++ b)))).length - (intOf (ρ37 10)).toNat
   rw [T10, q10]
   simp only [intOf, Int.toNat_natCast]; omega
  refine sk fun K64 hK64 => (sk fun K65 hK65 => (wt (oM rfl (oM rfl (oS rfl (Yk.lenRG pk25_ty47 (RG.of (RG.ofOwn ho26) T9) (oS rfl (Yk.eqI (a := (j : Nat)) (b := (((idsQ (qOf (openP (([] : List UInt8) ++ b))))).length : Nat)) T10 rfl (k_lss _ _ _ _) (oZ ?_)))))))))
  rcases hs : ((qOf (openP (([] : List UInt8) ++ b)))).isSome with _ | _
  ·have hz : eOf (openP (([] : List UInt8) ++ b)) ≠ 0 := fun h => by rw [eOf_zero.1 h] at hs; cases hs
   have hl0 : (idsQ (qOf (openP (([] : List UInt8) ++ b)))).length = 0 := by cases hqq : (qOf (openP (([] : List UInt8) ++ b))) with | none => rfl | some p => rw [hqq] at hs; cases hs
   refine tN (hK65 _ _ (wpF_false (vr (.bool (false)) (congrArg Value.bool (decide_eq_false (hlt)))) (wpF_exit (thenF_exit (thenF_exit (inBlockF_hit (tN (hK34 _ _ (sk fun K66 hK66 => (wt (oM rfl (oS rfl (Yk.eqI (a := (eOf (openP (([] : List UInt8) ++ b)) : Nat)) (b := (0 : Nat)) T8 rfl (k_eql _ _ _ _) (oM rfl (oY (d := 62) rfl rfl (vr (.bool (false)) (congrArg Value.bool (decide_eq_false (hz)))) (Yk.move T9 (oY (d := 62) rfl rfl (vr (.bool (false)) (congrArg Value.bool (decide_eq_false (hz)))) (Yk.lenRG pk25_ty47 (RG.of (RG.ofOwn ho26) (vr v25 rfl)) (oY (d := 62) rfl rfl (vr (.bool (false)) (congrArg Value.bool (decide_eq_false (hz)))) (Yk.eqI (a := (((idsQ (qOf (openP (([] : List UInt8) ++ b))))).length : Nat)) (b := (0 : Nat)) rfl rfl (k_eql _ _ _ _) (oS rfl (Yk.pickF (vr (.bool (false)) (congrArg Value.bool (decide_eq_false (hz)))) (vr (.bool (true)) (congrArg Value.bool (decide_eq_true (hl0)))) (oM rfl (oY (d := 67) rfl rfl (vr (.bool (true)) rfl) (Yk.callA0 pk25_pl14  ((awake11 _ (hG.keep hE)).mono ?_))))))))))))))))))))))))))
   rintro e w68 ⟨rfl, hx67⟩
   refine ⟨_, rfl, ?_⟩
   have hE := hE.trans hx67
   have ho14 := Stab.own _ _ _ _ _ _ _ _ ho14 hx67
   have hA29 := hA29.trans hx67
   have ho26 := ho26.keep hx67
   refine oS rfl (Yk.pickT (vr (.bool (true)) rfl) (vr (.bool (true)) rfl) (oA rfl (oZ (tN (hK66 _ _ (wpF_ret (postF_ret (fn := Tryd.f7) _ rfl [.bool (true)] (.bool (true)) rfl ⟨rfl, trivial⟩ ?_)))))))
   exact ⟨rfl, hE⟩
  have hz := eOf_zero.2 hs
  refine tN (hK65 _ _ (wpF_false (vr (.bool (false)) (congrArg Value.bool (decide_eq_false (hlt)))) (wpF_exit (thenF_exit (thenF_exit (inBlockF_hit (tN (hK34 _ _ (sk fun K69 hK69 => (wt (oM rfl (oS rfl (Yk.eqI (a := (eOf (openP (([] : List UInt8) ++ b)) : Nat)) (b := (0 : Nat)) T8 rfl (k_eql _ _ _ _) (oM rfl (oN (d := 62) rfl rfl rfl (vr (.bool (true)) (congrArg Value.bool (decide_eq_true (hz)))) rfl (oN (d := 62) rfl rfl rfl (vr (.bool (true)) (congrArg Value.bool (decide_eq_true (hz)))) rfl (oN (d := 62) rfl rfl rfl (vr (.bool (true)) (congrArg Value.bool (decide_eq_true (hz)))) rfl (oS rfl (Yk.pickT (vr (.bool (true)) (congrArg Value.bool (decide_eq_true (hz)))) (vr (.bool (true)) rfl) (oM rfl (oY (d := 67) rfl rfl (vr (.bool (true)) rfl) (Yk.callA0 pk25_pl14  ((awake11 _ (hG.keep hE)).mono ?_)))))))))))))))))))))))
  rintro e w71 ⟨rfl, hx70⟩
  refine ⟨_, rfl, ?_⟩
  have hE := hE.trans hx70
  have ho14 := Stab.own _ _ _ _ _ _ _ _ ho14 hx70
  have hA29 := hA29.trans hx70
  have ho26 := ho26.keep hx70
  refine oS rfl (Yk.pickT (vr (.bool (true)) rfl) (vr (.bool (true)) rfl) (oA rfl (oZ (tN (hK69 _ _ (wpF_ret (postF_ret (fn := Tryd.f7) _ rfl [.bool (true)] (.bool (true)) rfl ⟨rfl, trivial⟩ ?_)))))))
  exact ⟨rfl, hE⟩
 refine tN (hK1 _ _ (sk fun K72 hK72 => (sk fun K73 hK73 => (wt (oM rfl (oS rfl (Yk.lenRB pk25_ty24 (RB.of (hr.keep hE) T0) (oS rfl (Yk.eqI (a := (b.length : Nat)) (b := (4000 : Nat)) rfl rfl (k_gtr _ _ _ _) (oZ (tN (hK73 _ _ (wpF_false (vr (.bool (false)) (congrArg Value.bool (decide_eq_false (q1)))) (wpF_skip (tN (hK72 _ _ (sk fun K74 hK74 => (wt (oS rfl (Yk.lit0 pk25_l0_24 fun v75 w76 hN77 => ?_))))))))))))))))))))
 have hE := hE.trans hN77.ext
 have ho78 := hN77.own; clear hN77
 refine oM rfl (oS rfl (Yk.appendRB _ _ w.heap.size (.int .u8 0) pk25_ty24 pk25_inf5 rfl pk25_ty24 (([] : List UInt8)) (b) (own_of ho78 (vr v75 rfl)) (RB.of (hr.keep hE) T0) (by simp only [List.length_nil]; omega) hE.size fun v79 w80 ho81 hg82 => ?_))
 have hg82 : Grew w76 w80 v75 v79 := hg82
 have hE := ext_grew hE hg82 ho78 (Nat.le_refl _)
 clear ho78
 refine oA rfl (oZ (tN (hK74 _ _ (sk fun K83 hK83 => (sk fun K84 hK84 => (wt (oM rfl (oZ (tN (hK84 _ _ (wpF_true T1 (sk fun K85 hK85 => (wt (oM rfl (oS rfl (Yk.rows1 pk25_rows1_75 (RB.of (hr.keep hE) T0) fun v86 w87 hr88 hx89 => ?_))))))))))))))))
 have hE := hE.trans hx89
 have ho81 := Stab.own _ _ _ _ _ _ _ _ ho81 hx89
 refine oS rfl (Yk.callA1 pk25_pl17 (vr v86 rfl) ((sum_one _ (hG.keep hE) v86 (b) hr88 (by omega)).mono ?_))
 rintro e w91 ⟨rfl, hx90⟩
 refine ⟨_, rfl, ?_⟩
 have hE := hE.trans hx90
 have ho81 := Stab.own _ _ _ _ _ _ _ _ ho81 hx90
 have hr88 := hr88.keep hx90
 refine oS rfl (Yk.alloc (cs := (Lib.byteCells (List.replicate 32 0)).toArray) pk25_al38 fun n92 w93 hn94 hb95 hx96 hs97 => ?_)
 have hA98 := Ext.refl w91
 have hea99 := hE
 have hz100 := hE.size
 have hap101 : OB v79 n92 := own_newer ho81 (by omega)
 have hE := hE.trans hx96
 have ho81 := Stab.own _ _ _ _ _ _ _ _ ho81 hx96
 have hA98 := hA98.trans hx96
 have hb102 := hb95; clear hb95
 have hl103 : n92 < w93.heap.size := by omega
 refine oS rfl (Yk.storeAll (vr (PQ n92 0) rfl) (vr (AB (Sha.sum (b))) rfl) hb102 (by exact idsize (Sha.sum_length _) List.length_replicate) (by exact sizeId_of (Sha.sum_length _)) (byteCells_one _) fun w104 hb105 hg106 hs107 => ?_)
 have hE := row_fresh hE hg106 (Nat.le_trans hz100 (by omega))
 have ho81 := own_kept ho81 hg106 hap101
 have hA98 := row_fresh hA98 hg106 (Nat.le_trans (Nat.le_refl _) (by omega))
 clear hb102
 have hb102 := hb105; clear hb105
 have hl108 := bl hb102
 refine oZ (tN (hK85 _ _ (wt (oM rfl (oS rfl (Yk.sliceArr pk25_ty38 pk25_sz5 (vr (PQ n92 0) rfl) (oS rfl (Yk.appendRB _ _ w.heap.size (.int .u8 0) pk25_ty24 pk25_inf5 rfl pk25_ty24 (([] : List UInt8) ++ b) (Sha.sum (b)) (own_of ho81 (vr v79 rfl)) (RB.of (RB.ofBlkN hb102 (Sha.sum_length _) (by decide)) (vr (.slice (some ⟨n92, 0, none⟩) 32 32) rfl)) (by simp only [List.length_append, List.length_nil, Sha.sum_length]; omega) hE.size fun v109 w110 ho111 hg112 => ?_))))))))
 have hg112 : Grew w104 w110 v79 v109 := hg112
 have hap113 : OB v109 n92 := apart_grew hg112 hap101 (bl hb102)
 have hE := ext_grew hE hg112 ho81 (Nat.le_refl _)
 clear ho81
 clear hA98
 have hb102 := blk_grew hb102 hg112 hap101
 refine oA rfl (oZ (tN (hK83 _ _ (sk fun K114 hK114 => (wt (oM rfl (oS rfl (Yk.callA1 pk25_pl15 (vr v109 rfl) ((open_any _ (hG.keep hE) v109 (([] : List UInt8) ++ b ++ Sha.sum (b)) (RB.ofOwn ho111)).mono ?_)))))))))
 rintro e w119 ⟨_, rfl, v115, k116, rfl, hO117, hx118⟩
 refine ⟨_, rfl, ?_⟩
 have hE := hE.trans hx118
 have hb102 := eb hx118 hb102
 have ho111 := Stab.own _ _ _ _ _ _ _ _ ho111 hx118
 have hq : PackO w119 v115 (qOf (openP (([] : List UInt8) ++ b ++ Sha.sum (b)))) := (OpenRes.q hO117).1
 have hce := (OpenRes.q hO117).2
 subst hce
 clear hO117
 refine oM rfl (oS rfl (Yk.extract (vs := [v115, NI (eOf (openP (([] : List UInt8) ++ b ++ Sha.sum (b))))]) (vr (.tuple #[v115, NI (eOf (openP (([] : List UInt8) ++ b ++ Sha.sum (b))))]) rfl) (show _ = some (v115 : Value) from rfl) (oS rfl (Yk.extract (vs := [v115, NI (eOf (openP (([] : List UInt8) ++ b ++ Sha.sum (b))))]) (vr (.tuple #[v115, NI (eOf (openP (([] : List UInt8) ++ b ++ Sha.sum (b))))]) rfl) (show _ = some (NI (eOf (openP (([] : List UInt8) ++ b ++ Sha.sum (b)))) : Value) from rfl) (oA rfl (oA rfl (oZ (tN (hK114 _ _ (sk fun K120 hK120 => (wt (oM rfl (oS rfl (Yk.callA1 pk25_pl22 (vr v115 rfl) ((pids_any _ (v115) (qOf (openP (([] : List UInt8) ++ b ++ Sha.sum (b)))) hq (by have : lenQ _ ≤ _ := (open_ids (([] : List UInt8) ++ b ++ Sha.sum (b))).1; simp only [List.length_append, List.length_nil, Sha.sum_length] at this; omega)).mono ?_)))))))))))))))
 rintro e w124 ⟨v121, rfl, ho122, hx123⟩
 refine ⟨_, rfl, ?_⟩
 have hA125 := Ext.refl w119
 have hea126 := hE
 have hz127 := hE.size
 have hap128 : OB v121 n92 := own_older ho122.2 (bl hb102)
 have hap129 : ApartV v109 v121 := apartv_new ho111 ho122.2
 have hap130 : ApartV v121 v109 := apartv_new' ho111 ho122.2
 have hE := hE.trans hx123
 have hb102 := eb hx123 hb102
 have ho111 := Stab.own _ _ _ _ _ _ _ _ ho111 hx123
 have hA125 := hA125.trans hx123
 refine oA rfl (oZ (tN (hK120 _ _ (sk fun K131 hK131 => (sk fun K132 hK132 => (wt (oA rfl (oL_ [(0, v), (1, .bool (true)), (4, .bool (false)), (5, v109), (6, PQ n92 0), (7, v115), (8, NI (eOf (openP (([] : List UInt8) ++ b ++ Sha.sum (b))))), (9, v121), (10, NI 0), (15, .bool (false)), (19, .bool (true))] ⟨T0, T1, rfl, rfl, rfl, rfl, rfl, rfl, rfl, (congrArg Value.bool (decide_eq_false (q1))), T1, trivial⟩ fun ρ133 ⟨T0, T1, T4, T5, T6, T7, T8, T9, T10, T15, T19, _⟩ => (tN (hK132 _ _ (wpF_block (wpF_loop (fun (ρ : Slots) (wz : World) => ∃ j : Nat, ρ 0 = (v : Value) ∧ ρ 1 = (.bool (true) : Value) ∧ ρ 5 = (v109 : Value) ∧ ρ 6 = (PQ n92 0 : Value) ∧ ρ 7 = (v115 : Value) ∧ ρ 8 = (NI (eOf (openP (([] : List UInt8) ++ b ++ Sha.sum (b)))) : Value) ∧ ρ 9 = (v121 : Value) ∧ ρ 15 = (.bool (false) : Value) ∧ ρ 19 = (.bool (true) : Value) ∧ ρ 10 = (NI j : Value) ∧ Ext w wz ∧ wz.heap[n92]? = some (.cells (Lib.byteCells (Sha.sum (b))).toArray 38 (0, 0)) ∧ wz.ownsRow w.heap.size 5 1 v109 (([] : List UInt8) ++ b ++ Sha.sum (b) : List UInt8).length (Lib.byteCells (([] : List UInt8) ++ b ++ Sha.sum (b))) ∧ Ext w119 wz ∧ OG w119.heap.size 38 32 (Lib.byteCells) wz v121 (idsQ (qOf (openP (([] : List UInt8) ++ b ++ Sha.sum (b))))) ∧ (j ≤ (idsQ (qOf (openP (([] : List UInt8) ++ b ++ Sha.sum (b))))).length) ∧ True) (fun ρ _ => (idsQ (qOf (openP (([] : List UInt8) ++ b ++ Sha.sum (b))))).length - (intOf (ρ 10)).toNat) ⟨0, T0, T1, T5, T6, T7, T8, T9, T15, T19, T10, hE, hb102, ho111, hA125, ho122, Nat.zero_le _, trivial⟩ ?_))))))))))))
 clear hE hb102 ho111 hA125 ho122
 rintro ρ134 w135 ⟨j, T0, T1, T5, T6, T7, T8, T9, T15, T19, T10, hE, hb102, ho111, hA125, ho122, hj, -⟩
 have q10 := T10
 by_cases hlt : j < (idsQ (qOf (openP (([] : List UInt8) ++ b ++ Sha.sum (b))))).length
 ·have hall := (open_ids (([] : List UInt8) ++ b ++ Sha.sum (b))).2 _ (getD_mem [] hlt)
  have hlen : (idsQ (qOf (openP (([] : List UInt8) ++ b ++ Sha.sum (b))))).length ≤ _ := (open_ids (([] : List UInt8) ++ b ++ Sha.sum (b))).1
  simp only [List.length_append, List.length_nil, Sha.sum_length] at hlen
  refine sk fun K136 hK136 => (sk fun K137 hK137 => (wt (oM rfl (oM rfl (oS rfl (Yk.lenRG pk25_ty47 (RG.of (RG.ofOwn ho122) T9) (oS rfl (Yk.eqI (a := (j : Nat)) (b := (((idsQ (qOf (openP (([] : List UInt8) ++ b ++ Sha.sum (b)))))).length : Nat)) T10 rfl (k_lss _ _ _ _) (oZ (tN (hK137 _ _ (wpF_true (vr (.bool (true)) (congrArg Value.bool (decide_eq_true (hlt)))) (wpF_skip (tN (hK136 _ _ (sk fun K138 hK138 => (wpF_block (sk fun K139 hK139 => (wt ?_)))))))))))))))))))
  refine oM rfl (oM rfl (oM rfl ?_))
  have hl142 : (Lib.byteCells (((idsQ (qOf (openP (([] : List UInt8) ++ b ++ Sha.sum (b)))))).getD (j) ([] : List UInt8))).length = 32 := (RG.elem (RG.ofOwn ho122) ([] : List UInt8) (by omega))
  refine oS rfl (Yk.atRG pk25_ty47 pk25_szg38 (by decide) ([] : List UInt8) (RG.of (RG.ofOwn ho122) T9) T10 (by omega) fun v140 hp141 => (oS rfl (Yk.loadPR (PR.of hp141 (vr v140 rfl)) pk25_ty38 rfl (by rw [hl142]; exact pk25_isz38) (oS rfl (Yk.callA2 pk25_pl18 T7 (vr (AB (((idsQ (qOf (openP (([] : List UInt8) ++ b ++ Sha.sum (b)))))).getD (j) ([] : List UInt8))) rfl) ((pget_any _ (v115) (qOf (openP (([] : List UInt8) ++ b ++ Sha.sum (b)))) (hq.keep hA125) (((idsQ (qOf (openP (([] : List UInt8) ++ b ++ Sha.sum (b)))))).getD (j) ([] : List UInt8)) (bytes_len32 (hl142)) (by have := open_get (([] : List UInt8) ++ b ++ Sha.sum (b)) (((idsQ (qOf (openP (([] : List UInt8) ++ b ++ Sha.sum (b)))))).getD (j) ([] : List UInt8)); omega)).mono ?_))))))
  rintro e w146 ⟨v143, rfl, ho144, hx145⟩
  refine ⟨_, rfl, ?_⟩
  have hA147 := Ext.refl w135
  have hea148 := hE
  have hea149 := hA125
  have hz150 := hE.size
  have hz151 := hA125.size
  have hap152 : OB v143 n92 := own_older ho144 (bl hb102)
  have hap153 : ApartV v109 v143 := apartv_new ho111 ho144
  have hap154 : ApartV v143 v109 := apartv_new' ho111 ho144
  have hap155 : ApartV v121 v143 := apartv_new ho122.2 ho144
  have hap156 : ApartV v143 v121 := apartv_new' ho122.2 ho144
  have hE := hE.trans hx145
  have hb102 := eb hx145 hb102
  have ho111 := Stab.own _ _ _ _ _ _ _ _ ho111 hx145
  have hA125 := hA125.trans hx145
  have ho122 := ho122.keep hx145
  have hA147 := hA147.trans hx145
  refine oM rfl (oS rfl (Yk.extract (vs := [v143, NI ((getQ (qOf (openP (([] : List UInt8) ++ b ++ Sha.sum (b)))) (((idsQ (qOf (openP (([] : List UInt8) ++ b ++ Sha.sum (b)))))).getD (j) ([] : List UInt8))).2)]) (vr (.tuple #[v143, NI ((getQ (qOf (openP (([] : List UInt8) ++ b ++ Sha.sum (b)))) (((idsQ (qOf (openP (([] : List UInt8) ++ b ++ Sha.sum (b)))))).getD (j) ([] : List UInt8))).2)]) rfl) (show _ = some (v143 : Value) from rfl) (oS rfl (Yk.extract (vs := [v143, NI ((getQ (qOf (openP (([] : List UInt8) ++ b ++ Sha.sum (b)))) (((idsQ (qOf (openP (([] : List UInt8) ++ b ++ Sha.sum (b)))))).getD (j) ([] : List UInt8))).2)]) (vr (.tuple #[v143, NI ((getQ (qOf (openP (([] : List UInt8) ++ b ++ Sha.sum (b)))) (((idsQ (qOf (openP (([] : List UInt8) ++ b ++ Sha.sum (b)))))).getD (j) ([] : List UInt8))).2)]) rfl) (show _ = some (NI ((getQ (qOf (openP (([] : List UInt8) ++ b ++ Sha.sum (b)))) (((idsQ (qOf (openP (([] : List UInt8) ++ b ++ Sha.sum (b)))))).getD (j) ([] : List UInt8))).2) : Value) from rfl) (oA rfl (oA rfl (oZ ?_)))))))
  clear hp141
  refine tN (hK139 _ _ (sk fun K157 hK157 => ?_))
  refine wpF_draw [Is (NI ((getQ (qOf (openP (([] : List UInt8) ++ b ++ Sha.sum (b)))) (((idsQ (qOf (openP (([] : List UInt8) ++ b ++ Sha.sum (b)))))).getD (j) ([] : List UInt8))).2)), Is (.bool (false)), Is (.bool (false)), Is (v143), fun x w' => RBs w' x [(getQ (qOf (openP (([] : List UInt8) ++ b ++ Sha.sum (b)))) (((idsQ (qOf (openP (([] : List UInt8) ++ b ++ Sha.sum (b)))))).getD (j) ([] : List UInt8))).1.1], Is (AB (Sha.sum ((getQ (qOf (openP (([] : List UInt8) ++ b ++ Sha.sum (b)))) (((idsQ (qOf (openP (([] : List UInt8) ++ b ++ Sha.sum (b)))))).getD (j) ([] : List UInt8))).1.1))), Is (v121), Is (NI j), fun x w' => PR (Lib.byteCells (((idsQ (qOf (openP (([] : List UInt8) ++ b ++ Sha.sum (b)))))).getD (j) ([] : List UInt8))) x w', Is (AB (((idsQ (qOf (openP (([] : List UInt8) ++ b ++ Sha.sum (b)))))).getD (j) ([] : List UInt8))), Is (.bool (false)), Is (.bool (false))] (by kernel_rfl) [48, 49, 50, 51, 52, 53, 54, 55, 56, 57, 58, 59] (by kernel_rfl) (by kernel_rfl) (si4 ⟨(fun _ _ _ h k => RBs.keep h k), (si3 ⟨(fun _ _ _ h k => PR.keep h k), (si3 trivial)⟩)⟩) ?hs2013 ?hQ2013
  case hs2013 =>
   refine ⟨?_, ?_, ?_, ?_, ?_, ?_, ?_, ?_, ?_, ?_, ?_, ?_, trivial⟩
   ·refine stepN rfl fun σ w1 hC h => ?_
    have e12 : σ 12 = NI ((getQ (qOf (openP (([] : List UInt8) ++ b ++ Sha.sum (b)))) (((idsQ (qOf (openP (([] : List UInt8) ++ b ++ Sha.sum (b)))))).getD (j) ([] : List UInt8))).2) := (eqo (h 12 (by decide))).trans rfl
    exact Yk.move e12 ⟨Ext.refl _, rfl⟩
   ·refine stepN rfl fun σ w1 hC h => ?_
    have e48 := eqo (h 48 (by decide))
    exact Yk.eqI (a := ((getQ (qOf (openP (([] : List UInt8) ++ b ++ Sha.sum (b)))) (((idsQ (qOf (openP (([] : List UInt8) ++ b ++ Sha.sum (b)))))).getD (j) ([] : List UInt8))).2 : Nat)) (b := (0 : Nat)) e48 rfl (k_neq _ _ _ _) ⟨Ext.refl _, (congrArg Value.bool (decide_eq_false (fun h => h hall.2.1)))⟩
   ·refine stepN rfl fun σ w1 hC h => ?_
    have e49 := eqo (h 49 (by decide))
    exact Yk.move e49 ⟨Ext.refl _, rfl⟩
   ·refine stepY 2 false 50 rfl rfl (fun _ _ h => h) fun σ w1 hC h => ?_
    have e11 : σ 11 = v143 := (eqo (h 11 (by decide))).trans rfl
    exact Yk.move e11 ⟨Ext.refl _, rfl⟩
   ·refine stepY 2 false 50 rfl rfl (fun _ _ h => h) fun σ w1 hC h => ?_
    have e51 := eqo (h 51 (by decide))
    exact Yk.rows1 pk25_rows1_75 (RB.of (RB.ofOwn (Stab.own _ _ _ _ _ _ _ _ ho144 hC)) e51) fun v w2 h hx => ⟨hx, h⟩
   ·refine stepY 2 false 50 rfl rfl (fun _ _ h => h) fun σ w1 hC h => ?_
    have e52 : (fun x w' => RBs w' x [(getQ (qOf (openP (([] : List UInt8) ++ b ++ Sha.sum (b)))) (((idsQ (qOf (openP (([] : List UInt8) ++ b ++ Sha.sum (b)))))).getD (j) ([] : List UInt8))).1.1]) (σ 52) w1 := h 52 (by decide)
    refine Yk.callA1 pk25_pl17 rfl ((sum_one _ (hG.keep (hE.trans hC)) _ ((getQ (qOf (openP (([] : List UInt8) ++ b ++ Sha.sum (b)))) (((idsQ (qOf (openP (([] : List UInt8) ++ b ++ Sha.sum (b)))))).getD (j) ([] : List UInt8))).1.1) e52 (by have := open_get (([] : List UInt8) ++ b ++ Sha.sum (b)) (((idsQ (qOf (openP (([] : List UInt8) ++ b ++ Sha.sum (b)))))).getD (j) ([] : List UInt8)); omega)).mono ?_)
    rintro e w2 ⟨rfl, hx⟩
    exact ⟨_, rfl, hx, rfl⟩
   ·refine stepY 2 false 50 rfl rfl (fun _ _ h => h) fun σ w1 hC h => ?_
    have e9 := (eqo (h 9 (by decide))).trans T9
    exact Yk.move e9 ⟨Ext.refl _, rfl⟩
   ·refine stepY 2 false 50 rfl rfl (fun _ _ h => h) fun σ w1 hC h => ?_
    have e10 := (eqo (h 10 (by decide))).trans T10
    exact Yk.move e10 ⟨Ext.refl _, rfl⟩
   ·refine stepY 2 false 50 rfl rfl (fun _ _ h => h) fun σ w1 hC h => ?_
    have e54 := eqo (h 54 (by decide))
    have e55 := eqo (h 55 (by decide))
    exact Yk.atRG pk25_ty47 pk25_szg38 (by decide) ([] : List UInt8) (RG.of (RG.ofOwn (ho122.keep hC)) e54) e55 (by omega) fun v h => ⟨Ext.refl _, h⟩
   ·refine stepY 2 false 50 rfl rfl (fun _ _ h => h) fun σ w1 hC h => ?_
    have e56 : (fun x w' => PR (Lib.byteCells (((idsQ (qOf (openP (([] : List UInt8) ++ b ++ Sha.sum (b)))))).getD (j) ([] : List UInt8))) x w') (σ 56) w1 := h 56 (by decide)
    exact Yk.loadPR e56 pk25_ty38 rfl (by rw [RG.elem (RG.ofOwn ho122) ([] : List UInt8) (by omega)]; exact pk25_isz38) ⟨Ext.refl _, rfl⟩
   ·refine stepY 2 false 50 rfl rfl (fun _ _ h => h) fun σ w1 hC h => ?_
    have e53 := eqo (h 53 (by decide))
    have e57 := eqo (h 57 (by decide))
    exact Yk.neArr (l1 := (Sha.sum ((getQ (qOf (openP (([] : List UInt8) ++ b ++ Sha.sum (b)))) (((idsQ (qOf (openP (([] : List UInt8) ++ b ++ Sha.sum (b)))))).getD (j) ([] : List UInt8))).1.1))) (l2 := (((idsQ (qOf (openP (([] : List UInt8) ++ b ++ Sha.sum (b)))))).getD (j) ([] : List UInt8))) pk25_ty38 pk25_ty5 pk25_sz5 pk25_eg38 e53 e57 (Sha.sum_length _) (hall.1) ⟨Ext.refl _, (congrArg Value.bool (decide_eq_false (fun h => h hall.2.2)))⟩
   ·refine stepN rfl fun σ w1 hC h => ?_
    have e50 := eqo (h 50 (by decide))
    have e58 := eqo (h 58 (by decide))
    exact Yk.pickF e50 e58 ⟨Ext.refl _, rfl⟩
  intro ρ158 w159 hx160 he hf
  obtain ⟨-, -, -, -, -, -, -, -, -, -, -, k59, -⟩ := hf
  obtain ⟨T0, T1, T5, T6, T7, T8, T9, T10, T11, T12, T15, T19, T36, -⟩ := he.hold [(0, _), (1, _), (5, _), (6, _), (7, _), (8, _), (9, _), (10, _), (11, v143), (12, NI ((getQ (qOf (openP (([] : List UInt8) ++ b ++ Sha.sum (b)))) (((idsQ (qOf (openP (([] : List UInt8) ++ b ++ Sha.sum (b)))))).getD (j) ([] : List UInt8))).2)), (15, _), (19, _), (36, _)] ⟨T0, T1, T5, T6, T7, T8, T9, T10, rfl, rfl, T15, T19, (congrArg Value.bool (decide_eq_true (hlt))), trivial⟩ rfl
  clear he
  have hE := hE.trans hx160
  have hb102 := eb hx160 hb102
  have ho111 := Stab.own _ _ _ _ _ _ _ _ ho111 hx160
  have hA125 := hA125.trans hx160
  have ho122 := ho122.keep hx160
  have hA147 := hA147.trans hx160
  have ho144 := Stab.own _ _ _ _ _ _ _ _ ho144 hx160
  have T59 : ρ158 59 = .bool (false) := k59
  clear k59
  refine tN (hK157 _ _ (wpF_false T59 (wpF_skip (bN (tN (hK138 _ _ (wt (oM rfl (oS rfl (Yk.bin (xv := NI j) (yv := NI 1) T10 rfl rfl (i64_add _ _ _ (by omega)) (oA rfl (oL_ [(0, v), (1, .bool (true)), (5, v109), (6, PQ n92 0), (7, v115), (8, NI (eOf (openP (([] : List UInt8) ++ b ++ Sha.sum (b))))), (9, v121), (10, NI ((j) + (1))), (11, v143), (12, NI ((getQ (qOf (openP (([] : List UInt8) ++ b ++ Sha.sum (b)))) (((idsQ (qOf (openP (([] : List UInt8) ++ b ++ Sha.sum (b)))))).getD (j) ([] : List UInt8))).2)), (15, .bool (false)), (19, .bool (true)), (36, .bool (true)), (59, .bool (false))] ⟨T0, T1, T5, T6, T7, T8, T9, rfl, T11, T12, T15, T19, T36, T59, trivial⟩ fun ρ161 ⟨T0, T1, T5, T6, T7, T8, T9, T10, T11, T12, T15, T19, T36, T59, _⟩ => (tN (And.intro ⟨j + 1, T0, T1, T5, T6, T7, T8, T9, T15, T19, T10, hE, hb102, ho111, hA125, ho122, by omega, trivial⟩ ?_))))))))))))))
  show (idsQ (qOf (openP (([] : List UInt8) ++ b ++ Sha.sum (b))))).length - (intOf (ρ161 10)).toNat < (idsQ (qOf (openP (([] : List UInt8) ++ b ++ Sha.sum (b))))).length - (intOf (ρ134 10)).toNat
  rw [T10, q10]
  simp only [intOf, Int.toNat_natCast]; omega
 refine sk fun K162 hK162 => (sk fun K163 hK163 => (wt (oM rfl (oM rfl (oS rfl (Yk.lenRG pk25_ty47 (RG.of (RG.ofOwn ho122) T9) (oS rfl (Yk.eqI (a := (j : Nat)) (b := (((idsQ (qOf (openP (([] : List UInt8) ++ b ++ Sha.sum (b)))))).length : Nat)) T10 rfl (k_lss _ _ _ _) (oZ ?_)))))))))
 rcases hs : ((qOf (openP (([] : List UInt8) ++ b ++ Sha.sum (b))))).isSome with _ | _
 ·have hz : eOf (openP (([] : List UInt8) ++ b ++ Sha.sum (b))) ≠ 0 := fun h => by rw [eOf_zero.1 h] at hs; cases hs
  have hl0 : (idsQ (qOf (openP (([] : List UInt8) ++ b ++ Sha.sum (b))))).length = 0 := by cases hqq : (qOf (openP (([] : List UInt8) ++ b ++ Sha.sum (b)))) with | none => rfl | some p => rw [hqq] at hs; cases hs
  refine tN (hK163 _ _ (wpF_false (vr (.bool (false)) (congrArg Value.bool (decide_eq_false (hlt)))) (wpF_exit (thenF_exit (thenF_exit (inBlockF_hit (tN (hK131 _ _ (sk fun K164 hK164 => (wt (oM rfl (oS rfl (Yk.eqI (a := (eOf (openP (([] : List UInt8) ++ b ++ Sha.sum (b))) : Nat)) (b := (0 : Nat)) T8 rfl (k_eql _ _ _ _) (oM rfl (oY (d := 62) rfl rfl (vr (.bool (false)) (congrArg Value.bool (decide_eq_false (hz)))) (Yk.move T9 (oY (d := 62) rfl rfl (vr (.bool (false)) (congrArg Value.bool (decide_eq_false (hz)))) (Yk.lenRG pk25_ty47 (RG.of (RG.ofOwn ho122) (vr v121 rfl)) (oY (d := 62) rfl rfl (vr (.bool (false)) (congrArg Value.bool (decide_eq_false (hz)))) (Yk.eqI (a := (((idsQ (qOf (openP (([] : List UInt8) ++ b ++ Sha.sum (b)))))).length : Nat)) (b := (0 : Nat)) rfl rfl (k_eql _ _ _ _) (oS rfl (Yk.pickF (vr (.bool (false)) (congrArg Value.bool (decide_eq_false (hz)))) (vr (.bool (true)) (congrArg Value.bool (decide_eq_true (hl0)))) (oM rfl (oY (d := 67) rfl rfl (vr (.bool (true)) rfl) (Yk.callA0 pk25_pl14  ((awake11 _ (hG.keep hE)).mono ?_))))))))))))))))))))))))))
  rintro e w166 ⟨rfl, hx165⟩
  refine ⟨_, rfl, ?_⟩
  have hE := hE.trans hx165
  have hb102 := eb hx165 hb102
  have ho111 := Stab.own _ _ _ _ _ _ _ _ ho111 hx165
  have hA125 := hA125.trans hx165
  have ho122 := ho122.keep hx165
  refine oS rfl (Yk.pickT (vr (.bool (true)) rfl) (vr (.bool (true)) rfl) (oA rfl (oZ (tN (hK164 _ _ (wpF_ret (postF_ret (fn := Tryd.f7) _ rfl [.bool (true)] (.bool (true)) rfl ⟨rfl, trivial⟩ ?_)))))))
  exact ⟨rfl, hE⟩
 have hz := eOf_zero.2 hs
 refine tN (hK163 _ _ (wpF_false (vr (.bool (false)) (congrArg Value.bool (decide_eq_false (hlt)))) (wpF_exit (thenF_exit (thenF_exit (inBlockF_hit (tN (hK131 _ _ (sk fun K167 hK167 => (wt (oM rfl (oS rfl (Yk.eqI (a := (eOf (openP (([] : List UInt8) ++ b ++ Sha.sum (b))) : Nat)) (b := (0 : Nat)) T8 rfl (k_eql _ _ _ _) (oM rfl (oN (d := 62) rfl rfl rfl (vr (.bool (true)) (congrArg Value.bool (decide_eq_true (hz)))) rfl (oN (d := 62) rfl rfl rfl (vr (.bool (true)) (congrArg Value.bool (decide_eq_true (hz)))) rfl (oN (d := 62) rfl rfl rfl (vr (.bool (true)) (congrArg Value.bool (decide_eq_true (hz)))) rfl (oS rfl (Yk.pickT (vr (.bool (true)) (congrArg Value.bool (decide_eq_true (hz)))) (vr (.bool (true)) rfl) (oM rfl (oY (d := 67) rfl rfl (vr (.bool (true)) rfl) (Yk.callA0 pk25_pl14  ((awake11 _ (hG.keep hE)).mono ?_)))))))))))))))))))))))
 rintro e w169 ⟨rfl, hx168⟩
 refine ⟨_, rfl, ?_⟩
 have hE := hE.trans hx168
 have hb102 := eb hx168 hb102
 have ho111 := Stab.own _ _ _ _ _ _ _ _ ho111 hx168
 have hA125 := hA125.trans hx168
 have ho122 := ho122.keep hx168
 refine oS rfl (Yk.pickT (vr (.bool (true)) rfl) (vr (.bool (true)) rfl) (oA rfl (oZ (tN (hK167 _ _ (wpF_ret (postF_ret (fn := Tryd.f7) _ rfl [.bool (true)] (.bool (true)) rfl ⟨rfl, trivial⟩ ?_)))))))
 exact ⟨rfl, hE⟩
end Go.Proofs.YtcegdjpdnlaleaaDoor
