/- Part 4 of what stands behind these statements: laws and walks of the functions that are reached. Conditions: those that each theorem names. -/
import Derived.Test.YtejpjjhkjdpeaaaDoorX3
set_option linter.unusedVariables false
set_option linter.unusedSimpArgs false
namespace Go.Proofs.YtejpjjhkjdpeaaaDoor
open Go.RowKit
set_option linter.unusedVariables false
set_option linter.unusedSimpArgs false
def zid32 : List UInt8 := List.replicate 32 0
inductive Stp where
  | add (b : List UInt8)
  | sync
  | rem
def stepD (D : Dsk) (s : List UInt8) : Stp → Dsk × Nat
  | .add b => appendD D s b
  | .sync => syncD D s
  | .rem => dropD D s
def stepsD (D : Dsk) (s : List UInt8) : List Stp → Dsk × Nat
  | [] => (D, 0)
  | a :: r => if (stepD D s a).2 ≠ 0 then stepD D s a else stepsD (stepD D s a).1 s r
theorem steps_cons (D : Dsk) (s : List UInt8) (a : Stp) (r : List Stp) : stepsD D s (a :: r) = if (stepD D s a).2 ≠ 0 then stepD D s a else stepsD (stepD D s a).1 s r := rfl
def getL (D : Dsk) (id : List UInt8) : List UInt8 × Nat :=
  if (readD D (nmO id)).2 = 4 ∨ ((readD D (nmO id)).2 = 0 ∧ Sha.sum (readD D (nmO id)).1 ≠ id) then ([], 12) else readD D (nmO id)
def finL (r : Dsk × Nat) (id : List UInt8) : Dsk × List UInt8 × List UInt8 × Nat := if r.2 ≠ 0 then (r.1, zid32, [], r.2) else (r.1, id, [], 0)
def putL (D : Dsk) (b : List UInt8) : Dsk × List UInt8 × List UInt8 × Nat :=
  if (readD D (nmO (Sha.sum b))).2 = 4 then finL (stepsD D (nmO (Sha.sum b)) [.add b, .sync]) (Sha.sum b)
  else if (readD D (nmO (Sha.sum b))).2 ≠ 0 then (D, zid32, [], (readD D (nmO (Sha.sum b))).2)
  else if (readD D (nmO (Sha.sum b))).1 = b then finL (stepsD D (nmO (Sha.sum b)) [.sync]) (Sha.sum b)
  else if Sha.sum (readD D (nmO (Sha.sum b))).1 = Sha.sum b then (D, Sha.sum b, (readD D (nmO (Sha.sum b))).1, 7)
  else finL (stepsD D (nmO (Sha.sum b)) [.rem, .add b, .sync]) (Sha.sum b)
def dropL (D : Dsk) (id : List UInt8) : Dsk × Nat := if (dropD D (nmO id)).2 = 4 then ((dropD D (nmO id)).1, 12) else dropD D (nmO id)
def idOf (D : Dsk) (s : List UInt8) : Option (List UInt8) :=
  if (cutP [111, 45] s).2 = true ∧ (unhex (cutP [111, 45] s).1).2 = true ∧ (getL D (unhex (cutP [111, 45] s).1).1).2 = 0 then some (unhex (cutP [111, 45] s).1).1 else none
def idsL (D : Dsk) : List (List UInt8) := (listD D).filterMap (idOf D)
section
variable {P : Program} {K : Value → World → Prop} {ρ : Slots} {w : World} {d : Option Tmp} {ty : TypeId} {pos : String} {af : Array Edge} {gd : Option (Nat × Bool)}
theorem Yk.cloB {f : FuncId} (hp : Plain P f) {c : Operand} {args : Array Operand} {at_ : Array TypeId} {bd caps : Array Value} (hc : evalR ρ c = .func (.func f) bd caps) (vs : Array Value) (hv : bd ++ args.map (evalR ρ) ++ caps = vs)
    (h : Calls P f vs w fun e w' => ∃ v, e = .returned v ∧ K v w') : Yk P K ((execOp (evalR ρ) ⟨d, .call ⟨.value c, args, at_⟩, ty, pos, af, gd⟩).run P w) := by
  subst hv
  refine Yk.enter (f := f) (args := bd ++ args.map (evalR ρ) ++ caps) (w' := w) ?_ h
  unfold execOp
  simp [resolve, hc, Deferred.ofValue, invoke, hp _ w]
theorem Yk.stp {f : FuncId} {c x : Operand} {v y u : Value} {bd caps : Array Value} {R : Dk → World → Prop} {at_ : Array TypeId} (hp : Plain P f) (hc : evalR ρ c = v) (hve : v = .func (.func f) bd caps) (hx : evalR ρ x = y)
    (h : Calls P f (bd ++ #[y] ++ caps) w fun e w' => ∃ H', e = .returned u ∧ R H' w') (hk : ∀ H' w', R H' w' → K u w') : Yk P K ((execOp (evalR ρ) ⟨d, .call ⟨.value c, #[x], at_⟩, ty, pos, af, gd⟩).run P w) :=
  Yk.cloB hp (hc.trans hve) _ (by simp [hx]) (h.mono fun e w' ⟨H', q1, q2⟩ => ⟨_, q1, hk H' w' q2⟩)
theorem Yk.mkFuncB {f : Fn} {x : Operand} {v : Value} (hx : evalR ρ x = v) (hk : K (.func f #[v] #[]) w) : Yk P K ((execOp (evalR ρ) ⟨d, .makeFunc f #[x] #[], ty, pos, af, gd⟩).run P w) := by
  refine Yk.run (v := .func f #[v] #[]) ?_ hk
  unfold execOp
  simp [hx, Instr.makeFunc]
end
section
variable {wb w w' : World} {g : Nat} {H H' : Dk} {D D' : Dsk}
def StpAt (w : World) (g : Nat) (H : Dk) (n : Nat) (v : Value) : Stp → Prop
  | .add b => ∃ bd bb vb, v = .func (.func 22) #[] #[PQ bd 0, PQ bb 0] ∧ w.heap[bd]? = some (.cells ([PQ g 0]).toArray 23 (0, 0)) ∧ w.heap[bb]? = some (.cells ([vb]).toArray 22 (0, 0)) ∧ RB w vb b ∧ (b = [] ∨ ∀ i, vb.ownBlock = some i → ¬ Foot H n i) ∧ b.length ≤ 300
  | .sync => v = .func (.func 25) #[PQ g 0] #[]
  | .rem => v = .func (.func 26) #[PQ g 0] #[]
theorem DkW.off (hW : DkW wb w g H D w' H' D') {v : Value} {b : List UInt8} (hr : RB w v b) (ho : b = [] ∨ ∀ i, v.ownBlock = some i → ¬ Foot H D.files.length i) : b = [] ∨ ∀ i, v.ownBlock = some i → ¬ Foot H' D'.files.length i := by
  rcases ho with h0 | ho
  · exact .inl h0
  · by_cases hb : b = []
    · exact .inl hb
    · refine .inr fun i hi q => ?_
      rcases hW.foot i q with q | q
      · exact ho i hi q
      · have := RB.lt hr (List.length_pos_iff.2 hb) hi
        omega
theorem StpAt.step (hD : DkG wb w g H D) (hW : DkW wb w g H D w' H' D') {v : Value} {a : Stp} (h : StpAt w g H D.files.length v a) : StpAt w' g H' D'.files.length v a := by
  cases a with
  | sync => exact h
  | rem => exact h
  | add b =>
    obtain ⟨bd, bb, vb, e, h1, h2, h3, h4, h5⟩ := h
    exact ⟨bd, bb, vb, e, hD.box hW.chg h1 (by decide) (by decide) (by decide) (by decide), hD.box hW.chg h2 (by decide) (by decide) (by decide) (by decide), h3.chg hW.chg h4, hW.off h3 h4, h5⟩
theorem StpAt.ext {n : Nat} {v : Value} {a : Stp} (h : StpAt w g H n v a) (k : Ext w w') : StpAt w' g H n v a := by
  cases a with
  | sync => exact h
  | rem => exact h
  | add b =>
    obtain ⟨bd, bb, vb, e, h1, h2, h3, h4, h5⟩ := h
    exact ⟨bd, bb, vb, e, Ext.blk' k h1, Ext.blk' k h2, h3.keep k, h4, h5⟩
theorem DkW.ofExt (h : DkG wb w g H D) (k : Ext w w') : DkW wb w g H D w' H D := ⟨h.keep k, Chg.ofExt k, fun _ q => .inl q⟩
theorem DkW.setT (h : DkW wb w g H D w' H' D') {w2 : World} {b : Nat} {cs : Array Value} {t : TypeId} {fr : Nat × Nat} (hg : w'.grownBy w2 (some b)) (hb : w'.heap[b]? = some (.cells cs t fr)) (hw : w.heap.size ≤ b) (h1 : t ≠ 55) (h2 : t ≠ 71) (h3 : t ≠ 5) (h4 : t ≠ 73) (h5 : t ≠ 69) (h6 : t ≠ 9) (hwb : wb.heap.size ≤ w.heap.size) : DkW wb w g H D w2 H' D' :=
  ⟨h.g.setT hg hb (Nat.le_trans hwb hw) h1 h2 h3 h4 h5 h6, Chg.set h.chg hg (.inr hw), h.foot⟩
theorem DkW.trans {w2 : World} {H2 : Dk} {D2 : Dsk} (h : DkW wb w g H D w' H' D') (k : DkW wb w' g H' D' w2 H2 D2) : DkW wb w g H D w2 H2 D2 :=
  ⟨k.g, h.chg.trans k.chg h.foot, fun i q => (k.foot i q).elim (h.foot i) fun r => .inr (Nat.le_trans h.chg.size r)⟩
end
theorem read_len {D : Dsk} (h : DLt D) (s : List UInt8) : (readD D s).1.length < 1099511627776 := by
  unfold readD
  split
  · exact show (0 : Nat) < 1099511627776 by omega
  · rename_i k _
    show (fileD D k).1.length < _
    by_cases hk : k < D.files.length
    · exact h.files _ (fileD_mem hk)
    · unfold fileD
      rw [List.getD_eq_getElem?_getD, List.getElem?_eq_none (by omega)]
      decide
theorem DBd.step {n : Nat} {D : Dsk} (h : DBd n D) (s : List UInt8) : ∀ (a : Stp), (∀ b, a = .add b → b.length ≤ 300) → DBd (n + 1) (stepD D s a).1
  | .add b, hb => h.append s (hb b rfl)
  | .sync, _ => h.sync s
  | .rem, _ => h.drop s
open Go.RowKit
set_option maxRecDepth 100000
set_option linter.unusedVariables false
set_option linter.unusedSimpArgs false
structure StpsAt (w : World) (g : Nat) (H : Dk) (n : Nat) (vs : List Value) (ac : List Stp) : Prop where
 len : vs.length = ac.length
 at_ : ∀ i, i < ac.length → StpAt w g H n (vs.getD i undef) (ac.getD i .sync)
theorem StpsAt.ext {w w' : World} {g n : Nat} {H : Dk} {vs : List Value} {ac : List Stp} (h : StpsAt w g H n vs ac) (k : Ext w w') : StpsAt w' g H n vs ac := ⟨h.len, fun i hi => (h.at_ i hi).ext k⟩
theorem StpsAt.step {wb w w' : World} {g : Nat} {H H' : Dk} {D D' : Dsk} {vs : List Value} {ac : List Stp} (h : StpsAt w g H D.files.length vs ac) (hD : DkG wb w g H D) (hW : DkW wb w g H D w' H' D') : StpsAt w' g H' D'.files.length vs ac := ⟨h.len, fun i hi => (h.at_ i hi).step hD hW⟩
theorem DkW.keep {wb w w' w2 : World} {g : Nat} {H H' : Dk} {D D' : Dsk} (h : DkW wb w g H D w' H' D') (k : Ext w' w2) : DkW wb w g H D w2 H' D' := ⟨h.g.keep k, h.chg.keep k, h.foot⟩
theorem drop_getD {l : List Stp} {i : Nat} (h : i < l.length) : l.drop i = l.getD i .sync :: l.drop (i + 1) := by
 rw [List.getD_eq_getElem?_getD, List.getElem?_eq_getElem h]
 simp
theorem ls3_ty23 : Tryd.prog.underlying 23 = some (.pointer 55) := by kernel_rfl
theorem ls3_ty22 : Tryd.prog.underlying 22 = some (.slice 5) := by kernel_rfl
theorem ls3_pl12 : Plain Tryd.prog 12 := fun _ _ => by kernel_rfl
theorem ls3_ty90 : Tryd.prog.underlying 90 = some (.slice 56) := by kernel_rfl
theorem ls3_sz56 : ∀ w' : World, (sizeOf 56).run Tryd.prog w' = .ok 1 w' := fun _ => by kernel_rfl
theorem ls3_ty56 : Tryd.prog.underlying 56 = some (.func #[9] #[27] false) := by kernel_rfl
set_option maxHeartbeats 1600000
theorem putAdd_at (wb w : World) (g : Nat) (H : Dk) (D : Dsk) (hD : DkG wb w g H D) (s : List UInt8) (bd bb : Nat) (vb : Value) (b : List UInt8) (hbd : w.heap[bd]? = some (.cells ([PQ g 0]).toArray 23 (0, 0))) (hbb : w.heap[bb]? = some (.cells ([vb]).toArray 22 (0, 0))) (hr : RB w vb b) (hoff : b = [] ∨ ∀ i, vb.ownBlock = some i → ¬ Foot H D.files.length i) (hbl : b.length < 1099511627776) (hL : DLt D) :
  Calls Tryd.prog 22 #[St s, PQ bd 0, PQ bb 0] w fun e w' => ∃ H', e = .returned (NI (appendD D s b).2) ∧ DkW wb w g H D w' H' ((appendD D s b).1) := by
 refine calls_of_wpF (args := [St (s), PQ bd 0, PQ bb 0]) Tryd.func22 rfl 9 rfl (Nat.le_of_ble_eq_true rfl) ?_
 intro ρ0 hb
 have T0 : ρ0 0 = (St (s) : Value) := hb.get 0
 have T1 : ρ0 1 = (PQ bd 0 : Value) := hb.get 1
 have T2 : ρ0 2 = (PQ bb 0 : Value) := hb.get 2
 clear hb
 have hE := Ext.refl w
 refine sk fun K1 hK1 => (wt (oA rfl (oZ (tN (hK1 _ _ (sk fun K2 hK2 => (wt (oS rfl (Yk.cell1 ls3_ty23 rfl T1 (cellAt hbd (show _ = some (PQ g 0 : Value) from rfl)) (oM rfl (oS rfl (Yk.cell1 ls3_ty22 rfl T2 (cellAt hbb (show _ = some (vb : Value) from rfl)) (oS rfl (Yk.callA3 ls3_pl12 (vr (PQ g 0) rfl) T0 (vr vb rfl) (((hD.keep hE).appendW s vb b (hr.keep hE) hoff hbl hL).mono ?_)))))))))))))))
 rintro e w3 ⟨H2, rfl, hW⟩
 refine ⟨_, rfl, ?_⟩
 refine oA rfl (oZ (tN (hK2 _ _ (wpF_ret (postF_ret (fn := Tryd.f22) _ rfl [NI ((appendD D s b).2)] (NI ((appendD D s b).2)) rfl ⟨rfl, trivial⟩ ?_)))))
 exact ⟨H2, rfl, hW⟩

theorem stp_call {wb w : World} {g : Nat} {H : Dk} {D : Dsk} (hD : DkG wb w g H D) (hL : DLt D) (s : List UInt8) {v : Value} {a : Stp} (h : StpAt w g H D.files.length v a) :
  ∃ f bd caps, v = .func (.func f) bd caps ∧ Plain Tryd.prog f ∧ Calls Tryd.prog f (bd ++ #[St s] ++ caps) w fun e w' => ∃ H', e = .returned (NI (stepD D s a).2) ∧ DkW wb w g H D w' H' (stepD D s a).1 := by
 cases a with
 | sync => exact ⟨_, _, _, h, fun _ _ => by kernel_rfl, hD.syncW s hL⟩
 | rem => exact ⟨_, _, _, h, fun _ _ => by kernel_rfl, hD.dropW s hL⟩
 | add b =>
  obtain ⟨bd, bb, vb, e, h1, h2, h3, h4, h5⟩ := h
  exact ⟨_, _, _, e, fun _ _ => by kernel_rfl, putAdd_at wb w g H D hD s bd bb vb b h1 h2 h3 h4 (by omega) hL⟩
theorem steps_at (wb w : World) (g : Nat) (H : Dk) (D : Dsk) (hD : DkG wb w g H D) (s : List UInt8) (rb : Nat) (vs : List Value) (ac : List Stp) (hrb : w.heap[rb]? = some (.cells vs.toArray 56 (0, 0))) (hA0 : StpsAt w g H D.files.length vs ac) (n : Nat) (hB : DBd n D) (hn : n + ac.length ≤ 100000) (hbs : ∀ a ∈ ac, ∀ b, a = .add b → b.length ≤ 300) :
  Calls Tryd.prog 24 #[St s, .slice (some ⟨rb, 0, none⟩) vs.length vs.length] w fun e w' => ∃ H', e = .returned (NI (stepsD D s ac).2) ∧ DkW wb w g H D w' H' ((stepsD D s ac).1) := by
 have hal := hA0.len
 have hvm : vs.length ≤ maxLen := by simp only [maxLen]; omega
 refine calls_of_wpF (args := [St (s), .slice (some ⟨rb, 0, none⟩) vs.length vs.length]) Tryd.func24 rfl 21 rfl (Nat.le_of_ble_eq_true rfl) ?_
 intro ρ0 hb
 have T0 : ρ0 0 = (St (s) : Value) := hb.get 0
 have T1 : ρ0 1 = (.slice (some ⟨rb, 0, none⟩) vs.length vs.length : Value) := hb.get 1
 clear hb
 have hE := Ext.refl w
 refine sk fun K1 hK1 => (wt (oA rfl (oZ (tN (hK1 _ _ (sk fun K2 hK2 => (sk fun K3 hK3 => (wt (oM rfl (oS rfl (Yk.lenSl ls3_ty90 T1 (oM rfl (oL_ [(0, St (s)), (1, .slice (some ⟨rb, 0, none⟩) vs.length vs.length), (4, NI 0), (8, .slice (some ⟨rb, 0, none⟩) vs.length vs.length), (9, NI vs.length), (10, NI 0)] ⟨T0, T1, rfl, T1, rfl, rfl, trivial⟩ fun ρ4 ⟨T0, T1, T4, T8, T9, T10, _⟩ => (tN (hK3 _ _ (wpF_block (wpF_loop (fun (ρ : Slots) (wz : World) => ∃ i : Nat, ∃ Hi : Dk, ∃ Di : Dsk, ρ 0 = (St (s) : Value) ∧ ρ 1 = (.slice (some ⟨rb, 0, none⟩) vs.length vs.length : Value) ∧ ρ 8 = (.slice (some ⟨rb, 0, none⟩) vs.length vs.length : Value) ∧ ρ 9 = (NI vs.length : Value) ∧ ρ 10 = (NI i : Value) ∧ wz.heap[rb]? = some (.cells vs.toArray 56 (0, 0)) ∧ DkW wb w g H D wz Hi Di ∧ StpsAt wz g Hi Di.files.length vs ac ∧ (i ≤ ac.length) ∧ (stepsD D s ac = stepsD Di s (ac.drop i)) ∧ (DBd (n + i) Di) ∧ True) (fun ρ _ => ac.length - (intOf (ρ 10)).toNat) ⟨0, H, D, T0, T1, T8, T9, T10, hrb, DkW.ofExt hD hE, hA0.ext hE, Nat.zero_le _, rfl, hB, trivial⟩ ?_)))))))))))))))))
 clear hE
 clear hrb
 rintro ρ5 w6 ⟨i, Hi, Di, T0, T1, T8, T9, T10, hrb, hW, hA, hi, hq, hBi, -⟩
 have q10 := T10
 refine sk fun K7 hK7 => (wt (oS rfl (Yk.eqI (a := (i : Nat)) (b := (vs.length : Nat)) T10 T9 (k_lss _ _ _ _) (oZ (tN (hK7 _ _ (sk fun K8 hK8 => ?_)))))))
 refine wpF_cond ((i) < (vs.length)) (vr (.bool (decide ((i) < (vs.length)))) rfl) (fun hc0 => ?_) (fun hc0 => ?_)
 ·have hlt : i < ac.length := by have h := hc0; rw [hal] at h; exact h
  have hcell : vs[i]? = some (vs.getD i undef) := by rw [List.getD_eq_getElem?_getD, List.getElem?_eq_getElem (by rw [hal]; exact hlt)]; rfl
  refine wpF_skip (tN (hK8 _ _ (sk fun K9 hK9 => (wpF_block (sk fun K10 hK10 => (wt (oS rfl (Yk.atSl0 (i := i) ls3_ty90 ls3_sz56 T8 T10 (by rw [hal]; exact hlt) (oS rfl (Yk.cell1 ls3_ty56 rfl (vr (PQ rb i) rfl) (cellAt hrb hcell) (oA rfl (oZ ?_))))))))))))
  obtain ⟨fi, bi, ci, hvi, hpl, hcl⟩ := stp_call hW.g (hBi.lt (by omega)) s (hA.at_ i hlt)
  refine tN (hK10 _ _ (sk fun K11 hK11 => (wt (oM rfl (oM rfl (oS rfl (Yk.stp hpl (vr (vs.getD i undef) rfl) hvi T0 hcl fun H2 w9 hW2 => ?_)))))))
  have hW3 := hW.trans hW2
  have hrb := hW.g.box hW2.chg hrb (by decide) (by decide) (by decide) (by decide)
  have hA3 := hA.step hW.g hW2
  refine oA rfl (oZ (tN (hK11 _ _ (sk fun K12 hK12 => (wt (oM rfl (oS rfl (Yk.eqI (a := ((stepD Di s (ac.getD i .sync)).2 : Nat)) (b := (0 : Nat)) rfl rfl (k_neq _ _ _ _) (oZ (tN (hK12 _ _ ?_)))))))))))
  refine wpF_cond (((stepD Di s (ac.getD i .sync)).2 : Nat) ≠ (0)) (vr (.bool (decide (((stepD Di s (ac.getD i .sync)).2 : Nat) ≠ (0)))) rfl) (fun hc1 => ?_) (fun hc1 => ?_)
  ·refine sk fun K13 hK13 => (wt (oM rfl (oA rfl (oZ (tN (hK13 _ _ (wpF_ret (inBlockF_ret (thenF_ret (thenF_ret (inBlockF_ret (thenF_ret (postF_ret (fn := Tryd.f24) _ rfl [NI ((stepD Di s (ac.getD i .sync)).2)] (NI ((stepD Di s (ac.getD i .sync)).2)) rfl ⟨rfl, trivial⟩ ?_)))))))))))))
   have hV : stepsD D s ac = stepD Di s (ac.getD i .sync) := by rw [hq, drop_getD hlt, steps_cons, if_pos hc1]
   exact ⟨H2, by rw [hV], by rw [hV]; exact hW3⟩
  have hst : ¬ (stepD Di s (ac.getD i .sync)).2 ≠ 0 := hc1
  have hq3 : stepsD D s ac = stepsD (stepD Di s (ac.getD i .sync)).1 s (ac.drop (i + 1)) := by rw [hq, drop_getD hlt, steps_cons, if_neg hst]
  have hB3 := hBi.step s (ac.getD i .sync) (hbs _ (getD_mem .sync hlt))
  refine wpF_skip (bN (tN (hK9 _ _ (wt (oS rfl (Yk.bin (xv := NI i) (yv := NI 1) T10 rfl rfl (i64_add _ _ _ (by omega)) (oM rfl (oL_ [(0, St (s)), (1, .slice (some ⟨rb, 0, none⟩) vs.length vs.length), (6, (vs.getD i undef)), (7, NI ((stepD Di s (ac.getD i .sync)).2)), (8, .slice (some ⟨rb, 0, none⟩) vs.length vs.length), (9, NI vs.length), (10, NI ((i) + (1)))] ⟨T0, T1, rfl, rfl, T8, T9, rfl, trivial⟩ fun ρ14 ⟨T0, T1, T6, T7, T8, T9, T10, _⟩ => (tN (And.intro ⟨i + 1, H2, (stepD Di s (ac.getD i .sync)).1, T0, T1, T8, T9, T10, hrb, hW3, hA3, by omega, hq3, hB3, trivial⟩ ?_))))))))))
  show ac.length - (intOf (ρ14 10)).toNat < ac.length - (intOf (ρ5 10)).toNat
  rw [T10, q10]
  simp only [intOf, Int.toNat_natCast]; omega
 refine wpF_exit (thenF_exit (thenF_exit (inBlockF_hit (tN (hK2 _ _ (sk fun K15 hK15 => (wt (oA rfl (oZ (tN (hK15 _ _ (wpF_ret (postF_ret (fn := Tryd.f24) _ rfl [NI 0] (NI 0) rfl ⟨rfl, trivial⟩ ?_)))))))))))))
 have hie : i = ac.length := by have h := hc0; rw [hal] at h; omega
 have hV : stepsD D s ac = (Di, 0) := by rw [hq, hie, List.drop_length]; rfl
 exact ⟨Hi, by rw [hV], by rw [hV]; exact hW⟩
open Go.RowKit
set_option maxRecDepth 100000
set_option linter.unusedVariables false
set_option linter.unusedSimpArgs false
theorem stps1 {w : World} {g n : Nat} {H : Dk} {v : Value} {a : Stp} (h : StpAt w g H n v a) : StpsAt w g H n [v] [a] := ⟨rfl, fun i hi => by
 have : i = 0 := by simp at hi; omega
 subst this
 exact h⟩
theorem stps2 {w : World} {g n : Nat} {H : Dk} {v v2 : Value} {a a2 : Stp} (h : StpAt w g H n v a) (h2 : StpAt w g H n v2 a2) : StpsAt w g H n [v, v2] [a, a2] := ⟨rfl, fun i hi => by
 match i, hi with
 | 0, _ => exact h
 | 1, _ => exact h2⟩
theorem stps3 {w : World} {g n : Nat} {H : Dk} {v v2 v3 : Value} {a a2 a3 : Stp} (h : StpAt w g H n v a) (h2 : StpAt w g H n v2 a2) (h3 : StpAt w g H n v3 a3) : StpsAt w g H n [v, v2, v3] [a, a2, a3] := ⟨rfl, fun i hi => by
 match i, hi with
 | 0, _ => exact h
 | 1, _ => exact h2
 | 2, _ => exact h3⟩
section
variable {P : Program} {K : Value → World → Prop} {ρ : Slots} {w : World} {d : Option Tmp} {ty : TypeId} {pos : String} {af : Array Edge} {gd : Option (Nat × Bool)}
theorem Yk.litF1 {t e : TypeId} {x0 : Operand} {v0 : Value} (h0 : evalR ρ x0 = v0) (hr : ∀ w : World, (Instr.buildSlice t 1 #[(0, v0)]).run P w = .ok (.slice (some ⟨w.heap.size, 0, none⟩) 1 1) (w.alloc (.cells #[v0] e)))
  (hk : ∀ n w', w.heap.size = n → w'.heap[n]? = some (.cells ([v0]).toArray e (0, 0)) → Ext w w' → w'.heap.size = n + 1 → K (.slice (some ⟨n, 0, none⟩) 1 1) w') : Yk P K ((execOp (evalR ρ) ⟨d, .buildSlice t 1 #[(0, x0)], ty, pos, af, gd⟩).run P w) := by
 have hr' : (execOp (evalR ρ) ⟨d, .buildSlice t 1 #[(0, x0)], ty, pos, af, gd⟩).run P w = .ok (.value (.slice (some ⟨w.heap.size, 0, none⟩) 1 1)) (w.alloc (.cells #[v0] e)) := by
  unfold execOp
  simp only [List.map_toArray, List.map_cons, List.map_nil, h0, Sem.run_bind, hr, Result.andThen_ok, Sem.run_pure]
 rw [hr']
 exact hk _ _ rfl (heap_alloc_new w _) ((Below.refl _ _).alloc (Nat.le_refl _) _) (by simp)
theorem Yk.litF2 {t e : TypeId} {x0 x1 : Operand} {v0 v1 : Value} (h0 : evalR ρ x0 = v0) (h1 : evalR ρ x1 = v1) (hr : ∀ w : World, (Instr.buildSlice t 2 #[(0, v0), (1, v1)]).run P w = .ok (.slice (some ⟨w.heap.size, 0, none⟩) 2 2) (w.alloc (.cells #[v0, v1] e)))
  (hk : ∀ n w', w.heap.size = n → w'.heap[n]? = some (.cells ([v0, v1]).toArray e (0, 0)) → Ext w w' → w'.heap.size = n + 1 → K (.slice (some ⟨n, 0, none⟩) 2 2) w') : Yk P K ((execOp (evalR ρ) ⟨d, .buildSlice t 2 #[(0, x0), (1, x1)], ty, pos, af, gd⟩).run P w) := by
 have hr' : (execOp (evalR ρ) ⟨d, .buildSlice t 2 #[(0, x0), (1, x1)], ty, pos, af, gd⟩).run P w = .ok (.value (.slice (some ⟨w.heap.size, 0, none⟩) 2 2)) (w.alloc (.cells #[v0, v1] e)) := by
  unfold execOp
  simp only [List.map_toArray, List.map_cons, List.map_nil, h0, h1, Sem.run_bind, hr, Result.andThen_ok, Sem.run_pure]
 rw [hr']
 exact hk _ _ rfl (heap_alloc_new w _) ((Below.refl _ _).alloc (Nat.le_refl _) _) (by simp)
theorem Yk.litF3 {t e : TypeId} {x0 x1 x2 : Operand} {v0 v1 v2 : Value} (h0 : evalR ρ x0 = v0) (h1 : evalR ρ x1 = v1) (h2 : evalR ρ x2 = v2) (hr : ∀ w : World, (Instr.buildSlice t 3 #[(0, v0), (1, v1), (2, v2)]).run P w = .ok (.slice (some ⟨w.heap.size, 0, none⟩) 3 3) (w.alloc (.cells #[v0, v1, v2] e)))
  (hk : ∀ n w', w.heap.size = n → w'.heap[n]? = some (.cells ([v0, v1, v2]).toArray e (0, 0)) → Ext w w' → w'.heap.size = n + 1 → K (.slice (some ⟨n, 0, none⟩) 3 3) w') : Yk P K ((execOp (evalR ρ) ⟨d, .buildSlice t 3 #[(0, x0), (1, x1), (2, x2)], ty, pos, af, gd⟩).run P w) := by
 have hr' : (execOp (evalR ρ) ⟨d, .buildSlice t 3 #[(0, x0), (1, x1), (2, x2)], ty, pos, af, gd⟩).run P w = .ok (.value (.slice (some ⟨w.heap.size, 0, none⟩) 3 3)) (w.alloc (.cells #[v0, v1, v2] e)) := by
  unfold execOp
  simp only [List.map_toArray, List.map_cons, List.map_nil, h0, h1, h2, Sem.run_bind, hr, Result.andThen_ok, Sem.run_pure]
 rw [hr']
 exact hk _ _ rfl (heap_alloc_new w _) ((Below.refl _ _).alloc (Nat.le_refl _) _) (by simp)
end
theorem sum_one (w : World) (hG : Laid w) (v : Value) (l : List UInt8) (h : RBs w v [l]) (hl : l.length ≤ 1099511627776) :
  Calls Tryd.prog 14 #[v] w fun e w' => e = .returned (AB (Sha.sum l)) ∧ Ext w w' := by
 have := sum_any w hG v [l] h (by simp; omega) (by simp)
 simpa using this
theorem ls4_al26 {d : Option Tmp} {ty : TypeId} {pos : String} {af : Array Edge} {gd : Option (Nat × Bool)} (σ : Operand → Value) (w : World) : (execOp σ ⟨d, .alloc 26, ty, pos, af, gd⟩).run Tryd.prog w = .ok (.value (PQ w.heap.size 0)) (w.alloc (.cells (Lib.byteCells (List.replicate 32 0)).toArray 26)) := by kernel_rfl
theorem ls4_ty22 : Tryd.prog.underlying 22 = some (.slice 5) := by kernel_rfl
theorem ls4_rows1_75 (ao : Option Addr) (n c : Nat) (w : World) : (Instr.buildSlice 75 1 #[(0, .slice ao n c)]).run Tryd.prog w = .ok (.slice (some ⟨w.heap.size, 0, none⟩) 1 1) (w.alloc (.cells #[.slice ao n c] 22)) := by kernel_rfl
theorem ls4_pl14 : Plain Tryd.prog 14 := fun _ _ => by kernel_rfl
theorem ls4_ty26 : Tryd.prog.underlying 26 = some (.array 32 5) := by kernel_rfl
theorem ls4_pl21 : Plain Tryd.prog 21 := fun _ _ => by kernel_rfl
theorem ls4_ty23 : Tryd.prog.underlying 23 = some (.pointer 55) := by kernel_rfl
theorem ls4_pl23 : Plain Tryd.prog 23 := fun _ _ => by kernel_rfl
theorem ls4_lf2 (f0 : Fn) (a0 c0 : Array Value) (f1 : Fn) (a1 c1 : Array Value) (w : World) : (Instr.buildSlice 90 2 #[(0, .func f0 a0 c0), (1, .func f1 a1 c1)]).run Tryd.prog w = .ok (.slice (some ⟨w.heap.size, 0, none⟩) 2 2) (w.alloc (.cells #[.func f0 a0 c0, .func f1 a1 c1] 56)) := by kernel_rfl
theorem ls4_pl24 : Plain Tryd.prog 24 := fun _ _ => by kernel_rfl
theorem ls4_ty5 : Tryd.prog.underlying 5 = some (.int .u8) := by kernel_rfl
theorem ls4_ty9 : Tryd.prog.underlying 9 = some (.string) := by kernel_rfl
theorem ls4_lf1 (f0 : Fn) (a0 c0 : Array Value) (w : World) : (Instr.buildSlice 90 1 #[(0, .func f0 a0 c0)]).run Tryd.prog w = .ok (.slice (some ⟨w.heap.size, 0, none⟩) 1 1) (w.alloc (.cells #[.func f0 a0 c0] 56)) := by kernel_rfl
theorem ls4_eg26 : Tryd.prog.eqGuardType Tryd.prog.depth 26 = false := by kernel_rfl
theorem ls4_sz5 : ∀ w' : World, (sizeOf 5).run Tryd.prog w' = .ok 1 w' := fun _ => by kernel_rfl
theorem ls4_lf3 (f0 : Fn) (a0 c0 : Array Value) (f1 : Fn) (a1 c1 : Array Value) (f2 : Fn) (a2 c2 : Array Value) (w : World) : (Instr.buildSlice 90 3 #[(0, .func f0 a0 c0), (1, .func f1 a1 c1), (2, .func f2 a2 c2)]).run Tryd.prog w = .ok (.slice (some ⟨w.heap.size, 0, none⟩) 3 3) (w.alloc (.cells #[.func f0 a0 c0, .func f1 a1 c1, .func f2 a2 c2] 56)) := by kernel_rfl
set_option maxHeartbeats 1600000
theorem put_at (wb w : World) (g : Nat) (H : Dk) (D : Dsk) (hD : DkG wb w g H D) (hG : Laid wb) (vb : Value) (b : List UInt8) (hr : RB w vb b) (hoff : b = [] ∨ ∀ i, vb.ownBlock = some i → ¬ Foot H D.files.length i) (hbl : b.length ≤ 300) (n : Nat) (hB : DBd n D) (hn : n ≤ 99000) :
  Calls Tryd.prog 7 #[PQ g 0, vb] w fun e w' => ∃ H' vo, e = .returned (.tuple #[AB ((putL D b).2.1), vo, NI (putL D b).2.2.2]) ∧ RB w' vo (putL D b).2.2.1 ∧ DkW wb w g H D w' H' (putL D b).1 := by
 refine calls_of_wpF (args := [PQ g 0, vb]) Tryd.func7 rfl 70 rfl (Nat.le_of_ble_eq_true rfl) ?_
 intro ρ0 hb
 have T0 : ρ0 0 = (PQ g 0 : Value) := hb.get 0
 have T1 : ρ0 1 = (vb : Value) := hb.get 1
 clear hb
 have hE := Ext.refl w
 refine sk fun K1 hK1 => (wt (oS rfl (Yk.box1 T0 rfl fun n2 w3 hn4 hb5 hx6 hs7 => ?_)))
 have hE := hE.trans hx6
 have hb8 := hb5; clear hb5
 have hl9 : n2 < w3.heap.size := by omega
 refine oS rfl (Yk.box1 T1 (RB.one (hr.keep hE)).1 fun n10 w11 hn12 hb13 hx14 hs15 => ?_)
 have hA16 := Ext.refl w3
 have hea17 := hE
 have hz18 := hE.size
 have hlt19 := lte (bl hb8) hn12
 have hE := hE.trans hx14
 have hb8 := eb hx14 hb8
 have hA16 := hA16.trans hx14
 have hb20 := hb13; clear hb13
 have hl21 : n10 < w11.heap.size := by omega
 refine oS rfl (Yk.alloc (cs := (Lib.byteCells (List.replicate 32 0)).toArray) ls4_al26 fun n22 w23 hn24 hb25 hx26 hs27 => ?_)
 have hA28 := Ext.refl w11
 have hea29 := hE
 have hea30 := hA16
 have hz31 := hE.size
 have hz32 := hA16.size
 have hlt33 := lte (bl hb8) hn24
 have hlt34 := lte (bl hb20) hn24
 have hE := hE.trans hx26
 have hb8 := eb hx26 hb8
 have hA16 := hA16.trans hx26
 have hb20 := eb hx26 hb20
 have hA28 := hA28.trans hx26
 have hb35 := hb25; clear hb25
 have hl36 : n22 < w23.heap.size := by omega
 refine oA rfl (oA rfl (oZ ?_))
 have hW : DkW wb w g H D w23 H D := DkW.ofExt hD hE
 have hwb := hD.ext.size
 have hrl := read_len (hB.lt (by omega)) (nmO (Sha.sum b))
 refine tN (hK1 _ _ (sk fun K37 hK37 => (sk fun K38 hK38 => (wt (oS rfl (Yk.cell1 ls4_ty22 rfl (vr (PQ n10 0) rfl) (cellAt hb20 (show _ = some (vb : Value) from rfl)) (oS rfl (Yk.lenRB ls4_ty22 (RB.of (hr.keep hE) (vr vb rfl)) (oS rfl (Yk.eqI (a := (b.length : Nat)) (b := (262144 : Nat)) rfl rfl (k_gtr _ _ _ _) (oZ (tN (hK38 _ _ (wpF_false (vr (.bool (false)) (congrArg Value.bool (decide_eq_false (by omega)))) (wpF_skip (tN (hK37 _ _ (sk fun K39 hK39 => (wt (oS rfl (Yk.cell1 ls4_ty22 rfl (vr (PQ n10 0) rfl) (cellAt hb20 (show _ = some (vb : Value) from rfl)) (oS rfl (Yk.rows1 ls4_rows1_75 (RB.of (hr.keep hE) (vr vb rfl)) fun v40 w41 hr42 hx43 => ?_)))))))))))))))))))))))
 have hE := hE.trans hx43
 have hb8 := eb hx43 hb8
 have hA16 := hA16.trans hx43
 have hb20 := eb hx43 hb20
 have hA28 := hA28.trans hx43
 have hb35 := eb hx43 hb35
 have hW : DkW wb w g H (D) w41 H (D) := (hW.keep hx43)
 refine oS rfl (Yk.callA1 ls4_pl14 (vr v40 rfl) ((sum_one _ (hG.keep (hW).g.ext) v40 b hr42 (by omega)).mono ?_))
 rintro e w45 ⟨rfl, hx44⟩
 refine ⟨_, rfl, ?_⟩
 have hE := hE.trans hx44
 have hb8 := eb hx44 hb8
 have hA16 := hA16.trans hx44
 have hb20 := eb hx44 hb20
 have hA28 := hA28.trans hx44
 have hb35 := eb hx44 hb35
 have hW : DkW wb w g H (D) w45 H (D) := (hW.keep hx44)
 have hr42 := hr42.keep hx44
 refine oS rfl (Yk.storeAll (vr (PQ n22 0) rfl) (vr (AB (Sha.sum b)) rfl) hb35 (by exact idsize (Sha.sum_length _) List.length_replicate) (by exact sizeId_of (Sha.sum_length _)) (byteCells_one _) fun w46 hb47 hg48 hs49 => ?_)
 have hE := row_fresh hE hg48 (Nat.le_trans hz31 (by omega))
 have hb8 := kb hg48 hb8 (by omega)
 have hA16 := row_fresh hA16 hg48 (Nat.le_trans hz32 (by omega))
 have hb20 := kb hg48 hb20 (by omega)
 have hA28 := row_fresh hA28 hg48 (Nat.le_trans (Nat.le_refl _) (by omega))
 have hW : DkW wb w g H (D) w46 H (D) := DkW.setT hW hg48 hb35 (by omega) (by decide) (by decide) (by decide) (by decide) (by decide) (by decide) hwb
 clear hr42
 clear hb35
 have hb35 := hb47; clear hb47
 have hl50 := bl hb35
 refine oZ (tN (hK39 _ _ (sk fun K51 hK51 => (wt (oS rfl (Yk.loadAll (vr (PQ n22 0) rfl) hb35 ls4_ty26 rfl (by exact sizeId_of (Sha.sum_length _)) (oS rfl (Yk.callA1 ls4_pl21 (vr (AB (Sha.sum b)) rfl) ((name_any _ (Sha.sum b) (Sha.sum_length _)).mono ?_)))))))))
 rintro e w53 ⟨rfl, hx52⟩
 refine ⟨_, rfl, ?_⟩
 have hE := hE.trans hx52
 have hb8 := eb hx52 hb8
 have hA16 := hA16.trans hx52
 have hb20 := eb hx52 hb20
 have hA28 := hA28.trans hx52
 have hW : DkW wb w g H (D) w53 H (D) := (hW.keep hx52)
 have hb35 := eb hx52 hb35
 refine oA rfl (oZ (tN (hK51 _ _ (sk fun K54 hK54 => (wt (oS rfl (Yk.mkFunc (vs := #[PQ n2 0, PQ n10 0]) (by simp only [List.map_toArray, List.map_cons, List.map_nil]; exact congrArg List.toArray (list2 (vr (PQ n2 0) rfl) (vr (PQ n10 0) rfl))) (oA rfl (oZ (tN (hK54 _ _ (sk fun K55 hK55 => (wt (oS rfl (Yk.cell1 ls4_ty23 rfl (vr (PQ n2 0) rfl) (cellAt hb8 (show _ = some (PQ g 0 : Value) from rfl)) (oM rfl (oS rfl (Yk.callA2 ls4_pl23 (vr (PQ g 0) rfl) (vr (St ((nmO (Sha.sum b)))) rfl) (((hW).g.read (nmO (Sha.sum b)) (hB.lt (by omega))).mono ?_)))))))))))))))))))
 rintro e w60 ⟨v56, rfl, ho57, hx58⟩
 refine ⟨_, rfl, ?_⟩
 have hap61 : OB v56 n2 := own_older ho57 (bl hb8)
 have hap62 : OB v56 n10 := own_older ho57 (bl hb20)
 have hap63 : OB v56 n22 := own_older ho57 (bl hb35)
 have hE := hE.trans hx58
 have hb8 := eb hx58 hb8
 have hA16 := hA16.trans hx58
 have hb20 := eb hx58 hb20
 have hA28 := hA28.trans hx58
 have hW : DkW wb w g H (D) w60 H (D) := (hW.keep hx58)
 have hb35 := eb hx58 hb35
 have hr59 := RB.ofOwn ho57
 refine oM rfl (oS rfl (Yk.extract (vs := [v56, NI ((readD D (nmO (Sha.sum b))).2)]) (vr (.tuple #[v56, NI ((readD D (nmO (Sha.sum b))).2)]) rfl) (show _ = some (v56 : Value) from rfl) (oS rfl (Yk.extract (vs := [v56, NI ((readD D (nmO (Sha.sum b))).2)]) (vr (.tuple #[v56, NI ((readD D (nmO (Sha.sum b))).2)]) rfl) (show _ = some (NI ((readD D (nmO (Sha.sum b))).2) : Value) from rfl) (oA rfl (oA rfl (oZ (tN (hK55 _ _ (sk fun K64 hK64 => (wpF_block (sk fun K65 hK65 => (wt (oM rfl (oS rfl (Yk.eqI (a := ((readD D (nmO (Sha.sum b))).2 : Nat)) (b := (4 : Nat)) rfl rfl (k_eql _ _ _ _) (oA rfl (oZ (tN (hK65 _ _ ?_))))))))))))))))))))
 refine wpF_cond (((readD D (nmO (Sha.sum b))).2 : Nat) = (4)) (vr (.bool (decide (((readD D (nmO (Sha.sum b))).2 : Nat) = (4)))) rfl) (fun hc1 => ?_) (fun hc1 => ?_)
 ·have hV : putL D b = finL (stepsD D (nmO (Sha.sum b)) [.add b, .sync]) (Sha.sum b) := by unfold putL; rw [if_pos hc1]
  refine wt (oM rfl (oM rfl (oS rfl (Yk.cell1 ls4_ty23 rfl (vr (PQ n2 0) rfl) (cellAt hb8 (show _ = some (PQ g 0 : Value) from rfl)) (oS rfl (Yk.mkFuncB (vr (PQ g 0) rfl) (oS rfl (Yk.litF2 (vr (.func (.func 22) #[] #[PQ n2 0, PQ n10 0]) rfl) (vr (.func (.func 25) #[PQ g 0] #[]) rfl) (fun w => ls4_lf2 _ _ _ _ _ _ w) fun b66 w67 hn68 hb69 hx70 hs71 => ?_))))))))
  have hE := hE.trans hx70
  have hb8 := eb hx70 hb8
  have hA16 := hA16.trans hx70
  have hb20 := eb hx70 hb20
  have hA28 := hA28.trans hx70
  have hW : DkW wb w g H (D) w67 H (D) := (hW.keep hx70)
  have hb35 := eb hx70 hb35
  have hr59 := hr59.keep hx70
  have hWc := hW
  refine oS rfl (Yk.callA2 ls4_pl24 (vr (St ((nmO (Sha.sum b)))) rfl) (vr (.slice (some ⟨b66, 0, none⟩) 2 2) rfl) ((steps_at wb _ g H D hWc.g (nmO (Sha.sum b)) b66 [.func (.func 22) #[] #[PQ n2 0, PQ n10 0], .func (.func 25) #[PQ g 0] #[]] [.add b, .sync] hb69 (stps2 (show StpAt _ _ _ _ _ (.add b) from ⟨n2, n10, vb, rfl, hb8, hb20, (hr.keep hE), hoff, hbl⟩) (show StpAt _ _ _ _ _ (.sync) from rfl)) n hB (by simp; omega) (by simp [hbl])).mono ?_))
  rintro e w74 ⟨H72, rfl, hW73⟩
  refine ⟨_, rfl, ?_⟩
  have hWn := hWc.trans hW73
  have hb8 : w74.heap[n2]? = some (.cells (([PQ g 0] : List Value)).toArray 23 (0, 0)) := DkG.box hWc.g hW73.chg hb8 (by decide) (by decide) (by decide) (by decide)
  have hb20 : w74.heap[n10]? = some (.cells (([vb] : List Value)).toArray 22 (0, 0)) := DkG.box hWc.g hW73.chg hb20 (by decide) (by decide) (by decide) (by decide)
  have hb35 : w74.heap[n22]? = some (.cells (Lib.byteCells (Sha.sum b)).toArray 26 (0, 0)) := DkG.box hWc.g hW73.chg hb35 (by decide) (by decide) (by decide) (by decide)
  clear hE
  clear hA16
  clear hA28
  clear hW
  clear hr59
  clear hb69
  have hW := hWn
  refine oA rfl (oZ (bN (tN (hK64 _ _ (sk fun K75 hK75 => (sk fun K76 hK76 => (wt (oM rfl (oS rfl (Yk.eqI (a := ((stepsD D (nmO (Sha.sum b)) [.add b, .sync]).2 : Nat)) (b := (0 : Nat)) rfl rfl (k_neq _ _ _ _) (oZ (tN (hK76 _ _ ?_)))))))))))))
  refine wpF_cond (((stepsD D (nmO (Sha.sum b)) [.add b, .sync]).2 : Nat) ≠ (0)) (vr (.bool (decide (((stepsD D (nmO (Sha.sum b)) [.add b, .sync]).2 : Nat) ≠ (0)))) rfl) (fun hc5 => ?_) (fun hc5 => ?_)
  ·refine sk fun K77 hK77 => (wt (oS rfl (Yk.run (v := AB (List.replicate 32 0)) (by kernel_rfl) (oM rfl (oS rfl (Yk.storeAll (vr (PQ n22 0) rfl) (vr (AB (List.replicate 32 0)) rfl) hb35 (by exact idsize List.length_replicate (Sha.sum_length _)) (by exact sizeId_of List.length_replicate) (byteCells_one _) fun w78 hb79 hg80 hs81 => ?_))))))
   have hb8 := kb hg80 hb8 (by omega)
   have hb20 := kb hg80 hb20 (by omega)
   have hW : DkW wb w g H (D) w78 H72 ((stepsD D (nmO (Sha.sum b)) [.add b, .sync]).1) := DkW.setT hW hg80 hb35 (by omega) (by decide) (by decide) (by decide) (by decide) (by decide) (by decide) hwb
   clear hb35
   have hb35 := hb79; clear hb79
   have hl82 := bl hb35
   refine oA rfl (oA rfl (oL_ [(0, PQ g 0), (1, vb), (2, PQ n2 0), (3, PQ n10 0), (4, PQ n22 0), (5, (Value.slice none 0 0)), (6, NI ((stepsD D (nmO (Sha.sum b)) [.add b, .sync]).2)), (7, St ((nmO (Sha.sum b)))), (8, .func (.func 22) #[] #[PQ n2 0, PQ n10 0]), (9, v56), (12, .bool (false))] ⟨T0, T1, rfl, rfl, rfl, rfl, rfl, rfl, rfl, rfl, (congrArg Value.bool (decide_eq_false (by omega))), trivial⟩ fun ρ83 ⟨T0, T1, T2, T3, T4, T5, T6, T7, T8, T9, T12, _⟩ => (tN (hK77 _ _ (wpF_ret (thenF_ret (postF_ret (fn := Tryd.f7) _ rfl [AB (List.replicate 32 0), (Value.slice none 0 0), NI ((stepsD D (nmO (Sha.sum b)) [.add b, .sync]).2)] (.tuple #[AB (List.replicate 32 0), (Value.slice none 0 0), NI ((stepsD D (nmO (Sha.sum b)) [.add b, .sync]).2)]) rfl ⟨ResF.row T4 hb35 ls4_ty26 rfl (by exact sizeId_of List.length_replicate), T5, T6, trivial⟩ ?_)))))))
   have hF : finL (stepsD D (nmO (Sha.sum b)) [.add b, .sync]) (Sha.sum b) = ((stepsD D (nmO (Sha.sum b)) [.add b, .sync]).1, zid32, [], (stepsD D (nmO (Sha.sum b)) [.add b, .sync]).2) := if_pos hc5
   exact ⟨H72, _, by rw [hV, hF]; rfl, by rw [hV, hF]; exact RB.nil _, by rw [hV, hF]; exact hW⟩
  refine wpF_skip (tN (hK75 _ _ (sk fun K84 hK84 => (wt (oS rfl (Yk.loadAll (vr (PQ n22 0) rfl) hb35 ls4_ty26 rfl (by exact sizeId_of (Sha.sum_length _)) (oS rfl (Yk.storeAll (vr (PQ n22 0) rfl) (vr (AB (Sha.sum b)) rfl) hb35 (by exact idsize (Sha.sum_length _) (Sha.sum_length _)) (by exact sizeId_of (Sha.sum_length _)) (byteCells_one _) fun w85 hb86 hg87 hs88 => ?_))))))))
  have hb8 := kb hg87 hb8 (by omega)
  have hb20 := kb hg87 hb20 (by omega)
  have hW : DkW wb w g H (D) w85 H72 ((stepsD D (nmO (Sha.sum b)) [.add b, .sync]).1) := DkW.setT hW hg87 hb35 (by omega) (by decide) (by decide) (by decide) (by decide) (by decide) (by decide) hwb
  clear hb35
  have hb35 := hb86; clear hb86
  have hl89 := bl hb35
  refine oA rfl (oA rfl (oZ (tN (hK84 _ _ (wpF_ret (postF_ret (fn := Tryd.f7) _ rfl [AB (Sha.sum b), (Value.slice none 0 0), NI 0] (.tuple #[AB (Sha.sum b), (Value.slice none 0 0), NI 0]) rfl ⟨ResF.row rfl hb35 ls4_ty26 rfl (by exact sizeId_of (Sha.sum_length _)), rfl, rfl, trivial⟩ ?_))))))
  have hF : finL (stepsD D (nmO (Sha.sum b)) [.add b, .sync]) (Sha.sum b) = ((stepsD D (nmO (Sha.sum b)) [.add b, .sync]).1, (Sha.sum b), [], 0) := if_neg hc5
  exact ⟨H72, _, by rw [hV, hF], by rw [hV, hF]; exact RB.nil _, by rw [hV, hF]; exact hW⟩
 refine sk fun K90 hK90 => (wt (oM rfl (oS rfl (Yk.eqI (a := ((readD D (nmO (Sha.sum b))).2 : Nat)) (b := (0 : Nat)) rfl rfl (k_neq _ _ _ _) (oA rfl (oZ (tN (hK90 _ _ ?_))))))))
 refine wpF_cond (((readD D (nmO (Sha.sum b))).2 : Nat) ≠ (0)) (vr (.bool (decide (((readD D (nmO (Sha.sum b))).2 : Nat) ≠ (0)))) rfl) (fun hc2 => ?_) (fun hc2 => ?_)
 ·have hV : putL D b = (D, zid32, [], (readD D (nmO (Sha.sum b))).2) := by unfold putL; rw [if_neg hc1, if_pos hc2]
  refine wpF_skip (bN (tN (hK64 _ _ (sk fun K91 hK91 => (sk fun K92 hK92 => (wt (oM rfl (oS rfl (Yk.eqI (a := ((readD D (nmO (Sha.sum b))).2 : Nat)) (b := (0 : Nat)) rfl rfl (k_neq _ _ _ _) (oZ (tN (hK92 _ _ (wpF_true (vr (.bool (true)) (congrArg Value.bool (decide_eq_true (hc2)))) (sk fun K93 hK93 => (wt (oS rfl (Yk.run (v := AB (List.replicate 32 0)) (by kernel_rfl) (oM rfl (oS rfl (Yk.storeAll (vr (PQ n22 0) rfl) (vr (AB (List.replicate 32 0)) rfl) hb35 (by exact idsize List.length_replicate (Sha.sum_length _)) (by exact sizeId_of List.length_replicate) (byteCells_one _) fun w94 hb95 hg96 hs97 => ?_))))))))))))))))))))
  have hE := row_fresh hE hg96 (Nat.le_trans hz31 (by omega))
  have hb8 := kb hg96 hb8 (by omega)
  have hA16 := row_fresh hA16 hg96 (Nat.le_trans hz32 (by omega))
  have hb20 := kb hg96 hb20 (by omega)
  have hA28 := row_fresh hA28 hg96 (Nat.le_trans (Nat.le_refl _) (by omega))
  have hW : DkW wb w g H (D) w94 H (D) := DkW.setT hW hg96 hb35 (by omega) (by decide) (by decide) (by decide) (by decide) (by decide) (by decide) hwb
  have hr59 := RB.kept hr59 hg96 (.inr hap63)
  clear hb35
  have hb35 := hb95; clear hb95
  have hl98 := bl hb35
  refine oA rfl (oA rfl (oZ (tN (hK93 _ _ (wpF_ret (thenF_ret (postF_ret (fn := Tryd.f7) _ rfl [AB (List.replicate 32 0), (Value.slice none 0 0), NI ((readD D (nmO (Sha.sum b))).2)] (.tuple #[AB (List.replicate 32 0), (Value.slice none 0 0), NI ((readD D (nmO (Sha.sum b))).2)]) rfl ⟨ResF.row rfl hb35 ls4_ty26 rfl (by exact sizeId_of List.length_replicate), rfl, rfl, trivial⟩ ?_)))))))
  exact ⟨H, _, by rw [hV]; rfl, by rw [hV]; exact RB.nil _, by rw [hV]; exact hW⟩
 refine sk fun K99 hK99 => (wt (oM rfl (oS rfl (Yk.convRB ls4_ty22 ls4_ty5 ls4_ty9 (RB.of hr59 (vr v56 rfl)) (oS rfl (Yk.cell1 ls4_ty22 rfl (vr (PQ n10 0) rfl) (cellAt hb20 (show _ = some (vb : Value) from rfl)) (oS rfl (Yk.convRB ls4_ty22 ls4_ty5 ls4_ty9 (RB.of (hr.keep hE) (vr vb rfl)) (oS rfl (Yk.eqSt (l := (readD D (nmO (Sha.sum b))).1) (m := b) (.inl rfl) (vr (St ((readD D (nmO (Sha.sum b))).1)) rfl) (vr (St (b)) rfl) (decide ((readD D (nmO (Sha.sum b))).1 = b)) rfl (oA rfl (oZ (tN (hK99 _ _ ?_))))))))))))))
 refine wpF_cond ((readD D (nmO (Sha.sum b))).1 = b) (vr (.bool (decide ((readD D (nmO (Sha.sum b))).1 = b))) rfl) (fun hc3 => ?_) (fun hc3 => ?_)
 ·have hV : putL D b = finL (stepsD D (nmO (Sha.sum b)) [.sync]) (Sha.sum b) := by unfold putL; rw [if_neg hc1, if_neg hc2, if_pos hc3]
  refine wt (oM rfl (oS rfl (Yk.cell1 ls4_ty23 rfl (vr (PQ n2 0) rfl) (cellAt hb8 (show _ = some (PQ g 0 : Value) from rfl)) (oS rfl (Yk.mkFuncB (vr (PQ g 0) rfl) (oS rfl (Yk.litF1 (vr (.func (.func 25) #[PQ g 0] #[]) rfl) (fun w => ls4_lf1 _ _ _ w) fun b100 w101 hn102 hb103 hx104 hs105 => ?_)))))))
  have hE := hE.trans hx104
  have hb8 := eb hx104 hb8
  have hA16 := hA16.trans hx104
  have hb20 := eb hx104 hb20
  have hA28 := hA28.trans hx104
  have hW : DkW wb w g H (D) w101 H (D) := (hW.keep hx104)
  have hb35 := eb hx104 hb35
  have hr59 := hr59.keep hx104
  have hWc := hW
  refine oS rfl (Yk.callA2 ls4_pl24 (vr (St ((nmO (Sha.sum b)))) rfl) (vr (.slice (some ⟨b100, 0, none⟩) 1 1) rfl) ((steps_at wb _ g H D hWc.g (nmO (Sha.sum b)) b100 [.func (.func 25) #[PQ g 0] #[]] [.sync] hb103 (stps1 (show StpAt _ _ _ _ _ (.sync) from rfl)) n hB (by simp; omega) (by simp [hbl])).mono ?_))
  rintro e w108 ⟨H106, rfl, hW107⟩
  refine ⟨_, rfl, ?_⟩
  have hWn := hWc.trans hW107
  have hb8 : w108.heap[n2]? = some (.cells (([PQ g 0] : List Value)).toArray 23 (0, 0)) := DkG.box hWc.g hW107.chg hb8 (by decide) (by decide) (by decide) (by decide)
  have hb20 : w108.heap[n10]? = some (.cells (([vb] : List Value)).toArray 22 (0, 0)) := DkG.box hWc.g hW107.chg hb20 (by decide) (by decide) (by decide) (by decide)
  have hb35 : w108.heap[n22]? = some (.cells (Lib.byteCells (Sha.sum b)).toArray 26 (0, 0)) := DkG.box hWc.g hW107.chg hb35 (by decide) (by decide) (by decide) (by decide)
  clear hE
  clear hA16
  clear hA28
  clear hW
  clear hr59
  clear hb103
  have hW := hWn
  refine oA rfl (oL_ [(0, PQ g 0), (1, vb), (2, PQ n2 0), (3, PQ n10 0), (4, PQ n22 0), (5, (Value.slice none 0 0)), (6, NI ((stepsD D (nmO (Sha.sum b)) [.sync]).2)), (7, St ((nmO (Sha.sum b)))), (8, .func (.func 22) #[] #[PQ n2 0, PQ n10 0]), (9, v56), (12, .bool (false))] ⟨T0, T1, rfl, rfl, rfl, rfl, rfl, rfl, rfl, rfl, (congrArg Value.bool (decide_eq_false (by omega))), trivial⟩ fun ρ109 ⟨T0, T1, T2, T3, T4, T5, T6, T7, T8, T9, T12, _⟩ => (bN (tN (hK64 _ _ (sk fun K110 hK110 => (sk fun K111 hK111 => (wt (oM rfl (oS rfl (Yk.eqI (a := ((stepsD D (nmO (Sha.sum b)) [.sync]).2 : Nat)) (b := (0 : Nat)) T6 rfl (k_neq _ _ _ _) (oZ (tN (hK111 _ _ ?_)))))))))))))
  refine wpF_cond (((stepsD D (nmO (Sha.sum b)) [.sync]).2 : Nat) ≠ (0)) (vr (.bool (decide (((stepsD D (nmO (Sha.sum b)) [.sync]).2 : Nat) ≠ (0)))) rfl) (fun hc5 => ?_) (fun hc5 => ?_)
  ·refine sk fun K112 hK112 => (wt (oS rfl (Yk.run (v := AB (List.replicate 32 0)) (by kernel_rfl) (oM rfl (oS rfl (Yk.storeAll T4 (vr (AB (List.replicate 32 0)) rfl) hb35 (by exact idsize List.length_replicate (Sha.sum_length _)) (by exact sizeId_of List.length_replicate) (byteCells_one _) fun w113 hb114 hg115 hs116 => ?_))))))
   have hb8 := kb hg115 hb8 (by omega)
   have hb20 := kb hg115 hb20 (by omega)
   have hW : DkW wb w g H (D) w113 H106 ((stepsD D (nmO (Sha.sum b)) [.sync]).1) := DkW.setT hW hg115 hb35 (by omega) (by decide) (by decide) (by decide) (by decide) (by decide) (by decide) hwb
   clear hb35
   have hb35 := hb114; clear hb114
   have hl117 := bl hb35
   refine oA rfl (oA rfl (oZ (tN (hK112 _ _ (wpF_ret (thenF_ret (postF_ret (fn := Tryd.f7) _ rfl [AB (List.replicate 32 0), (Value.slice none 0 0), NI ((stepsD D (nmO (Sha.sum b)) [.sync]).2)] (.tuple #[AB (List.replicate 32 0), (Value.slice none 0 0), NI ((stepsD D (nmO (Sha.sum b)) [.sync]).2)]) rfl ⟨ResF.row T4 hb35 ls4_ty26 rfl (by exact sizeId_of List.length_replicate), rfl, T6, trivial⟩ ?_)))))))
   have hF : finL (stepsD D (nmO (Sha.sum b)) [.sync]) (Sha.sum b) = ((stepsD D (nmO (Sha.sum b)) [.sync]).1, zid32, [], (stepsD D (nmO (Sha.sum b)) [.sync]).2) := if_pos hc5
   exact ⟨H106, _, by rw [hV, hF]; rfl, by rw [hV, hF]; exact RB.nil _, by rw [hV, hF]; exact hW⟩
  refine wpF_skip (tN (hK110 _ _ (sk fun K118 hK118 => (wt (oS rfl (Yk.loadAll T4 hb35 ls4_ty26 rfl (by exact sizeId_of (Sha.sum_length _)) (oS rfl (Yk.storeAll T4 (vr (AB (Sha.sum b)) rfl) hb35 (by exact idsize (Sha.sum_length _) (Sha.sum_length _)) (by exact sizeId_of (Sha.sum_length _)) (byteCells_one _) fun w119 hb120 hg121 hs122 => ?_))))))))
  have hb8 := kb hg121 hb8 (by omega)
  have hb20 := kb hg121 hb20 (by omega)
  have hW : DkW wb w g H (D) w119 H106 ((stepsD D (nmO (Sha.sum b)) [.sync]).1) := DkW.setT hW hg121 hb35 (by omega) (by decide) (by decide) (by decide) (by decide) (by decide) (by decide) hwb
  clear hb35
  have hb35 := hb120; clear hb120
  have hl123 := bl hb35
  refine oA rfl (oA rfl (oZ (tN (hK118 _ _ (wpF_ret (postF_ret (fn := Tryd.f7) _ rfl [AB (Sha.sum b), (Value.slice none 0 0), NI 0] (.tuple #[AB (Sha.sum b), (Value.slice none 0 0), NI 0]) rfl ⟨ResF.row T4 hb35 ls4_ty26 rfl (by exact sizeId_of (Sha.sum_length _)), rfl, rfl, trivial⟩ ?_))))))
  have hF : finL (stepsD D (nmO (Sha.sum b)) [.sync]) (Sha.sum b) = ((stepsD D (nmO (Sha.sum b)) [.sync]).1, (Sha.sum b), [], 0) := if_neg hc5
  exact ⟨H106, _, by rw [hV, hF], by rw [hV, hF]; exact RB.nil _, by rw [hV, hF]; exact hW⟩
 refine sk fun K124 hK124 => ?_
 have hx125 : Ext w60 (World.drew w60) := (Below.refl _ _).drew
 have hE := hE.trans hx125
 have hb8 := eb hx125 hb8
 have hA16 := hA16.trans hx125
 have hb20 := eb hx125 hb20
 have hA28 := hA28.trans hx125
 have hW : DkW wb w g H (D) (World.drew w60) H (D) := (hW.keep hx125)
 have hb35 := eb hx125 hb35
 have hr59 := hr59.keep hx125
 refine wpF_float [(0, 58, v56), (3, 61, AB (Sha.sum b))] [1, 2, 4, 5] (fun wz => Ext w wz ∧ wz.heap[n2]? = some (.cells (([PQ g 0] : List Value)).toArray 23 (0, 0)) ∧ wz.heap[n10]? = some (.cells (([vb] : List Value)).toArray 22 (0, 0)) ∧ wz.heap[n22]? = some (.cells (Lib.byteCells (Sha.sum b)).toArray 26 (0, 0)) ∧ RB wz v56 (readD D (nmO (Sha.sum b))).1 ∧ True) (by kernel_rfl) (by kernel_rfl) (by kernel_rfl) ⟨hE, hb8, hb20, hb35, hr59, trivial⟩ ⟨fun w126 ⟨hE, hb8, hb20, hb35, hr59, _⟩ => Yk.move (vr v56 rfl) ⟨rfl, rfl⟩, fun w126 ⟨hE, hb8, hb20, hb35, hr59, _⟩ => Yk.loadAll (vr (PQ n22 0) rfl) hb35 ls4_ty26 rfl (by exact sizeId_of (Sha.sum_length _)) ⟨rfl, rfl⟩, trivial⟩ (chF_step rfl (Yk.rows1 ls4_rows1_75 (RB.of hr59 (vr v56 rfl)) fun v127 w128 hr129 hx130 => ?_))
 have hE := hE.trans hx130
 have hb8 := eb hx130 hb8
 have hA16 := hA16.trans hx130
 have hb20 := eb hx130 hb20
 have hA28 := hA28.trans hx130
 have hW : DkW wb w g H (D) w128 H (D) := (hW.keep hx130)
 have hb35 := eb hx130 hb35
 have hr59 := hr59.keep hx130
 refine ⟨.inr ⟨hE, hb8, hb20, hb35, hr59, trivial⟩, ?_⟩
 refine chF_step rfl (Yk.callA1 ls4_pl14 (vr v127 rfl) ((sum_one _ (hG.keep (hW).g.ext) v127 ((readD D (nmO (Sha.sum b))).1) hr129 (by omega)).mono ?_))
 rintro e w132 ⟨rfl, hx131⟩
 refine ⟨_, rfl, ?_⟩
 have hE := hE.trans hx131
 have hb8 := eb hx131 hb8
 have hA16 := hA16.trans hx131
 have hb20 := eb hx131 hb20
 have hA28 := hA28.trans hx131
 have hW : DkW wb w g H (D) w132 H (D) := (hW.keep hx131)
 have hb35 := eb hx131 hb35
 have hr59 := hr59.keep hx131
 have hr129 := hr129.keep hx131
 refine ⟨.inr ⟨hE, hb8, hb20, hb35, hr59, trivial⟩, ?_⟩
 refine chF_step rfl (Yk.eqArr (l1 := (Sha.sum ((readD D (nmO (Sha.sum b))).1))) (l2 := (Sha.sum b)) ls4_ty26 ls4_ty5 ls4_sz5 ls4_eg26 (vr (AB (Sha.sum ((readD D (nmO (Sha.sum b))).1))) rfl) (vr (AB (Sha.sum b)) rfl) ((Sha.sum_length _)) ((Sha.sum_length _)) ?_)
 refine ⟨.inr ⟨hE, hb8, hb20, hb35, hr59, trivial⟩, ?_⟩
 refine chF_step rfl (Yk.assign (vr (.bool (decide ((Sha.sum ((readD D (nmO (Sha.sum b))).1)) = (Sha.sum b)))) rfl) ?_)
 refine ⟨.inl rfl, ?_⟩
 refine chF_nil (tN (hK124 _ _ ?_))
 refine wpF_cond ((Sha.sum ((readD D (nmO (Sha.sum b))).1)) = (Sha.sum b)) (vr (.bool (decide ((Sha.sum ((readD D (nmO (Sha.sum b))).1)) = (Sha.sum b)))) rfl) (fun hc4 => ?_) (fun hc4 => ?_)
 ·have hV : putL D b = (D, (Sha.sum b), (readD D (nmO (Sha.sum b))).1, 7) := by unfold putL; rw [if_neg hc1, if_neg hc2, if_neg hc3, if_pos hc4]
  refine sk fun K133 hK133 => (wt (oS rfl (Yk.loadAll (vr (PQ n22 0) rfl) hb35 ls4_ty26 rfl (by exact sizeId_of (Sha.sum_length _)) (oM rfl (oS rfl (Yk.storeAll (vr (PQ n22 0) rfl) (vr (AB (Sha.sum b)) rfl) hb35 (by exact idsize (Sha.sum_length _) (Sha.sum_length _)) (by exact sizeId_of (Sha.sum_length _)) (byteCells_one _) fun w134 hb135 hg136 hs137 => ?_))))))
  have hE := row_fresh hE hg136 (Nat.le_trans hz31 (by omega))
  have hb8 := kb hg136 hb8 (by omega)
  have hA16 := row_fresh hA16 hg136 (Nat.le_trans hz32 (by omega))
  have hb20 := kb hg136 hb20 (by omega)
  have hA28 := row_fresh hA28 hg136 (Nat.le_trans (Nat.le_refl _) (by omega))
  have hW : DkW wb w g H (D) w134 H (D) := DkW.setT hW hg136 hb35 (by omega) (by decide) (by decide) (by decide) (by decide) (by decide) (by decide) hwb
  have hr59 := RB.kept hr59 hg136 (.inr hap63)
  clear hr129
  clear hb35
  have hb35 := hb135; clear hb135
  have hl138 := bl hb35
  refine oA rfl (oA rfl (oL_ [(0, PQ g 0), (1, vb), (2, PQ n2 0), (3, PQ n10 0), (4, PQ n22 0), (5, v56), (6, NI 7), (7, St ((nmO (Sha.sum b)))), (8, .func (.func 22) #[] #[PQ n2 0, PQ n10 0]), (9, v56), (12, .bool (false))] ⟨T0, T1, rfl, rfl, rfl, rfl, rfl, rfl, rfl, rfl, (congrArg Value.bool (decide_eq_false (by omega))), trivial⟩ fun ρ139 ⟨T0, T1, T2, T3, T4, T5, T6, T7, T8, T9, T12, _⟩ => (tN (hK133 _ _ (wpF_ret (inBlockF_ret (thenF_ret (postF_ret (fn := Tryd.f7) _ rfl [AB (Sha.sum b), v56, NI 7] (.tuple #[AB (Sha.sum b), v56, NI 7]) rfl ⟨ResF.row T4 hb35 ls4_ty26 rfl (by exact sizeId_of (Sha.sum_length _)), T5, T6, trivial⟩ ?_))))))))
  exact ⟨H, _, by rw [hV], by rw [hV]; exact hr59, by rw [hV]; exact hW⟩
 have hV : putL D b = finL (stepsD D (nmO (Sha.sum b)) [.rem, .add b, .sync]) (Sha.sum b) := by unfold putL; rw [if_neg hc1, if_neg hc2, if_neg hc3, if_neg hc4]
 refine wt (oM rfl (oS rfl (Yk.cell1 ls4_ty23 rfl (vr (PQ n2 0) rfl) (cellAt hb8 (show _ = some (PQ g 0 : Value) from rfl)) (oS rfl (Yk.mkFuncB (vr (PQ g 0) rfl) (oM rfl (oS rfl (Yk.cell1 ls4_ty23 rfl (vr (PQ n2 0) rfl) (cellAt hb8 (show _ = some (PQ g 0 : Value) from rfl)) (oS rfl (Yk.mkFuncB (vr (PQ g 0) rfl) (oS rfl (Yk.litF3 (vr (.func (.func 26) #[PQ g 0] #[]) rfl) (vr (.func (.func 22) #[] #[PQ n2 0, PQ n10 0]) rfl) (vr (.func (.func 25) #[PQ g 0] #[]) rfl) (fun w => ls4_lf3 _ _ _ _ _ _ _ _ _ w) fun b140 w141 hn142 hb143 hx144 hs145 => ?_))))))))))))
 have hE := hE.trans hx144
 have hb8 := eb hx144 hb8
 have hA16 := hA16.trans hx144
 have hb20 := eb hx144 hb20
 have hA28 := hA28.trans hx144
 have hW : DkW wb w g H (D) w141 H (D) := (hW.keep hx144)
 have hb35 := eb hx144 hb35
 have hr59 := hr59.keep hx144
 have hr129 := hr129.keep hx144
 have hWc := hW
 refine oS rfl (Yk.callA2 ls4_pl24 (vr (St ((nmO (Sha.sum b)))) rfl) (vr (.slice (some ⟨b140, 0, none⟩) 3 3) rfl) ((steps_at wb _ g H D hWc.g (nmO (Sha.sum b)) b140 [.func (.func 26) #[PQ g 0] #[], .func (.func 22) #[] #[PQ n2 0, PQ n10 0], .func (.func 25) #[PQ g 0] #[]] [.rem, .add b, .sync] hb143 (stps3 (show StpAt _ _ _ _ _ (.rem) from rfl) (show StpAt _ _ _ _ _ (.add b) from ⟨n2, n10, vb, rfl, hb8, hb20, (hr.keep hE), hoff, hbl⟩) (show StpAt _ _ _ _ _ (.sync) from rfl)) n hB (by simp; omega) (by simp [hbl])).mono ?_))
 rintro e w148 ⟨H146, rfl, hW147⟩
 refine ⟨_, rfl, ?_⟩
 have hWn := hWc.trans hW147
 have hb8 : w148.heap[n2]? = some (.cells (([PQ g 0] : List Value)).toArray 23 (0, 0)) := DkG.box hWc.g hW147.chg hb8 (by decide) (by decide) (by decide) (by decide)
 have hb20 : w148.heap[n10]? = some (.cells (([vb] : List Value)).toArray 22 (0, 0)) := DkG.box hWc.g hW147.chg hb20 (by decide) (by decide) (by decide) (by decide)
 have hb35 : w148.heap[n22]? = some (.cells (Lib.byteCells (Sha.sum b)).toArray 26 (0, 0)) := DkG.box hWc.g hW147.chg hb35 (by decide) (by decide) (by decide) (by decide)
 clear hE
 clear hA16
 clear hA28
 clear hW
 clear hr59
 clear hr129
 clear hb143
 have hW := hWn
 refine oA rfl (oL_ [(0, PQ g 0), (1, vb), (2, PQ n2 0), (3, PQ n10 0), (4, PQ n22 0), (5, (Value.slice none 0 0)), (6, NI ((stepsD D (nmO (Sha.sum b)) [.rem, .add b, .sync]).2)), (7, St ((nmO (Sha.sum b)))), (8, .func (.func 22) #[] #[PQ n2 0, PQ n10 0]), (9, v56), (12, .bool (false))] ⟨T0, T1, rfl, rfl, rfl, rfl, rfl, rfl, rfl, rfl, (congrArg Value.bool (decide_eq_false (by omega))), trivial⟩ fun ρ149 ⟨T0, T1, T2, T3, T4, T5, T6, T7, T8, T9, T12, _⟩ => (bN (tN (hK64 _ _ (sk fun K150 hK150 => (sk fun K151 hK151 => (wt (oM rfl (oS rfl (Yk.eqI (a := ((stepsD D (nmO (Sha.sum b)) [.rem, .add b, .sync]).2 : Nat)) (b := (0 : Nat)) T6 rfl (k_neq _ _ _ _) (oZ (tN (hK151 _ _ ?_)))))))))))))
 refine wpF_cond (((stepsD D (nmO (Sha.sum b)) [.rem, .add b, .sync]).2 : Nat) ≠ (0)) (vr (.bool (decide (((stepsD D (nmO (Sha.sum b)) [.rem, .add b, .sync]).2 : Nat) ≠ (0)))) rfl) (fun hc5 => ?_) (fun hc5 => ?_)
 ·refine sk fun K152 hK152 => (wt (oS rfl (Yk.run (v := AB (List.replicate 32 0)) (by kernel_rfl) (oM rfl (oS rfl (Yk.storeAll T4 (vr (AB (List.replicate 32 0)) rfl) hb35 (by exact idsize List.length_replicate (Sha.sum_length _)) (by exact sizeId_of List.length_replicate) (byteCells_one _) fun w153 hb154 hg155 hs156 => ?_))))))
  have hb8 := kb hg155 hb8 (by omega)
  have hb20 := kb hg155 hb20 (by omega)
  have hW : DkW wb w g H (D) w153 H146 ((stepsD D (nmO (Sha.sum b)) [.rem, .add b, .sync]).1) := DkW.setT hW hg155 hb35 (by omega) (by decide) (by decide) (by decide) (by decide) (by decide) (by decide) hwb
  clear hb35
  have hb35 := hb154; clear hb154
  have hl157 := bl hb35
  refine oA rfl (oA rfl (oZ (tN (hK152 _ _ (wpF_ret (thenF_ret (postF_ret (fn := Tryd.f7) _ rfl [AB (List.replicate 32 0), (Value.slice none 0 0), NI ((stepsD D (nmO (Sha.sum b)) [.rem, .add b, .sync]).2)] (.tuple #[AB (List.replicate 32 0), (Value.slice none 0 0), NI ((stepsD D (nmO (Sha.sum b)) [.rem, .add b, .sync]).2)]) rfl ⟨ResF.row T4 hb35 ls4_ty26 rfl (by exact sizeId_of List.length_replicate), rfl, T6, trivial⟩ ?_)))))))
  have hF : finL (stepsD D (nmO (Sha.sum b)) [.rem, .add b, .sync]) (Sha.sum b) = ((stepsD D (nmO (Sha.sum b)) [.rem, .add b, .sync]).1, zid32, [], (stepsD D (nmO (Sha.sum b)) [.rem, .add b, .sync]).2) := if_pos hc5
  exact ⟨H146, _, by rw [hV, hF]; rfl, by rw [hV, hF]; exact RB.nil _, by rw [hV, hF]; exact hW⟩
 refine wpF_skip (tN (hK150 _ _ (sk fun K158 hK158 => (wt (oS rfl (Yk.loadAll T4 hb35 ls4_ty26 rfl (by exact sizeId_of (Sha.sum_length _)) (oS rfl (Yk.storeAll T4 (vr (AB (Sha.sum b)) rfl) hb35 (by exact idsize (Sha.sum_length _) (Sha.sum_length _)) (by exact sizeId_of (Sha.sum_length _)) (byteCells_one _) fun w159 hb160 hg161 hs162 => ?_))))))))
 have hb8 := kb hg161 hb8 (by omega)
 have hb20 := kb hg161 hb20 (by omega)
 have hW : DkW wb w g H (D) w159 H146 ((stepsD D (nmO (Sha.sum b)) [.rem, .add b, .sync]).1) := DkW.setT hW hg161 hb35 (by omega) (by decide) (by decide) (by decide) (by decide) (by decide) (by decide) hwb
 clear hb35
 have hb35 := hb160; clear hb160
 have hl163 := bl hb35
 refine oA rfl (oA rfl (oZ (tN (hK158 _ _ (wpF_ret (postF_ret (fn := Tryd.f7) _ rfl [AB (Sha.sum b), (Value.slice none 0 0), NI 0] (.tuple #[AB (Sha.sum b), (Value.slice none 0 0), NI 0]) rfl ⟨ResF.row T4 hb35 ls4_ty26 rfl (by exact sizeId_of (Sha.sum_length _)), rfl, rfl, trivial⟩ ?_))))))
 have hF : finL (stepsD D (nmO (Sha.sum b)) [.rem, .add b, .sync]) (Sha.sum b) = ((stepsD D (nmO (Sha.sum b)) [.rem, .add b, .sync]).1, (Sha.sum b), [], 0) := if_neg hc5
 exact ⟨H146, _, by rw [hV, hF], by rw [hV, hF]; exact RB.nil _, by rw [hV, hF]; exact hW⟩
open Go.RowKit
set_option maxRecDepth 100000
set_option linter.unusedVariables false
set_option linter.unusedSimpArgs false
theorem ls5_ty26 : Tryd.prog.underlying 26 = some (.array 32 5) := by kernel_rfl
theorem ls5_pl21 : Plain Tryd.prog 21 := fun _ _ => by kernel_rfl
theorem ls5_pl23 : Plain Tryd.prog 23 := fun _ _ => by kernel_rfl
theorem ls5_rows1_75 (ao : Option Addr) (n c : Nat) (w : World) : (Instr.buildSlice 75 1 #[(0, .slice ao n c)]).run Tryd.prog w = .ok (.slice (some ⟨w.heap.size, 0, none⟩) 1 1) (w.alloc (.cells #[.slice ao n c] 22)) := by kernel_rfl
theorem ls5_pl14 : Plain Tryd.prog 14 := fun _ _ => by kernel_rfl
theorem ls5_eg26 : Tryd.prog.eqGuardType Tryd.prog.depth 26 = false := by kernel_rfl
theorem ls5_ty5 : Tryd.prog.underlying 5 = some (.int .u8) := by kernel_rfl
theorem ls5_sz5 : ∀ w' : World, (sizeOf 5).run Tryd.prog w' = .ok 1 w' := fun _ => by kernel_rfl
theorem ls5_pl16 : Plain Tryd.prog 16 := fun _ _ => by kernel_rfl
theorem ls5_pl26 : Plain Tryd.prog 26 := fun _ _ => by kernel_rfl
set_option maxHeartbeats 1600000
theorem get_at (wb w : World) (g : Nat) (H : Dk) (D : Dsk) (hD : DkG wb w g H D) (hG : Laid wb) (hL : DLt D) (id : List UInt8) (hid : id.length = 32) :
  Calls Tryd.prog 16 #[PQ g 0, AB id] w fun e w' => ∃ v, e = .returned (.tuple #[v, NI (getL D id).2]) ∧ RB w' v (getL D id).1 ∧ Ext w w' := by
 refine calls_of_wpF (args := [PQ g 0, AB id]) Tryd.func16 rfl 30 rfl (Nat.le_of_ble_eq_true rfl) ?_
 intro ρ0 hb
 have T0 : ρ0 0 = (PQ g 0 : Value) := hb.get 0
 have T1 : ρ0 1 = (AB id : Value) := hb.get 1
 clear hb
 have hE := Ext.refl w
 refine sk fun K1 hK1 => (wt (oS rfl (Yk.box (cs := (Lib.byteCells id : List Value).toArray) T1 fun n2 w3 hn4 hb5 hx6 hs7 => ?_)))
 have hE := hE.trans hx6
 have hb8 := hb5; clear hb5
 have hl9 : n2 < w3.heap.size := by omega
 refine oA rfl (oA rfl (oZ (tN (hK1 _ _ (sk fun K10 hK10 => (wt (oM rfl (oS rfl (Yk.loadAll (vr (PQ n2 0) rfl) hb8 ls5_ty26 rfl (by exact sizeId_of hid) (oS rfl (Yk.callA1 ls5_pl21 (vr (AB id) rfl) ((name_any _ id hid).mono ?_))))))))))))
 rintro e w12 ⟨rfl, hx11⟩
 refine ⟨_, rfl, ?_⟩
 have hE := hE.trans hx11
 have hb8 := eb hx11 hb8
 refine oS rfl (Yk.callA2 ls5_pl23 T0 (vr (St ((nmO id))) rfl) (((hD.keep hE).read (nmO id) hL).mono ?_))
 rintro e w17 ⟨v13, rfl, ho14, hx15⟩
 refine ⟨_, rfl, ?_⟩
 have hE := hE.trans hx15
 have hb8 := eb hx15 hb8
 have hr16 := RB.ofOwn ho14
 refine oM rfl (oS rfl (Yk.extract (vs := [v13, NI ((readD D (nmO id)).2)]) (vr (.tuple #[v13, NI ((readD D (nmO id)).2)]) rfl) (show _ = some (v13 : Value) from rfl) (oS rfl (Yk.extract (vs := [v13, NI ((readD D (nmO id)).2)]) (vr (.tuple #[v13, NI ((readD D (nmO id)).2)]) rfl) (show _ = some (NI ((readD D (nmO id)).2) : Value) from rfl) (oA rfl (oA rfl (oZ ?_)))))))
 have hrl := read_len hL (nmO id)
 by_cases h4 : (readD D (nmO id)).2 = 4
 ·refine tN (hK10 _ _ (sk fun K18 hK18 => (sk fun K19 hK19 => ?_)))
  refine wpF_draw [Is (NI ((readD D (nmO id)).2)), Is (.bool (true)), Is (.bool (true)), Is undef, Is undef, Is undef, Is undef, Is undef, Is undef, Is undef, Is undef, Is undef, Is (.bool (true))] (by kernel_rfl) [15, 16, 17, 18, 19, 20, 21, 22, 23, 24, 25, 26, 27] (by kernel_rfl) (by kernel_rfl) ⟨Stab.is _, (si12 trivial)⟩ ?hs1002 ?hQ1002
  case hs1002 =>
   refine ⟨?_, ?_, ?_, ?_, ?_, ?_, ?_, ?_, ?_, ?_, ?_, ?_, ?_, trivial⟩
   ·refine stepN rfl fun σ w1 hC h => ?_
    have e7 : σ 7 = NI ((readD D (nmO id)).2) := (eqo (h 7 (by decide))).trans rfl
    exact Yk.move e7 ⟨Ext.refl _, rfl⟩
   ·refine stepN rfl fun σ w1 hC h => ?_
    have e15 := eqo (h 15 (by decide))
    exact Yk.eqI (a := ((readD D (nmO id)).2 : Nat)) (b := (4 : Nat)) e15 rfl (k_eql _ _ _ _) ⟨Ext.refl _, (congrArg Value.bool (decide_eq_true (h4)))⟩
   ·refine stepN rfl fun σ w1 hC h => ?_
    have e16 := eqo (h 16 (by decide))
    exact Yk.move e16 ⟨Ext.refl _, rfl⟩
   ·refine stepX 2 false 17 rfl rfl (fun x _ (h : x = .bool true) => by rw [h]; intro h; cases h) fun _ => rfl
   ·refine stepX 2 false 17 rfl rfl (fun x _ (h : x = .bool true) => by rw [h]; intro h; cases h) fun _ => rfl
   ·refine stepX 2 false 17 rfl rfl (fun x _ (h : x = .bool true) => by rw [h]; intro h; cases h) fun _ => rfl
   ·refine stepX 5 true 20 rfl rfl (fun x _ (h : x = undef) => by rw [h]; intro h; cases h) fun _ => rfl
   ·refine stepX 5 true 20 rfl rfl (fun x _ (h : x = undef) => by rw [h]; intro h; cases h) fun _ => rfl
   ·refine stepX 5 true 20 rfl rfl (fun x _ (h : x = undef) => by rw [h]; intro h; cases h) fun _ => rfl
   ·refine stepX 5 true 20 rfl rfl (fun x _ (h : x = undef) => by rw [h]; intro h; cases h) fun _ => rfl
   ·refine stepX 5 true 20 rfl rfl (fun x _ (h : x = undef) => by rw [h]; intro h; cases h) fun _ => rfl
   ·refine stepX 2 false 17 rfl rfl (fun x _ (h : x = .bool true) => by rw [h]; intro h; cases h) fun _ => rfl
   ·refine stepN rfl fun σ w1 hC h => ?_
    have e17 := eqo (h 17 (by decide))
    exact Yk.pickT e17 (vr (.bool (true)) rfl) ⟨Ext.refl _, rfl⟩
  intro ρ20 w21 hx22 he hf
  obtain ⟨-, -, -, -, -, -, -, -, -, -, -, -, k27, -⟩ := hf
  obtain ⟨T0, T1, T3, T4, T5, T6, T7, -⟩ := he.hold [(0, _), (1, _), (3, PQ n2 0), (4, (Value.slice none 0 0)), (5, NI 0), (6, v13), (7, NI ((readD D (nmO id)).2))] ⟨T0, T1, rfl, rfl, rfl, rfl, rfl, trivial⟩ rfl
  clear he
  have hE := hE.trans hx22
  have hb8 := eb hx22 hb8
  have hr16 := hr16.keep hx22
  have T27 : ρ20 27 = .bool (true) := k27
  clear k27
  refine tN (hK19 _ _ (wpF_true T27 (sk fun K23 hK23 => (wt (oA rfl (oA rfl (oZ (tN (hK23 _ _ (wpF_ret (thenF_ret (postF_ret (fn := Tryd.f16) _ rfl [(Value.slice none 0 0), NI 12] (.tuple #[(Value.slice none 0 0), NI 12]) rfl ⟨rfl, rfl, trivial⟩ ?_))))))))))))
  have hV : getL D id = ([], 12) := if_pos (.inl h4)
  exact ⟨_, by rw [hV], by rw [hV]; exact RB.nil _, hE⟩
 by_cases h0 : (readD D (nmO id)).2 = 0
 ·refine tN (hK10 _ _ (sk fun K24 hK24 => (sk fun K25 hK25 => ?_)))
  refine wpF_draw [Is (NI ((readD D (nmO id)).2)), Is (.bool (false)), Is (.bool (false)), Is (NI ((readD D (nmO id)).2)), Is (.bool (true)), Is (.bool (true)), Is (v13), fun x w' => RBs w' x [(readD D (nmO id)).1], Is (AB (Sha.sum ((readD D (nmO id)).1))), Is (AB id), Is (.bool (decide ((Sha.sum ((readD D (nmO id)).1)) ≠ id))), Is (.bool (decide ((Sha.sum ((readD D (nmO id)).1)) ≠ id))), Is (.bool (decide ((Sha.sum ((readD D (nmO id)).1)) ≠ id)))] (by kernel_rfl) [15, 16, 17, 18, 19, 20, 21, 22, 23, 24, 25, 26, 27] (by kernel_rfl) (by kernel_rfl) (si7 ⟨(fun _ _ _ h k => RBs.keep h k), (si5 trivial)⟩) ?hs2002 ?hQ2002
  case hs2002 =>
   refine ⟨?_, ?_, ?_, ?_, ?_, ?_, ?_, ?_, ?_, ?_, ?_, ?_, ?_, trivial⟩
   ·refine stepN rfl fun σ w1 hC h => ?_
    have e7 : σ 7 = NI ((readD D (nmO id)).2) := (eqo (h 7 (by decide))).trans rfl
    exact Yk.move e7 ⟨Ext.refl _, rfl⟩
   ·refine stepN rfl fun σ w1 hC h => ?_
    have e15 := eqo (h 15 (by decide))
    exact Yk.eqI (a := ((readD D (nmO id)).2 : Nat)) (b := (4 : Nat)) e15 rfl (k_eql _ _ _ _) ⟨Ext.refl _, (congrArg Value.bool (decide_eq_false (h4)))⟩
   ·refine stepN rfl fun σ w1 hC h => ?_
    have e16 := eqo (h 16 (by decide))
    exact Yk.move e16 ⟨Ext.refl _, rfl⟩
   ·refine stepY 2 false 17 rfl rfl (fun _ _ h => h) fun σ w1 hC h => ?_
    have e7 : σ 7 = NI ((readD D (nmO id)).2) := (eqo (h 7 (by decide))).trans rfl
    exact Yk.move e7 ⟨Ext.refl _, rfl⟩
   ·refine stepY 2 false 17 rfl rfl (fun _ _ h => h) fun σ w1 hC h => ?_
    have e18 := eqo (h 18 (by decide))
    exact Yk.eqI (a := ((readD D (nmO id)).2 : Nat)) (b := (0 : Nat)) e18 rfl (k_eql _ _ _ _) ⟨Ext.refl _, (congrArg Value.bool (decide_eq_true (h0)))⟩
   ·refine stepY 2 false 17 rfl rfl (fun _ _ h => h) fun σ w1 hC h => ?_
    have e19 := eqo (h 19 (by decide))
    exact Yk.move e19 ⟨Ext.refl _, rfl⟩
   ·refine stepY 5 true 20 rfl rfl (fun _ _ h => h) fun σ w1 hC h => ?_
    have e6 : σ 6 = v13 := (eqo (h 6 (by decide))).trans rfl
    exact Yk.move e6 ⟨Ext.refl _, rfl⟩
   ·refine stepY 5 true 20 rfl rfl (fun _ _ h => h) fun σ w1 hC h => ?_
    have e21 := eqo (h 21 (by decide))
    exact Yk.rows1 ls5_rows1_75 (RB.of (hr16.keep hC) e21) fun v w2 h hx => ⟨hx, h⟩
   ·refine stepY 5 true 20 rfl rfl (fun _ _ h => h) fun σ w1 hC h => ?_
    have e22 : (fun x w' => RBs w' x [(readD D (nmO id)).1]) (σ 22) w1 := h 22 (by decide)
    refine Yk.callA1 ls5_pl14 rfl ((sum_one _ (hG.keep ((hD.keep (hE.trans hC))).ext) _ ((readD D (nmO id)).1) e22 (by omega)).mono ?_)
    rintro e w2 ⟨rfl, hx⟩
    exact ⟨_, rfl, hx, rfl⟩
   ·refine stepY 5 true 20 rfl rfl (fun _ _ h => h) fun σ w1 hC h => ?_
    have e3 : σ 3 = PQ n2 0 := (eqo (h 3 (by decide))).trans rfl
    exact Yk.loadAll e3 (eb hC hb8) ls5_ty26 rfl (by exact sizeId_of hid) ⟨Ext.refl _, rfl⟩
   ·refine stepY 5 true 20 rfl rfl (fun _ _ h => h) fun σ w1 hC h => ?_
    have e23 := eqo (h 23 (by decide))
    have e24 := eqo (h 24 (by decide))
    exact Yk.neArr (l1 := (Sha.sum ((readD D (nmO id)).1))) (l2 := id) ls5_ty26 ls5_ty5 ls5_sz5 ls5_eg26 e23 e24 ((Sha.sum_length _)) (hid) ⟨Ext.refl _, rfl⟩
   ·refine stepY 2 false 17 rfl rfl (fun _ _ h => h) fun σ w1 hC h => ?_
    have e20 := eqo (h 20 (by decide))
    have e25 := eqo (h 25 (by decide))
    exact Yk.pickT e20 e25 ⟨Ext.refl _, rfl⟩
   ·refine stepN rfl fun σ w1 hC h => ?_
    have e17 := eqo (h 17 (by decide))
    have e26 := eqo (h 26 (by decide))
    exact Yk.pickF e17 e26 ⟨Ext.refl _, rfl⟩
  intro ρ26 w27 hx28 he hf
  obtain ⟨-, -, -, -, -, -, -, -, -, -, -, -, k27, -⟩ := hf
  obtain ⟨T0, T1, T3, T4, T5, T6, T7, -⟩ := he.hold [(0, _), (1, _), (3, PQ n2 0), (4, (Value.slice none 0 0)), (5, NI 0), (6, v13), (7, NI ((readD D (nmO id)).2))] ⟨T0, T1, rfl, rfl, rfl, rfl, rfl, trivial⟩ rfl
  clear he
  have hE := hE.trans hx28
  have hb8 := eb hx28 hb8
  have hr16 := hr16.keep hx28
  have T27 : ρ26 27 = .bool (decide ((Sha.sum ((readD D (nmO id)).1)) ≠ id)) := k27
  clear k27
  refine tN (hK25 _ _ ?_)
  refine wpF_cond ((Sha.sum ((readD D (nmO id)).1)) ≠ id) T27 (fun hc0 => ?_) (fun hc0 => ?_)
  ·refine sk fun K29 hK29 => (wt (oA rfl (oA rfl (oZ (tN (hK29 _ _ (wpF_ret (thenF_ret (postF_ret (fn := Tryd.f16) _ rfl [(Value.slice none 0 0), NI 12] (.tuple #[(Value.slice none 0 0), NI 12]) rfl ⟨rfl, rfl, trivial⟩ ?_)))))))))
   have hV : getL D id = ([], 12) := if_pos (.inr ⟨h0, hc0⟩)
   exact ⟨_, by rw [hV], by rw [hV]; exact RB.nil _, hE⟩
  refine wpF_skip (tN (hK24 _ _ (sk fun K30 hK30 => (wt (oM rfl (oM rfl (oA rfl (oA rfl (oZ (tN (hK30 _ _ (wpF_ret (postF_ret (fn := Tryd.f16) _ rfl [v13, NI ((readD D (nmO id)).2)] (.tuple #[v13, NI ((readD D (nmO id)).2)]) rfl ⟨T6, T7, trivial⟩ ?_)))))))))))))
  have hV : getL D id = (readD D (nmO id)) := if_neg (fun q => q.elim h4 fun q => hc0 q.2)
  exact ⟨_, by rw [hV], by rw [hV]; exact hr16, hE⟩
 refine tN (hK10 _ _ (sk fun K31 hK31 => (sk fun K32 hK32 => ?_)))
 refine wpF_draw [Is (NI ((readD D (nmO id)).2)), Is (.bool (false)), Is (.bool (false)), Is (NI ((readD D (nmO id)).2)), Is (.bool (false)), Is (.bool (false)), Is undef, Is undef, Is undef, Is undef, Is undef, Is (.bool (false)), Is (.bool (false))] (by kernel_rfl) [15, 16, 17, 18, 19, 20, 21, 22, 23, 24, 25, 26, 27] (by kernel_rfl) (by kernel_rfl) ⟨Stab.is _, (si12 trivial)⟩ ?hs3002 ?hQ3002
 case hs3002 =>
  refine ⟨?_, ?_, ?_, ?_, ?_, ?_, ?_, ?_, ?_, ?_, ?_, ?_, ?_, trivial⟩
  ·refine stepN rfl fun σ w1 hC h => ?_
   have e7 : σ 7 = NI ((readD D (nmO id)).2) := (eqo (h 7 (by decide))).trans rfl
   exact Yk.move e7 ⟨Ext.refl _, rfl⟩
  ·refine stepN rfl fun σ w1 hC h => ?_
   have e15 := eqo (h 15 (by decide))
   exact Yk.eqI (a := ((readD D (nmO id)).2 : Nat)) (b := (4 : Nat)) e15 rfl (k_eql _ _ _ _) ⟨Ext.refl _, (congrArg Value.bool (decide_eq_false (h4)))⟩
  ·refine stepN rfl fun σ w1 hC h => ?_
   have e16 := eqo (h 16 (by decide))
   exact Yk.move e16 ⟨Ext.refl _, rfl⟩
  ·refine stepY 2 false 17 rfl rfl (fun _ _ h => h) fun σ w1 hC h => ?_
   have e7 : σ 7 = NI ((readD D (nmO id)).2) := (eqo (h 7 (by decide))).trans rfl
   exact Yk.move e7 ⟨Ext.refl _, rfl⟩
  ·refine stepY 2 false 17 rfl rfl (fun _ _ h => h) fun σ w1 hC h => ?_
   have e18 := eqo (h 18 (by decide))
   exact Yk.eqI (a := ((readD D (nmO id)).2 : Nat)) (b := (0 : Nat)) e18 rfl (k_eql _ _ _ _) ⟨Ext.refl _, (congrArg Value.bool (decide_eq_false (h0)))⟩
  ·refine stepY 2 false 17 rfl rfl (fun _ _ h => h) fun σ w1 hC h => ?_
   have e19 := eqo (h 19 (by decide))
   exact Yk.move e19 ⟨Ext.refl _, rfl⟩
  ·refine stepX 5 true 20 rfl rfl (fun x _ (h : x = .bool false) => by rw [h]; intro h; cases h) fun _ => rfl
  ·refine stepX 5 true 20 rfl rfl (fun x _ (h : x = .bool false) => by rw [h]; intro h; cases h) fun _ => rfl
  ·refine stepX 5 true 20 rfl rfl (fun x _ (h : x = .bool false) => by rw [h]; intro h; cases h) fun _ => rfl
  ·refine stepX 5 true 20 rfl rfl (fun x _ (h : x = .bool false) => by rw [h]; intro h; cases h) fun _ => rfl
  ·refine stepX 5 true 20 rfl rfl (fun x _ (h : x = .bool false) => by rw [h]; intro h; cases h) fun _ => rfl
  ·refine stepY 2 false 17 rfl rfl (fun _ _ h => h) fun σ w1 hC h => ?_
   have e20 := eqo (h 20 (by decide))
   exact Yk.pickF e20 (vr (.bool (false)) rfl) ⟨Ext.refl _, rfl⟩
  ·refine stepN rfl fun σ w1 hC h => ?_
   have e17 := eqo (h 17 (by decide))
   have e26 := eqo (h 26 (by decide))
   exact Yk.pickF e17 e26 ⟨Ext.refl _, rfl⟩
 intro ρ33 w34 hx35 he hf
 obtain ⟨-, -, -, -, -, -, -, -, -, -, -, -, k27, -⟩ := hf
 obtain ⟨T0, T1, T3, T4, T5, T6, T7, -⟩ := he.hold [(0, _), (1, _), (3, PQ n2 0), (4, (Value.slice none 0 0)), (5, NI 0), (6, v13), (7, NI ((readD D (nmO id)).2))] ⟨T0, T1, rfl, rfl, rfl, rfl, rfl, trivial⟩ rfl
 clear he
 have hE := hE.trans hx35
 have hb8 := eb hx35 hb8
 have hr16 := hr16.keep hx35
 have T27 : ρ33 27 = .bool (false) := k27
 clear k27
 refine tN (hK32 _ _ (wpF_false T27 (wpF_skip (tN (hK31 _ _ (sk fun K36 hK36 => (wt (oM rfl (oM rfl (oA rfl (oA rfl (oZ (tN (hK36 _ _ (wpF_ret (postF_ret (fn := Tryd.f16) _ rfl [v13, NI ((readD D (nmO id)).2)] (.tuple #[v13, NI ((readD D (nmO id)).2)]) rfl ⟨T6, T7, trivial⟩ ?_))))))))))))))))
 have hV : getL D id = (readD D (nmO id)) := if_neg (fun q => q.elim h4 fun q => h0 q.1)
 exact ⟨_, by rw [hV], by rw [hV]; exact hr16, hE⟩

theorem lhas_at (wb w : World) (g : Nat) (H : Dk) (D : Dsk) (hD : DkG wb w g H D) (hG : Laid wb) (hL : DLt D) (id : List UInt8) (hid : id.length = 32) :
  Calls Tryd.prog 17 #[PQ g 0, AB id] w fun e w' => e = .returned (.bool (decide ((getL D id).2 = 0))) ∧ Ext w w' := by
 refine calls_of_wpF (args := [PQ g 0, AB id]) Tryd.func17 rfl 15 rfl (Nat.le_of_ble_eq_true rfl) ?_
 intro ρ0 hb
 have T0 : ρ0 0 = (PQ g 0 : Value) := hb.get 0
 have T1 : ρ0 1 = (AB id : Value) := hb.get 1
 clear hb
 have hE := Ext.refl w
 refine sk fun K1 hK1 => (wt (oS rfl (Yk.box (cs := (Lib.byteCells id : List Value).toArray) T1 fun n2 w3 hn4 hb5 hx6 hs7 => ?_)))
 have hE := hE.trans hx6
 have hb8 := hb5; clear hb5
 have hl9 : n2 < w3.heap.size := by omega
 refine oA rfl (oZ (tN (hK1 _ _ (sk fun K10 hK10 => (wt (oM rfl (oS rfl (Yk.loadAll (vr (PQ n2 0) rfl) hb8 ls5_ty26 rfl (by exact sizeId_of hid) (oS rfl (Yk.callA2 ls5_pl16 T0 (vr (AB id) rfl) ((get_at wb _ g H D (hD.keep hE) hG hL id hid).mono ?_)))))))))))
 rintro e w14 ⟨v11, rfl, hr12, hx13⟩
 refine ⟨_, rfl, ?_⟩
 have hE := hE.trans hx13
 have hb8 := eb hx13 hb8
 refine oM rfl (oS rfl (Yk.extract (vs := [v11, NI ((getL D id).2)]) (vr (.tuple #[v11, NI ((getL D id).2)]) rfl) (show _ = some (v11 : Value) from rfl) (oS rfl (Yk.extract (vs := [v11, NI ((getL D id).2)]) (vr (.tuple #[v11, NI ((getL D id).2)]) rfl) (show _ = some (NI ((getL D id).2) : Value) from rfl) (oA rfl (oA rfl (oZ (tN (hK10 _ _ (sk fun K15 hK15 => (wt (oM rfl (oS rfl (Yk.eqI (a := ((getL D id).2 : Nat)) (b := (0 : Nat)) rfl rfl (k_eql _ _ _ _) (oA rfl (oZ (tN (hK15 _ _ (wpF_ret (postF_ret (fn := Tryd.f17) _ rfl [.bool (decide (((getL D id).2 : Nat) = (0)))] (.bool (decide (((getL D id).2 : Nat) = (0)))) rfl ⟨rfl, trivial⟩ ?_))))))))))))))))))))
 exact ⟨rfl, hE⟩

theorem ldrop_at (wb w : World) (g : Nat) (H : Dk) (D : Dsk) (hD : DkG wb w g H D) (hL : DLt D) (id : List UInt8) (hid : id.length = 32) :
  Calls Tryd.prog 42 #[PQ g 0, AB id] w fun e w' => ∃ H', e = .returned (NI (dropL D id).2) ∧ DkW wb w g H D w' H' (dropL D id).1 := by
 refine calls_of_wpF (args := [PQ g 0, AB id]) Tryd.func42 rfl 13 rfl (Nat.le_of_ble_eq_true rfl) ?_
 intro ρ0 hb
 have T0 : ρ0 0 = (PQ g 0 : Value) := hb.get 0
 have T1 : ρ0 1 = (AB id : Value) := hb.get 1
 clear hb
 have hE := Ext.refl w
 refine sk fun K1 hK1 => (wt (oS rfl (Yk.box (cs := (Lib.byteCells id : List Value).toArray) T1 fun n2 w3 hn4 hb5 hx6 hs7 => ?_)))
 have hE := hE.trans hx6
 have hb8 := hb5; clear hb5
 have hl9 : n2 < w3.heap.size := by omega
 refine oA rfl (oZ (tN (hK1 _ _ (sk fun K10 hK10 => (wt (oM rfl (oS rfl (Yk.loadAll (vr (PQ n2 0) rfl) hb8 ls5_ty26 rfl (by exact sizeId_of hid) (oS rfl (Yk.callA1 ls5_pl21 (vr (AB id) rfl) ((name_any _ id hid).mono ?_)))))))))))
 rintro e w12 ⟨rfl, hx11⟩
 refine ⟨_, rfl, ?_⟩
 have hE := hE.trans hx11
 have hb8 := eb hx11 hb8
 have hDc := (hD.keep hE)
 have hWa : DkW wb w g H D w12 H D := DkW.ofExt hD hE
 refine oS rfl (Yk.callA2 ls5_pl26 T0 (vr (St ((nmO id))) rfl) ((hDc.dropW (nmO id) hL).mono ?_))
 rintro e w13 ⟨H2, rfl, hW2⟩
 refine ⟨_, rfl, ?_⟩
 have hW := hWa.trans hW2
 refine oA rfl (oZ (tN (hK10 _ _ (sk fun K14 hK14 => (sk fun K15 hK15 => (wt (oM rfl (oS rfl (Yk.eqI (a := ((dropD D (nmO id)).2 : Nat)) (b := (4 : Nat)) rfl rfl (k_eql _ _ _ _) (oZ (tN (hK15 _ _ ?_))))))))))))
 refine wpF_cond (((dropD D (nmO id)).2 : Nat) = (4)) (vr (.bool (decide (((dropD D (nmO id)).2 : Nat) = (4)))) rfl) (fun hc0 => ?_) (fun hc0 => ?_)
 ·refine sk fun K16 hK16 => (wt (oA rfl (oZ (tN (hK16 _ _ (wpF_ret (thenF_ret (postF_ret (fn := Tryd.f42) _ rfl [NI 12] (NI 12) rfl ⟨rfl, trivial⟩ ?_))))))))
  have hV : dropL D id = ((dropD D (nmO id)).1, 12) := if_pos hc0
  exact ⟨H2, by rw [hV], by rw [hV]; exact hW⟩
 refine wpF_skip (tN (hK14 _ _ (sk fun K17 hK17 => (wt (oM rfl (oA rfl (oZ (tN (hK17 _ _ (wpF_ret (postF_ret (fn := Tryd.f42) _ rfl [NI ((dropD D (nmO id)).2)] (NI ((dropD D (nmO id)).2)) rfl ⟨rfl, trivial⟩ ?_)))))))))))
 have hV : dropL D id = dropD D (nmO id) := if_neg hc0
 exact ⟨H2, by rw [hV], by rw [hV]; exact hW⟩
open Go.RowKit
section
variable {P : Program} {l : List Oper} {kill : Nat → List Nat} {C : Nat → World → Prop} {R : Nat → World → World → Prop} {Φ : Nat → Fact} {a0 : Act}
theorem tail_anyW {z : Nat} (g : Good l z) {k : Nat} (ht : ∀ i, k ≤ i → i < l.length → ∀ m, k ≤ m → m < i → ((masks l []).getD i 0).testBit m = true) {Q : Exit → Act → World → Prop} :
    ∀ (fuel m : Nat) (listed : Array Bool) (a : Act) (w : World), listed.size = l.length → (∀ i, On listed i ↔ i < m) → k ≤ m → m ≤ l.length → l.length ≤ m + fuel → wpList P l.toArray Q (l.drop m) a w → wpAny P .any l.toArray Q fuel listed a w := by
  have noReady : ∀ (m : Nat) (listed : Array Bool), listed.size = l.length → (∀ i, On listed i ↔ i < m) → l.length ≤ m → Region.ready .any l.toArray listed = [] := by
    intro m listed hsz hon hm
    cases hr : Region.ready .any l.toArray listed with
    | nil => rfl
    | cons x xs =>
      exfalso
      have hmem : x ∈ Region.ready .any l.toArray listed := by rw [hr]; simp
      obtain ⟨h1, o, ho, _⟩ := mem_ready.1 hmem
      have hx : x < l.length := by simpa using (Array.getElem?_eq_some_iff.1 ho).1
      have h2 := (hon x).2 (by omega)
      have hx' : x < listed.size := h2.lt
      unfold On at h2
      simp [hx'] at h1 h2
      rw [h1] at h2
      cases h2
  intro fuel
  induction fuel with
  | zero =>
    intro m listed a w hsz hon hk hm hf hw
    rw [List.drop_of_length_le (by omega)] at hw
    exact ⟨noReady m listed hsz hon (by omega), hw⟩
  | succ fuel ih =>
    intro m listed a w hsz hon hk hm hf hw
    by_cases hml : m = l.length
    · have hr := noReady m listed hsz hon (by omega)
      rw [List.drop_of_length_le (by omega)] at hw
      exact ⟨fun _ => hw, fun i hi => by rw [hr] at hi; cases hi⟩
    · have hlt : m < l.length := by omega
      have hoff : ¬ On listed m := fun x => by have := (hon m).1 x; omega
      have hI : Inv l (fun _ => []) (fun _ _ => True) (fun _ _ => True) (fun _ _ _ => True) a listed a w :=
        ⟨hsz, fun i o ho hi e he hb => (hon _).2 (by have := g.back i o ho e he hb; have := (hon i).1 hi; omega), rfl, rfl, fun _ _ _ => trivial, trivial, fun _ _ => rfl, fun _ _ _ _ _ _ _ _ => trivial⟩
      refine ⟨fun hr => ?_, fun i hi => ?_⟩
      · exfalso
        have ho : l[m]? = some l[m] := List.getElem?_eq_getElem hlt
        have : m ∈ Region.ready .any l.toArray listed := by
          refine mem_ready.2 ⟨?_, l[m], by rw [List.getElem?_toArray]; exact ho, fun e he hb => (hon _).2 (g.back m _ ho e he hb)⟩
          have hm' : m < listed.size := by omega
          unfold On at hoff
          simp [hm'] at hoff ⊢
          exact hoff
        rw [hr] at this
        cases this
      · obtain ⟨h1, o, ho, hall⟩ := mem_ready.1 hi
        have ho' : l[i]? = some o := by simpa using ho
        have hil : i < l.length := (List.getElem?_eq_some_iff.1 ho').1
        have hno : ¬ On listed i := fun x => by
          have hx : i < listed.size := by omega
          unfold On at x
          simp [hx] at h1 x
          rw [h1] at x
          cases x
        have him : i = m := by
          by_cases h2 : i < m
          · exact absurd ((hon i).2 h2) hno
          · by_cases h3 : i = m
            · exact h3
            · exact absurd (hI.maskReady ho' (fun e he hb => hall e he hb) (ht i (by omega) hil m hk (by omega))) hoff
        subst him
        rw [List.drop_eq_getElem_cons hlt] at hw
        obtain rfl : l[i] = o := by rw [List.getElem?_eq_getElem hlt] at ho'; exact Option.some.inj ho'
        have nxt : ∀ a' w', wpList P l.toArray Q (l.drop (i + 1)) a' w' → wpAny P .any l.toArray Q fuel (listed.setIfInBounds i true) a' w' := fun a' w' hw' =>
          ih (i + 1) _ a' w' (by simpa using hsz) (fun j => by rw [on_set (by omega), hon j]; omega) (by omega) (by omega) (by omega) hw'
        unfold wpOp
        simp only [List.getElem?_toArray, ho']
        unfold wpList at hw
        split at hw
        · rename_i hwt
          rw [if_pos hwt]
          exact hw.imp (fun h => Oper.wp_mono nxt h) (fun h => h)
        · rename_i hwt
          rw [if_neg hwt]
          exact nxt _ _ hw
end
def freeE (l : List Oper) (oe : Oper) (e : Nat) : Bool :=
  (List.range l.length).all fun j => match l[j]? with
    | some o => Nat.beq j e || (o.after.any (fun x => Region.binds .any x && x.on == e) || (oe.apart l.toArray o || ((masks l []).getD e 0).testBit j))
    | none => true
def tailE (l : List Oper) (k e : Nat) : Bool := Nat.blt e k && (List.range l.length).all fun i => Nat.blt i k || (List.range i).all fun m => Nat.beq m e || ((masks l []).getD i 0).testBit m
theorem tailE_iff {l : List Oper} {k e : Nat} (h : tailE l k e = true) : e < k ∧ ∀ i, k ≤ i → i < l.length → ∀ m, m < i → m ≠ e → ((masks l []).getD i 0).testBit m = true := by
  unfold tailE at h
  rw [Bool.and_eq_true] at h
  refine ⟨Nat.le_of_ble_eq_true h.1, fun i hi hl m hm hne => ?_⟩
  have h1 := List.all_eq_true.1 h.2 i (by simpa using hl)
  rcases Bool.or_eq_true _ _ ▸ h1 with h2 | h2
  · have := Nat.le_of_ble_eq_true h2
    omega
  · have h3 := List.all_eq_true.1 h2 m (by simpa using hm)
    rcases Bool.or_eq_true _ _ ▸ h3 with h4 | h4
    · exact absurd (Nat.eq_of_beq_eq_true h4) hne
    · exact h4
section
variable {P : Program} {l : List Oper} {Φ : Nat → Fact} {a0 : Act} {w0 : World} {Q : Exit → Act → World → Prop} {e k : Nat} {oe : Oper}
def StillOp (P : Program) (op : Op) : Prop := ∀ (ev : Operand → Value) dst ty pos af, (∃ x, ∀ w : World, (execOp ev ⟨dst, op, ty, pos, af, none⟩).run P w = .ok (.value x) w) ∨ ∀ w : World, ∃ s, (execOp ev ⟨dst, op, ty, pos, af, none⟩).run P w = .halt (.stuck s) w
theorem still_pick (c a b : Operand) : StillOp P (.pick c a b) := by
  intro ev dst ty pos af
  cases hc : ev c with
  | bool x => exact .inl ⟨if x then ev a else ev b, fun w => by
      unfold execOp
      simp only [hc, asBool]
      rfl⟩
  | _ => exact .inr fun w => ⟨_, by
      unfold execOp
      simp only [hc, asBool]
      rfl⟩
theorem still_yields {dst : Option Tmp} {op : Op} (hst : StillOp P op) {ty : TypeId} {pos : String} {af : Array Edge} (he : l[e]? = some ⟨dst, op, ty, pos, af, none⟩) {K : Act → World → Prop} {a : Act} {w : World}
    (h : wpOp P l.toArray (fun _ _ _ => False) e K a w) : ∃ x, Yields P l.toArray ⟨dst, op, ty, pos, af, none⟩ x a ∧ K (a.put dst x) w := by
  unfold wpOp at h
  simp only [List.getElem?_toArray, he, Region.wanted, if_true] at h
  rcases h with h | ⟨-, -, -, h⟩
  · unfold Oper.wp at h
    rcases hst a.eval dst ty pos af with ⟨x, hx⟩ | hx
    · rw [hx] at h
      exact ⟨x, .inl ⟨rfl, hx⟩, h⟩
    · obtain ⟨s, hs⟩ := hx w
      rw [hs] at h
      exact h.elim
  · exact h.elim
theorem anyInvE (g : Good l a0.tmps.size) (hsel : Region.noSelect l.toArray = true) {d : Tmp} {op : Op} (hso : StillOp P op) {ty : TypeId} {pos : String} {af : Array Edge} (he : l[e]? = some ⟨some d, op, ty, pos, af, none⟩)
    (hte : tailE l k e = true) (hfr : freeE l ⟨some d, op, ty, pos, af, none⟩ e = true) (hk : k ≤ l.length) (hst : ∀ i, Stab Ext (Φ i))
    (hs : ∀ i o, l[i]? = some o → i < k → StepOk P l (fun _ => Ext w0) (fun _ => Ext) Φ a0.tmps i o) (hQp : ∀ v c a w, Q (.panic c) (a.put (some d) v) w → Q (.panic c) a w)
    (hQ : ∀ listed a' w', (∀ i, On listed i ↔ i < k) → Inv l (fun _ => []) (fun _ => Ext w0) (fun _ _ => True) Φ a0 listed a' w' → wpList P l.toArray Q (l.drop k) a' w') :
    ∀ (fuel : Nat) (listed : Array Bool) (a : Act) (w : World), (listed.toList.filter (!·)).length = fuel → (∀ i, On listed i → i < k) → e ∉ Region.ready .any l.toArray listed → Inv l (fun _ => []) (fun _ => Ext w0) (fun _ _ => True) Φ a0 listed a w → wpAny P .any l.toArray Q fuel listed a w := by
  obtain ⟨hek, hte⟩ := tailE_iff hte
  have ht : ∀ i, k ≤ i → i < l.length → ∀ m, k ≤ m → m < i → ((masks l []).getD i 0).testBit m = true := fun i hi hl m hkm hm => hte i hi hl m hm (by omega)
  have hkl : killB l (fun _ => []) = true := by unfold killB; simp
  have hC : ∀ n m, n < l.length → m < l.length → n ≠ m → ((masks l []).getD n 0).testBit m = false → ∀ w w', Ext w0 w → Ext w w' → Ext w0 w' := fun _ _ _ _ _ _ _ _ hc hr => hc.trans hr
  have hE : ∀ n listed (w w' : World), n < l.length → listed.size = l.length → ¬ On listed n → (∀ i k, On listed i ∨ i = n → ((masks l []).getD i 0).testBit k = true → On listed k) → True → Ext w w' → True := fun _ _ _ _ _ _ _ _ _ _ => trivial
  have hΦ : ∀ n i, n < l.length → i < l.length → i ∉ ([] : List Nat) → i ≠ n → ((masks l []).getD i 0).testBit n = false → ∀ v w w', Φ i v w → Ext w w' → Φ i v w' := fun _ i _ _ _ _ _ v w w' => hst i v w w'
  have hRr : ∀ (n : Nat) o (w : World), l[n]? = some o → o.guard.isSome = true → Ext w w := fun _ _ w _ _ => Ext.refl w
  intro fuel
  induction fuel using Nat.strongRecOn with
  | _ fuel ih =>
  intro listed a w hf hoff hre h
  by_cases hfull : ∀ i, i < k → On listed i
  · have hon : ∀ i, On listed i ↔ i < k := fun i => ⟨hoff i, hfull i⟩
    refine tail_anyW g ht fuel k listed a w h.size hon (Nat.le_refl _) hk ?_ (hQ listed a w hon h)
    have e1 := List.take_append_drop k listed.toList
    rw [← e1, List.filter_append, List.length_append] at hf
    have e2 : (listed.toList.drop k).filter (!·) = listed.toList.drop k := List.filter_eq_self.2 fun b hb => by
      obtain ⟨j, hj, rfl⟩ := List.getElem_of_mem hb
      rw [List.getElem_drop]
      have hno : ¬ On listed (k + j) := fun x => by have := hoff _ x; omega
      rw [List.length_drop] at hj
      have hlt : k + j < listed.size := by rw [← Array.length_toList]; omega
      unfold On at hno
      simp [hlt] at hno
      simp [hno]
    rw [e2, List.length_drop] at hf
    have hz : listed.toList.length = l.length := by rw [Array.length_toList]; exact h.size
    omega
  · have hunl : ∀ i, i < l.length → ¬ On listed i → listed.getD i true = false := fun i hi hno => by
      have hi' : i < listed.size := by rw [h.size]; exact hi
      unfold On at hno
      simp [hi'] at hno ⊢
      exact hno
    have hlow : ∃ j, j < k ∧ j ≠ e ∧ ¬ On listed j := by
      refine Classical.byContradiction fun hn => hfull fun i hi => Classical.byContradiction fun hx => ?_
      have hall : ∀ j, j < k → j ≠ e → On listed j := fun j hj hje => Classical.byContradiction fun hx => hn ⟨j, hj, hje, hx⟩
      have hie : i = e := Classical.byContradiction fun hne => hx (hall i hi hne)
      subst hie
      refine hre (mem_ready.2 ⟨hunl i (by omega) hx, _, by rw [List.getElem?_toArray]; exact he, fun x hxm hb => ?_⟩)
      have := g.back i _ he x hxm hb
      exact hall x.on (by omega) (by omega)
    obtain ⟨j0, hj0, hj0e, hoff0⟩ := hlow
    have hpos : ∀ (L : Array Bool) i, L.size = l.length → i < l.length → L.getD i true = false → ∃ m, (L.toList.filter (!·)).length = m + 1 ∧ ((L.setIfInBounds i true).toList.filter (!·)).length = m := fun L i hL hi hx => by
      have hi' : i < L.size := by omega
      have := count_set L.toList i (by simp [hi'] at hx; simp [hi', hx])
      exact ⟨_, this.symm, by rw [Array.toList_setIfInBounds]⟩
    obtain ⟨f0, hf0, -⟩ := hpos listed j0 h.size (by omega) (hunl j0 (by omega) hoff0)
    obtain rfl : fuel = f0 + 1 := by omega
    refine ⟨fun hr => ?_, fun i hi => ?_⟩
    · exfalso
      have full : ∀ i, i < l.length → On listed i := by
        intro i
        induction i using Nat.strongRecOn with
        | _ i ih2 =>
          intro hi
          refine Classical.byContradiction fun hno => ?_
          have ho : l[i]? = some l[i] := List.getElem?_eq_getElem hi
          have : i ∈ Region.ready .any l.toArray listed := mem_ready.2 ⟨hunl i hi hno, l[i], by rw [List.getElem?_toArray]; exact ho, fun x hx hb => by
            have hlt := g.back i _ ho x hx hb
            exact ih2 x.on hlt (by omega)⟩
          rw [hr] at this
          cases this
      exact hoff0 (full j0 (by omega))
    · have hie : i ≠ e := fun x => hre (x ▸ hi)
      obtain ⟨h1, o, ho, hall0⟩ := mem_ready.1 hi
      have ho' : l[i]? = some o := by simpa using ho
      have hilt : i < l.length := (List.getElem?_eq_some_iff.1 ho').1
      have hil : i < listed.size := by rw [h.size]; exact hilt
      have hno : ¬ On listed i := by
        unfold On
        simp [hil] at h1 ⊢
        exact h1
      have hall : ∀ x ∈ o.after, Region.binds .any x = true → On listed x.on := fun x hx hb => hall0 x hx hb
      have hik : i < k := by
        by_cases h2 : i < k
        · exact h2
        · exact absurd (h.maskReady ho' hall (hte i (by omega) hilt j0 (by omega) hj0e)) hoff0
      obtain ⟨f1, hf1, hcnt⟩ := hpos listed i h.size hilt h1
      obtain rfl : f1 = f0 := by omega
      refine h.step g hkl hC hE hΦ hRr ho' hno hall (hs i o ho' hik) fun a' w' h' => ?_
      have hoff' : ∀ j, On (listed.setIfInBounds i true) j → j < k := fun j hx => by
        rcases (on_set hil).1 hx with rfl | h3
        · exact hik
        · exact hoff j h3
      by_cases hre' : e ∈ Region.ready .any l.toArray (listed.setIfInBounds i true)
      · obtain ⟨q1, oe', hoe, hq⟩ := mem_ready.1 hre'
        have hoe' : l[e]? = some oe' := by simpa using hoe
        obtain rfl := Option.some.inj (he.symm.trans hoe')
        have helt : e < l.length := by omega
        have hel : e < (listed.setIfInBounds i true).size := by rw [h'.size]; exact helt
        have hnoe : ¬ On (listed.setIfInBounds i true) e := by
          unfold On
          rw [Array.getD_eq_getD_getElem?] at q1 ⊢
          rw [Array.getElem?_eq_getElem hel] at q1 ⊢
          simp only [Option.getD_some] at q1 ⊢
          rw [q1]
          decide
        have hw := h'.step g hkl hC hE hΦ hRr he hnoe (fun x hx hb => hq x hx hb) (hs e _ he hek) (K := fun a2 w2 => Inv l (fun _ => []) (fun _ => Ext w0) (fun _ _ => True) Φ a0 ((listed.setIfInBounds i true).setIfInBounds e true) a2 w2) (Q := fun _ _ _ => False) (fun _ _ hx => hx)
        obtain ⟨x, hy, hK⟩ := still_yields hso he hw
        obtain ⟨f2, hf2, hcnt2⟩ := hpos _ e h'.size helt q1
        obtain rfl : f1 = f2 + 1 := by omega
        refine wpAny_first hoe (Region.noSelect_spec hsel) (hQp x) f2 _ a' w' (fun j oj hoj hje hjun hjno => ?_) hre' hy (ih f2 (by omega) _ _ _ hcnt2 (fun j hx => ?_) (fun hx => ?_) hK)
        · have hoj' : l[j]? = some oj := by simpa using hoj
          have hjl : j < l.length := (List.getElem?_eq_some_iff.1 hoj').1
          have hfj := List.all_eq_true.1 hfr j (by simpa using hjl)
          rw [hoj'] at hfj
          simp only [Bool.or_eq_true] at hfj
          rcases hfj with h3 | h3 | h3 | h3
          · exact absurd (Nat.eq_of_beq_eq_true h3) hje
          · obtain ⟨y, hy1, hy2⟩ := Array.any_eq_true'.1 h3
            simp only [Bool.and_eq_true, beq_iff_eq] at hy2
            exact absurd hy2.2 (hjno y hy1 hy2.1)
          · exact h3
          · have hon := h'.maskReady he (fun x hx hb => hq x hx hb) h3
            have hjl' := hon.lt
            unfold On at hon
            rw [Array.getD_eq_getD_getElem?, Array.getElem?_eq_getElem hjl'] at hon hjun
            simp only [Option.getD_some] at hon hjun
            rw [hon] at hjun
            cases hjun
        · rcases (on_set hel).1 hx with rfl | h3
          · exact hek
          · exact hoff' j h3
        · have := (mem_ready.1 hx).1
          simp [hel] at this
      · exact ih f1 (by omega) _ _ _ hcnt hoff' hre' h'
end
section
variable {P : Program} {n : Nat} {ρ : Slots} {w : World} {Q : PostF}
theorem wpF_draw_lateG {l r : List Oper} (e k0 : Nat) (Φs : List Fact) {id : Nat} (hm : P.follows .mixedOrders = true) (ds : List Tmp) (hg : goodB l n = true) {d : Tmp} {op : Op} (hso : StillOp P op) {ty : TypeId} {pos : String} {af : Array Edge} (he : l[e]? = some ⟨some d, op, ty, pos, af, none⟩) (hsel : Region.noSelect l.toArray = true)
    (hn : tailE l k0 e = true) (hfr : freeE l ⟨some d, op, ty, pos, af, none⟩ e = true) (haf : af.any (fun x => Region.binds .any x) = true) (hk0 : Nat.ble Φs.length k0 = true) (hds : slotsW l = ds) (hr : (l.drop k0) = r) (hlt : Nat.blt k0 l.length = true) (hst : AllStab Ext Φs)
    (hQp : ∀ c ρ ρ' w, Q (.panic c) ρ w → Q (.panic c) ρ' w)
    (hs : StepsFC P l k0 (fun _ => Ext w) (fun _ => Ext) (facts Φs) ρ 0 l)
    (hQ : ∀ (ρ' : Slots) w1, Ext w w1 → EndF ds ρ ρ' → EndFacts l (fun _ => []) (facts Φs) ρ' w1 ds → opsF P l.toArray n Q r ρ' w1) : wpF P n (.region id l.toArray true) Q ρ w := by
  intro a ha
  obtain ⟨T, df⟩ := a
  have hz : T.size = n := ha.size
  subst hz
  have hk1 : k0 < l.length := Nat.le_of_ble_eq_true hlt
  have g := good_of hg
  have hno0 : ∀ i, ¬ On (Array.replicate l.toArray.size false) i := fun i h => by
    unfold On at h
    rw [Array.getD_eq_getD_getElem?, Array.getElem?_replicate] at h
    split at h <;> simp at h
  refine wp_region_any hm (anyInvE (a0 := { tmps := T, defers := df }) (w0 := w) (Φ := facts Φs) g hsel hso he hn hfr (Nat.le_of_lt hk1) (fun i => hst.get Φs i) (fun i o ho hi => ?_) (fun v c a' w' hx => ?_) (fun listed a' w' hon h => ?_) _ _ _ _ (by simp) (fun i h => absurd h (hno0 i)) ?_ ?_)
  · have hst := StepsFC.get l 0 hs i o ho (by omega)
    rw [Nat.zero_add] at hst
    have h2 := StepsF.ok (P := P) (l := l) (C := fun _ => Ext w) (R := fun _ => Ext) (Φ := facts Φs) (T := T) ha.get [o] i ⟨hst, trivial⟩
    exact h2.1
  · obtain ⟨ρ', hf, hq⟩ := hx
    exact ⟨fun t => a'.tmps.getD t undef, ⟨by have := hf.size; simpa [Act.put] using this, by have := hf.defers; simpa [Act.put] using this, fun _ => rfl⟩, hQp _ _ _ _ hq⟩
  · have hw : ∀ d k, writer l d l.length = some k → (List.range l.length).all (fun n => !([] : List Nat).contains k) = true → facts Φs k (a'.tmps.getD d undef) w' := fun d k hk hall => by
      obtain ⟨h1, ⟨o, ho, hd'⟩, h3⟩ := writer_some _ hk
      by_cases hkL : k0 ≤ k
      · have e : facts Φs k = fun _ _ => True := by
          have := Nat.le_of_ble_eq_true hk0
          unfold facts
          rw [List.getD_eq_getElem?_getD, List.getElem?_eq_none (by omega)]
          rfl
        rw [e]
        trivial
      exact h.new d k o ho hd' ((hon k).2 (by omega)) (fun k' o' hkk ho' hd'' _ => h3 k' o' hkk (List.getElem?_eq_some_iff.1 ho').1 ho' hd'') (fun n hn => by simp)
    have hget : ∀ t, a'.tmps.getD t undef = if t ∈ ds then a'.tmps.getD t undef else ρ t := fun t => by
      by_cases hn : t ∈ ds
      · rw [if_pos hn]
      · rw [if_neg hn, ← ha.get]
        exact h.old t fun k o ho hd _ => hn (by
          rw [← hds]
          unfold slotsW
          rw [List.mem_eraseDups, List.mem_filterMap]
          exact ⟨o, List.mem_of_getElem? ho, hd⟩)
    have hcl := h.cls k0 hk1 (fun x => by have := (hon k0).1 x; omega)
    have hend : EndF ds ρ (fun t => a'.tmps.getD t undef) := ⟨fun t ht => by rw [hget t, if_neg (by simpa using ht)]⟩
    have := hQ (fun t => a'.tmps.getD t undef) w' hcl hend (endFacts_of hw ds)
    rw [hr]
    exact this a' ⟨h.tmps, h.defers.trans ha.defers, fun t => rfl⟩
  · intro hx
    obtain ⟨-, o, ho, hall⟩ := mem_ready.1 hx
    obtain rfl := Option.some.inj (he.symm.trans (by simpa using ho))
    obtain ⟨x, hx1, hx2⟩ := Array.any_eq_true'.1 haf
    exact hno0 _ (hall x hx1 hx2)
  · exact ⟨Array.size_replicate, fun i o _ h => absurd h (hno0 i), rfl, rfl, fun n hn _ => (Below.refl _ _).drew, trivial, fun t _ => rfl, fun t k o _ _ h => absurd h (hno0 k)⟩
theorem wpF_draw_lateP {l r : List Oper} (e k0 : Nat) (Φs : List Fact) {id : Nat} (hm : P.follows .mixedOrders = true) (ds : List Tmp) (hg : goodB l n = true) {d : Tmp} {o1 o2 o3 : Operand} {ty : TypeId} {pos : String} {af : Array Edge} (he : l[e]? = some ⟨some d, .pick o1 o2 o3, ty, pos, af, none⟩) (hsel : Region.noSelect l.toArray = true)
    (hn : tailE l k0 e = true) (hfr : freeE l ⟨some d, .pick o1 o2 o3, ty, pos, af, none⟩ e = true) (haf : af.any (fun x => Region.binds .any x) = true) (hk0 : Nat.ble Φs.length k0 = true) (hds : slotsW l = ds) (hr : (l.drop k0) = r) (hlt : Nat.blt k0 l.length = true) (hst : AllStab Ext Φs)
    (hQp : ∀ c ρ ρ' w, Q (.panic c) ρ w → Q (.panic c) ρ' w)
    (hs : StepsFC P l k0 (fun _ => Ext w) (fun _ => Ext) (facts Φs) ρ 0 l)
    (hQ : ∀ (ρ' : Slots) w1, Ext w w1 → EndF ds ρ ρ' → EndFacts l (fun _ => []) (facts Φs) ρ' w1 ds → opsF P l.toArray n Q r ρ' w1) : wpF P n (.region id l.toArray true) Q ρ w :=
  wpF_draw_lateG e k0 Φs hm ds hg (still_pick _ _ _) he hsel hn hfr haf hk0 hds hr hlt hst hQp hs hQ
end
open Go.Shelf Go.RowKit
def laysI_ren : Go.Shelf.Ren := ⟨fun | 137 => 56 | 217 => 69 | 266 => 78 | n => n, fun | 9 => 9 | 5 => 5 | 3 => 3 | n => n, fun | n => n⟩
theorem laysI : Go.Proofs.Lays.n137 Tryd.prog laysI_ren := {
  mixed := by kernel_rfl
  f137 := Tryd.func56.trans (congrArg some (by kernel_rfl))
  f217 := Tryd.func69.trans (congrArg some (by kernel_rfl))
  f266 := Tryd.func78.trans (congrArg some (by kernel_rfl))
  t3 := Tryd.underlying3
  a3 := Tryd.isAgg3
  z3 := Tryd.sizeOf3
  v3 := Tryd.zeroValue3
  t5 := Tryd.underlying5
  a5 := Tryd.isAgg5
  z5 := Tryd.sizeOf5
  v5 := Tryd.zeroValue5
  t9 := Tryd.underlying9
  a9 := Tryd.isAgg9
  z9 := Tryd.sizeOf9
  v9 := Tryd.zeroValue9 }
theorem shelf_IndexByte (s : ByteArray) (c : Int) (w : World) :
    Calls Tryd.prog 56 #[.string s, .int .u8 c] w fun e w' => e = .returned (.int .i64 (Lib.indexByte s.data.toList c.toNat.toUInt8)) ∧ w' = w := Any.strings_IndexByte laysI s c w
open Go.RowKit
set_option maxRecDepth 100000
theorem index_any (w : World) (c : UInt8) : Calls Tryd.prog 56 #[St ([48, 49, 50, 51, 52, 53, 54, 55, 56, 57, 97, 98, 99, 100, 101, 102] : List UInt8), B8 c] w fun e w' => e = .returned (.int .i64 (dgI c)) ∧ w' = w := by
 have h := shelf_IndexByte (⟨([48, 49, 50, 51, 52, 53, 54, 55, 56, 57, 97, 98, 99, 100, 101, 102] : List UInt8).toArray⟩ : ByteArray) (c.toNat : Int) w
 have e : Lib.indexByte (⟨([48, 49, 50, 51, 52, 53, 54, 55, 56, 57, 97, 98, 99, 100, 101, 102] : List UInt8).toArray⟩ : ByteArray).data.toList ((c.toNat : Int).toNat.toUInt8) = dgI c := by
  rw [← index_dg c]
  simp [digs]
 rw [e] at h
 exact h
theorem byteAt_of {s : List UInt8} {i k1 k2 : Nat} (h1 : dg (s.getD (2 * i) 0) = some k1) (h2 : dg (s.getD (2 * i + 1) 0) = some k2) (_ : k2 < 16) : byteAt s i = UInt8.ofNat (16 * k1 + k2) := by
 unfold byteAt
 rw [h1, h2]
 rfl
theorem byteAt_or {s : List UInt8} {i k1 k2 : Nat} (h1 : dg (s.getD (2 * i) 0) = some k1) (h2 : dg (s.getD (2 * i + 1) 0) = some k2) (hn : k2 < 16) : byteAt s i = UInt8.ofNat (k1 * 2 ^ 4 ||| k2) := by
 rw [byteAt_of h1 h2 hn, shl_or _ _ _ hn, Nat.mul_comm]
theorem ok_next {s : List UInt8} {i k1 k2 : Nat} (h : ∀ j, j < i → okAt s j = true) (h1 : dg (s.getD (2 * i) 0) = some k1) (h2 : dg (s.getD (2 * i + 1) 0) = some k2) : ∀ j, j < i + 1 → okAt s j = true := fun j hj => by
 by_cases he : j = i
 ·subst he
  unfold okAt
  rw [h1, h2]
  rfl
 ·exact h j (by omega)
theorem wr49_ty9 : Tryd.prog.underlying 9 = some (.string) := by kernel_rfl
theorem wr49_pl56 : Plain Tryd.prog 56 := fun _ _ => by kernel_rfl
theorem wr49_isz26 : (Tryd.prog.info? 26).map (·.size) = some 32 := by kernel_rfl
theorem wr49_al26 {d : Option Tmp} {ty : TypeId} {pos : String} {af : Array Edge} {gd : Option (Nat × Bool)} (σ : Operand → Value) (w : World) : (execOp σ ⟨d, .alloc 26, ty, pos, af, gd⟩).run Tryd.prog w = .ok (.value (PQ w.heap.size 0)) (w.alloc (.cells (Lib.byteCells (List.replicate 32 0)).toArray 26)) := by kernel_rfl
theorem wr49_ty26 : Tryd.prog.underlying 26 = some (.array 32 5) := by kernel_rfl
theorem wr49_pl55 : Plain Tryd.prog 55 := fun _ _ => by kernel_rfl
theorem wr49_ty3 : Tryd.prog.underlying 3 = some (.int .i64) := by kernel_rfl
theorem wr49_ty5 : Tryd.prog.underlying 5 = some (.int .u8) := by kernel_rfl
theorem wr49_sz5 : ∀ w' : World, (sizeOf 5).run Tryd.prog w' = .ok 1 w' := fun _ => by kernel_rfl
theorem wr49_isz5 : (Tryd.prog.info? 5).map (·.size) = some 1 := by kernel_rfl
set_option maxHeartbeats 1600000
theorem digit_any (w : World) (b : Nat) (s : List UInt8) (hb : w.heap[b]? = some (.cells ([St s] : List Value).toArray 9 (0, 0))) (i : Nat) (hi : i < s.length) :
  Calls Tryd.prog 55 #[NI i, PQ b 0] w fun e w' => e = .returned (.int .i64 (dgI (s.getD i 0))) ∧ Ext w w' := by
 refine calls_of_wpF (args := [NI i, PQ b 0]) Tryd.func55 rfl 8 rfl (Nat.le_of_ble_eq_true rfl) ?_
 intro ρ0 hb
 have T0 : ρ0 0 = (NI i : Value) := hb.get 0
 have T1 : ρ0 1 = (PQ b 0 : Value) := hb.get 1
 clear hb
 have hE := Ext.refl w
 refine sk fun K1 hK1 => (wt (oA rfl (oZ (tN (hK1 _ _ (sk fun K2 hK2 => (wt (oS rfl (Yk.cell1 wr49_ty9 rfl T1 (cellAt hb (show _ = some (St (s) : Value) from rfl)) (oM rfl (oS rfl (Yk.idxSt (l := s) (i := i) wr49_ty9 (vr (St (s)) rfl) T0 (hi) (oS rfl (Yk.callA2 wr49_pl56 (vr (St (([48, 49, 50, 51, 52, 53, 54, 55, 56, 57, 97, 98, 99, 100, 101, 102] : List UInt8))) rfl) (vr (B8 (s.getD (i) 0)) rfl) ((index_any _ (s.getD (i) 0)).mono ?_)))))))))))))))
 rintro e w3 ⟨rfl, hq⟩
 refine ⟨_, rfl, ?_⟩
 have hb := eb (show Ext w w3 from by rw [hq]; exact Ext.refl _) hb
 have hE := hE.trans (show Ext w w3 from by rw [hq]; exact Ext.refl _)
 refine oA rfl (oZ (tN (hK2 _ _ (wpF_ret (postF_ret (fn := Tryd.f55) _ rfl [.int .i64 (dgI (s.getD (i) 0) : Int)] (.int .i64 (dgI (s.getD (i) 0) : Int)) rfl ⟨rfl, trivial⟩ ?_)))))
 exact ⟨rfl, hE⟩

theorem unhex_any (w : World) (s : List UInt8) (hs : s.length ≤ 9223372036854775807) :
  Calls Tryd.prog 31 #[St s] w fun e w' => e = .returned (.tuple #[AB ((unhex s).1), .bool (unhex s).2]) ∧ Ext w w' := by
 refine calls_of_wpF (args := [St (s)]) Tryd.func31 rfl 42 rfl (Nat.le_of_ble_eq_true rfl) ?_
 intro ρ0 hb
 have T0 : ρ0 0 = (St (s) : Value) := hb.get 0
 clear hb
 have hE := Ext.refl w
 refine sk fun K1 hK1 => (wt (oS rfl (Yk.box1 T0 rfl fun n2 w3 hn4 hb5 hx6 hs7 => ?_)))
 have hE := hE.trans hx6
 have hb8 := hb5; clear hb5
 have hl9 : n2 < w3.heap.size := by omega
 refine oS rfl (Yk.alloc (cs := (Lib.byteCells (List.replicate 32 0)).toArray) wr49_al26 fun n10 w11 hn12 hb13 hx14 hs15 => ?_)
 have hA16 := Ext.refl w3
 have hea17 := hE
 have hz18 := hE.size
 have hlt19 := lte (bl hb8) hn12
 have hE := hE.trans hx14
 have hb8 := eb hx14 hb8
 have hA16 := hA16.trans hx14
 have hb20 := hb13; clear hb13
 have hl21 : n10 < w11.heap.size := by omega
 refine oA rfl (oZ (tN (hK1 _ _ (sk fun K22 hK22 => (wt (oS rfl (Yk.alloc (cs := (Lib.byteCells (List.replicate 32 0)).toArray) wr49_al26 fun n23 w24 hn25 hb26 hx27 hs28 => ?_)))))))
 have hA29 := Ext.refl w11
 have hea30 := hE
 have hea31 := hA16
 have hz32 := hE.size
 have hz33 := hA16.size
 have hlt34 := lte (bl hb8) hn25
 have hlt35 := lte (bl hb20) hn25
 have hE := hE.trans hx27
 have hb8 := eb hx27 hb8
 have hA16 := hA16.trans hx27
 have hb20 := eb hx27 hb20
 have hA29 := hA29.trans hx27
 have hb36 := hb26; clear hb26
 have hl37 : n23 < w24.heap.size := by omega
 refine oZ (tN (hK22 _ _ (sk fun K38 hK38 => (sk fun K39 hK39 => (wt (oS rfl (Yk.cell1 wr49_ty9 rfl (vr (PQ n2 0) rfl) (cellAt hb8 (show _ = some (St (s) : Value) from rfl)) (oS rfl (Yk.lenSt (l := s) wr49_ty9 (vr (St (s)) rfl) (oS rfl (Yk.eqI (a := (s.length : Nat)) (b := (64 : Nat)) rfl rfl (k_neq _ _ _ _) (oZ (tN (hK39 _ _ ?_))))))))))))))
 refine wpF_cond ((s.length : Nat) ≠ (64)) (vr (.bool (decide ((s.length : Nat) ≠ (64)))) rfl) (fun h64 => ?_) (fun h64 => ?_)
 ·have hun := unhex_no (s := s) (fun h => h64 h.1)
  refine sk fun K40 hK40 => (wt (oS rfl (Yk.run (v := AB (List.replicate 32 0)) (by kernel_rfl) (oS rfl (Yk.storeAll (vr (PQ n10 0) rfl) (vr (AB (List.replicate 32 0)) rfl) hb20 (by first | rfl | (rw [List.size_toArray, Lib.byteCells_length, List.length_replicate];  rfl)) (by rw [List.size_toArray, Lib.byteCells_length, List.length_replicate]; exact wr49_isz26) (byteCells_one _) fun w41 hb42 hg43 hs44 => ?_)))))
  have hE := row_fresh hE hg43 (Nat.le_trans hz18 (by omega))
  have hb8 := kb hg43 hb8 (by omega)
  have hA16 := row_fresh hA16 hg43 (Nat.le_trans (Nat.le_refl _) (by omega))
  clear hA29
  have hb36 := kb hg43 hb36 (by omega)
  clear hb20
  have hb20 := hb42; clear hb42
  have hl45 := bl hb20
  refine oA rfl (oZ (tN (hK40 _ _ (wpF_ret (thenF_ret (postF_ret (fn := Tryd.f31) _ rfl [AB (List.replicate 32 0), .bool (false)] (.tuple #[AB (List.replicate 32 0), .bool (false)]) rfl ⟨ResF.row rfl hb20 wr49_ty26 rfl (by rw [List.size_toArray, Lib.byteCells_length]; first | (rw [List.length_replicate]; exact wr49_isz26) | (rw [pre_length _ _ (by omega)]; exact wr49_isz26)), rfl, trivial⟩ ?_))))))
  refine ⟨?_, hE⟩
  rw [hun]
 have hs64 : s.length = 64 := by omega
 refine wpF_skip (tN (hK38 _ _ (sk fun K46 hK46 => (wt (oS rfl (Yk.mkFunc (vs := #[PQ n2 0]) (by simp only [List.map_toArray, List.map_cons, List.map_nil]; exact congrArg List.toArray (list1 (vr (PQ n2 0) rfl))) (oA rfl (oZ (tN (hK46 _ _ (sk fun K47 hK47 => (sk fun K48 hK48 => (wt (oM rfl (oL_ [(0, St (s)), (1, PQ n2 0), (2, PQ n10 0), (3, .bool (false)), (4, PQ n23 0), (5, .func (.func 55) #[] #[PQ n2 0]), (14, NI 0)] ⟨T0, rfl, rfl, rfl, rfl, rfl, rfl, trivial⟩ fun ρ49 ⟨T0, T1, T2, T3, T4, T5, T14, _⟩ => (tN (hK48 _ _ (wpF_block (wpF_loop (fun (ρ : Slots) (wz : World) => ∃ i : Nat, ρ 0 = (St (s) : Value) ∧ ρ 1 = (PQ n2 0 : Value) ∧ ρ 2 = (PQ n10 0 : Value) ∧ ρ 4 = (PQ n23 0 : Value) ∧ ρ 5 = (.func (.func 55) #[] #[PQ n2 0] : Value) ∧ ρ 14 = (NI i : Value) ∧ Ext w wz ∧ wz.heap[n2]? = some (.cells (([St (s)] : List Value)).toArray 9 (0, 0)) ∧ Ext w3 wz ∧ wz.heap[n10]? = some (.cells (Lib.byteCells (List.replicate 32 0)).toArray 26 (0, 0)) ∧ Ext w11 wz ∧ wz.heap[n23]? = some (.cells (Lib.byteCells (pre s i)).toArray 26 (0, 0)) ∧ (i ≤ 32) ∧ (∀ j, j < i → okAt s j = true) ∧ True) (fun ρ _ => 32 - (intOf (ρ 14)).toNat) ⟨0, T0, T1, T2, T4, T5, T14, hE, hb8, hA16, hb20, hA29, blk_eq hb36 (rfl), Nat.zero_le _, fun j hj => by omega, trivial⟩ ?_)))))))))))))))))))
 clear hb36
 clear hE hb8 hA16 hb20 hA29
 rintro ρ50 w51 ⟨i, T0, T1, T2, T4, T5, T14, hE, hb8, hA16, hb20, hA29, hb36l, hi, hall, -⟩
 have q14 := T14
 have hpl := pre_length s i hi
 refine sk fun K52 hK52 => (wt (oS rfl (Yk.eqI (a := (i : Nat)) (b := (32 : Nat)) T14 rfl (k_lss _ _ _ _) (oZ (tN (hK52 _ _ (sk fun K53 hK53 => ?_)))))))
 refine wpF_cond ((i) < (32)) (vr (.bool (decide ((i) < (32)))) rfl) (fun hc1 => ?_) (fun hc1 => ?_)
 ·refine wpF_skip (tN (hK53 _ _ (sk fun K54 hK54 => (wpF_block (sk fun K55 hK55 => (wt (oM rfl (oA rfl (oZ (tN (hK55 _ _ (sk fun K56 hK56 => (wt (oM rfl (oM rfl (oS rfl (Yk.bin (xv := NI 2) (yv := NI i) rfl T14 rfl (i64_mul _ _ _ (by omega)) (oS rfl (Yk.clo wr49_pl55 (caps := #[PQ n2 0]) T5 #[NI ((2) * (i)), PQ n2 0] (by simp only [List.map_toArray, List.map_cons, List.map_nil, List.append_toArray, List.cons_append, List.nil_append]; exact congrArg List.toArray (list2 (vr (NI ((2) * (i))) rfl) rfl)) ?_)))))))))))))))))))
  refine (digit_any _ n2 s hb8 ((2) * (i)) (by omega)).mono ?_
  rintro e w58 ⟨rfl, hx57⟩
  refine ⟨_, rfl, ?_⟩
  have hE := hE.trans hx57
  have hb8 := eb hx57 hb8
  have hA16 := hA16.trans hx57
  have hb20 := eb hx57 hb20
  have hA29 := hA29.trans hx57
  have hb36l := eb hx57 hb36l
  refine oM rfl (oM rfl (oS rfl (Yk.bin (xv := NI 2) (yv := NI i) rfl T14 rfl (i64_mul _ _ _ (by omega)) (oS rfl (Yk.bin (xv := NI ((2) * (i))) (yv := NI 1) rfl rfl rfl (i64_add _ _ _ (by omega)) (oS rfl (Yk.clo wr49_pl55 (caps := #[PQ n2 0]) T5 #[NI (((2) * (i)) + (1)), PQ n2 0] (by simp only [List.map_toArray, List.map_cons, List.map_nil, List.append_toArray, List.cons_append, List.nil_append]; exact congrArg List.toArray (list2 (vr (NI (((2) * (i)) + (1))) rfl) rfl)) ((digit_any _ n2 s hb8 (((2) * (i)) + (1)) (by omega)).mono ?_))))))))
  rintro e w60 ⟨rfl, hx59⟩
  refine ⟨_, rfl, ?_⟩
  have hE := hE.trans hx59
  have hb8 := eb hx59 hb8
  have hA16 := hA16.trans hx59
  have hb20 := eb hx59 hb20
  have hA29 := hA29.trans hx59
  have hb36l := eb hx59 hb36l
  refine oA rfl (oA rfl (oL_ [(0, St (s)), (1, PQ n2 0), (2, PQ n10 0), (4, PQ n23 0), (5, .func (.func 55) #[] #[PQ n2 0]), (6, NI i), (7, .int .i64 (dgI (s.getD (2 * i) 0) : Int)), (8, .int .i64 (dgI (s.getD (2 * i + 1) 0) : Int)), (14, NI i)] ⟨T0, T1, T2, T4, T5, T14, rfl, rfl, T14, trivial⟩ fun ρ61 ⟨T0, T1, T2, T4, T5, T6, T7, T8, T14, _⟩ => ?_))
  obtain ⟨x1, hx1⟩ : ∃ x, x = dg (s.getD (2 * i) 0) := ⟨_, rfl⟩
  obtain ⟨x2, hx2⟩ : ∃ x, x = dg (s.getD (2 * i + 1) 0) := ⟨_, rfl⟩
  rcases x1 with _ | k1
  ·have hno : okAt s i = false := by unfold okAt; rw [← hx1]; rfl
   have T7 := T7.trans (show Value.int .i64 (dgI (s.getD (2 * i) 0)) = .int .i64 (-1) by unfold dgI; rw [← hx1])
   refine tN (hK56 _ _ (sk fun K62 hK62 => (sk fun K63 hK63 => (wt (oM rfl (oS rfl (Yk.eqI T7 (vr (NI 0) rfl) (z_lss _ .i64 (-1 : Int) ((0 : Nat) : Int)) (oM rfl (oN (d := 28) rfl rfl rfl (vr (.bool (true)) (congrArg Value.bool (decide_eq_true (by decide)))) rfl (oN (d := 28) rfl rfl rfl (vr (.bool (true)) (congrArg Value.bool (decide_eq_true (by decide)))) rfl (oS rfl (Yk.pickT (vr (.bool (true)) (congrArg Value.bool (decide_eq_true (by decide)))) (vr (.bool (true)) rfl) (oZ (tN (hK63 _ _ (wpF_true (vr (.bool (true)) rfl) (sk fun K64 hK64 => (wt (oS rfl (Yk.run (v := AB (List.replicate 32 0)) (by kernel_rfl) ?_))))))))))))))))))))
   refine oS rfl (Yk.storeAll T2 (vr (AB (List.replicate 32 0)) rfl) hb20 (by first | rfl | (rw [List.size_toArray, Lib.byteCells_length, List.length_replicate];  rfl)) (by rw [List.size_toArray, Lib.byteCells_length, List.length_replicate]; exact wr49_isz26) (byteCells_one _) fun w65 hb66 hg67 hs68 => ?_)
   have hE := row_fresh hE hg67 (Nat.le_trans hz18 (by omega))
   have hb8 := kb hg67 hb8 (by omega)
   have hA16 := row_fresh hA16 hg67 (Nat.le_trans (Nat.le_refl _) (by omega))
   clear hA29
   have hb36l := kb hg67 hb36l (by omega)
   clear hb20
   have hb20 := hb66; clear hb66
   have hl69 := bl hb20
   refine oA rfl (oZ ?_)
   have hun := unhex_no (s := s) (fun h => by have := List.all_eq_true.1 h.2 i (by simp; omega); rw [hno] at this; cases this)
   refine tN (hK64 _ _ (wpF_ret (thenF_ret (inBlockF_ret (thenF_ret (thenF_ret (inBlockF_ret (thenF_ret (postF_ret (fn := Tryd.f31) _ rfl [AB (List.replicate 32 0), .bool (false)] (.tuple #[AB (List.replicate 32 0), .bool (false)]) rfl ⟨ResF.row T2 hb20 wr49_ty26 rfl (by rw [List.size_toArray, Lib.byteCells_length]; first | (rw [List.length_replicate]; exact wr49_isz26) | (rw [pre_length _ _ (by omega)]; exact wr49_isz26)), rfl, trivial⟩ ?_)))))))))
   refine ⟨?_, hE⟩
   rw [hun]
  have hd1 := hx1.symm
  have hk1 := dg_lt hd1
  have T7 := T7.trans (show Value.int .i64 (dgI (s.getD (2 * i) 0)) = NI k1 by unfold dgI; rw [← hx1])
  rcases x2 with _ | k2
  ·have hno : okAt s i = false := by unfold okAt; rw [← hx2]; simp
   have T8 := T8.trans (show Value.int .i64 (dgI (s.getD (2 * i + 1) 0)) = .int .i64 (-1) by unfold dgI; rw [← hx2])
   refine tN (hK56 _ _ (sk fun K70 hK70 => (sk fun K71 hK71 => (wt (oM rfl (oS rfl (Yk.eqI (a := (k1 : Nat)) (b := (0 : Nat)) T7 rfl (k_lss _ _ _ _) (oM rfl (oY (d := 28) rfl rfl (vr (.bool (false)) (congrArg Value.bool (decide_eq_false (by omega)))) (Yk.move T8 (oY (d := 28) rfl rfl (vr (.bool (false)) (congrArg Value.bool (decide_eq_false (by omega)))) (Yk.eqI (vr (.int .i64 (-1 : Int)) rfl) (vr (NI 0) rfl) (z_lss _ .i64 (-1 : Int) ((0 : Nat) : Int)) (oS rfl (Yk.pickF (vr (.bool (false)) (congrArg Value.bool (decide_eq_false (by omega)))) (vr (.bool (true)) (congrArg Value.bool (decide_eq_true (by decide)))) (oZ (tN (hK71 _ _ (wpF_true (vr (.bool (true)) rfl) (sk fun K72 hK72 => (wt (oS rfl (Yk.run (v := AB (List.replicate 32 0)) (by kernel_rfl) ?_))))))))))))))))))))))
   refine oS rfl (Yk.storeAll T2 (vr (AB (List.replicate 32 0)) rfl) hb20 (by first | rfl | (rw [List.size_toArray, Lib.byteCells_length, List.length_replicate];  rfl)) (by rw [List.size_toArray, Lib.byteCells_length, List.length_replicate]; exact wr49_isz26) (byteCells_one _) fun w73 hb74 hg75 hs76 => ?_)
   have hE := row_fresh hE hg75 (Nat.le_trans hz18 (by omega))
   have hb8 := kb hg75 hb8 (by omega)
   have hA16 := row_fresh hA16 hg75 (Nat.le_trans (Nat.le_refl _) (by omega))
   clear hA29
   have hb36l := kb hg75 hb36l (by omega)
   clear hb20
   have hb20 := hb74; clear hb74
   have hl77 := bl hb20
   refine oA rfl (oZ ?_)
   have hun := unhex_no (s := s) (fun h => by have := List.all_eq_true.1 h.2 i (by simp; omega); rw [hno] at this; cases this)
   refine tN (hK72 _ _ (wpF_ret (thenF_ret (inBlockF_ret (thenF_ret (thenF_ret (inBlockF_ret (thenF_ret (postF_ret (fn := Tryd.f31) _ rfl [AB (List.replicate 32 0), .bool (false)] (.tuple #[AB (List.replicate 32 0), .bool (false)]) rfl ⟨ResF.row T2 hb20 wr49_ty26 rfl (by rw [List.size_toArray, Lib.byteCells_length]; first | (rw [List.length_replicate]; exact wr49_isz26) | (rw [pre_length _ _ (by omega)]; exact wr49_isz26)), rfl, trivial⟩ ?_)))))))))
   refine ⟨?_, hE⟩
   rw [hun]
  have hd2 := hx2.symm
  have hk2 := dg_lt hd2
  have T8 := T8.trans (show Value.int .i64 (dgI (s.getD (2 * i + 1) 0)) = NI k2 by unfold dgI; rw [← hx2])
  refine tN (hK56 _ _ (sk fun K78 hK78 => (sk fun K79 hK79 => (wt (oM rfl (oS rfl (Yk.eqI (a := (k1 : Nat)) (b := (0 : Nat)) T7 rfl (k_lss _ _ _ _) (oM rfl (oY (d := 28) rfl rfl (vr (.bool (false)) (congrArg Value.bool (decide_eq_false (by omega)))) (Yk.move T8 (oY (d := 28) rfl rfl (vr (.bool (false)) (congrArg Value.bool (decide_eq_false (by omega)))) (Yk.eqI (a := (k2 : Nat)) (b := (0 : Nat)) rfl rfl (k_lss _ _ _ _) (oS rfl (Yk.pickF (vr (.bool (false)) (congrArg Value.bool (decide_eq_false (by omega)))) (vr (.bool (false)) (congrArg Value.bool (decide_eq_false (by omega)))) (oZ (tN (hK79 _ _ (wpF_false (vr (.bool (false)) rfl) (wpF_skip (tN (hK78 _ _ (wt ?_))))))))))))))))))))))
  refine oM rfl (oM rfl (oS rfl (Yk.bin (xv := NI k1) (yv := .int .u64 ((4 : Nat) : Int)) T7 rfl rfl (i64_shl _ _ _ _ (by omega) (by omega)) (oM rfl (oS rfl (Yk.bin (xv := NI ((k1) * 2 ^ (4))) (yv := NI k2) rfl T8 rfl (i64_or _ _ _ (by omega) (by omega)) (oS rfl (Yk.convI wr49_ty3 wr49_ty5 (vr (NI (((k1) * 2 ^ (4)) ||| (k2))) rfl) (toByte (((k1) * 2 ^ (4)) ||| (k2))) (oS rfl (Yk.atArr0 (i := i) wr49_ty26 wr49_sz5 T4 T6 (by omega) (oS rfl (Yk.storeB8 (i := i) (v := UInt8.ofNat (((k1) * 2 ^ (4)) ||| (k2))) (vr (PQ n23 i) rfl) (vr (B8 (UInt8.ofNat (((k1) * 2 ^ (4)) ||| (k2)))) rfl) hb36l (by rw [hpl]; omega) wr49_isz5 fun w80 hb81 hg82 hs83 => ?_))))))))))))
  have hE := row_fresh hE hg82 (Nat.le_trans hz32 (by omega))
  have hb8 := kb hg82 hb8 (by omega)
  have hA16 := row_fresh hA16 hg82 (Nat.le_trans hz33 (by omega))
  have hb20 := kb hg82 hb20 (by omega)
  have hA29 := row_fresh hA29 hg82 (Nat.le_trans (Nat.le_refl _) (by omega))
  clear hb36l
  have hb36l := hb81; clear hb81
  have hl84 := bl hb36l
  refine oZ (bN (tN (hK54 _ _ (wt (oS rfl (Yk.bin (xv := NI i) (yv := NI 1) T14 rfl rfl (i64_add _ _ _ (by omega)) (oM rfl (oL_ [(0, St (s)), (1, PQ n2 0), (2, PQ n10 0), (4, PQ n23 0), (5, .func (.func 55) #[] #[PQ n2 0]), (6, NI i), (7, NI k1), (8, NI k2), (14, NI ((i) + (1))), (31, .bool (false))] ⟨T0, T1, T2, T4, T5, T6, T7, T8, rfl, rfl, trivial⟩ fun ρ85 ⟨T0, T1, T2, T4, T5, T6, T7, T8, T14, T31, _⟩ => (tN (And.intro ⟨i + 1, T0, T1, T2, T4, T5, T14, hE, hb8, hA16, hb20, hA29, blk_eq hb36l (congrArg Lib.byteCells (by rw [← pre_step s i (by omega), byteAt_or hd1 hd2 hk2])), by omega, ok_next hall hd1 hd2, trivial⟩ ?_))))))))))
  show 32 - (intOf (ρ85 14)).toNat < 32 - (intOf (ρ50 14)).toNat
  rw [T14, q14]
  simp only [intOf, Int.toNat_natCast]; omega
 have hi32 : i = 32 := by omega
 have hun : unhex s = (pre s i, true) := by rw [hi32, pre_all]; exact unhex_yes hs64 (fun j hj => hall j (by omega))
 refine wpF_exit (thenF_exit (thenF_exit (inBlockF_hit (tN (hK47 _ _ (sk fun K86 hK86 => (wt (oS rfl (Yk.loadAll T4 hb36l wr49_ty26 rfl (by rw [List.size_toArray, Lib.byteCells_length, pre_length _ _ (by omega)]; exact wr49_isz26) (oS rfl (Yk.storeAll T2 (vr (AB (pre s i)) rfl) hb20 (by first | rfl | (rw [List.size_toArray, Lib.byteCells_length, pre_length _ _ (by omega)];  rfl)) (by rw [List.size_toArray, Lib.byteCells_length, pre_length _ _ (by omega)]; exact wr49_isz26) (byteCells_one _) fun w87 hb88 hg89 hs90 => ?_)))))))))))
 have hE := row_fresh hE hg89 (Nat.le_trans hz18 (by omega))
 have hb8 := kb hg89 hb8 (by omega)
 have hA16 := row_fresh hA16 hg89 (Nat.le_trans (Nat.le_refl _) (by omega))
 clear hA29
 have hb36l := kb hg89 hb36l (by omega)
 clear hb20
 have hb20 := hb88; clear hb88
 have hl91 := bl hb20
 refine oA rfl (oZ (tN (hK86 _ _ (wpF_ret (postF_ret (fn := Tryd.f31) _ rfl [AB (pre s i), .bool (true)] (.tuple #[AB (pre s i), .bool (true)]) rfl ⟨ResF.row T2 hb20 wr49_ty26 rfl (by rw [List.size_toArray, Lib.byteCells_length]; first | (rw [List.length_replicate]; exact wr49_isz26) | (rw [pre_length _ _ (by omega)]; exact wr49_isz26)), rfl, trivial⟩ ?_)))))
 refine ⟨?_, hE⟩
 rw [hun]

open Go.RowKit
set_option maxRecDepth 100000
theorem bcmp {vx vy : Value} {x y : Bs} {w : World} (hx : RB w vx x) (hy : RB w vy y) : (callFunc 93 #[vx, vy]).run Tryd.prog w = .ok (.value (.int .i64 (Lib.compareBytes x y))) w := by
 rw [run_callFunc_extern (e := Extern.BytealgCompare.compare) Tryd.func93 (by kernel_rfl) (by kernel_rfl) (by kernel_rfl) (by kernel_rfl), run_compareRB hx hy]
 rfl
theorem pk4_ty26 : Tryd.prog.underlying 26 = some (.array 32 5) := by kernel_rfl
theorem pk4_sz5 : ∀ w' : World, (sizeOf 5).run Tryd.prog w' = .ok 1 w' := fun _ => by kernel_rfl
theorem pk4_pl79 : Plain Tryd.prog 79 := fun _ _ => by kernel_rfl
theorem bytesCompare_any (w : World) (vx vy : Value) (x y : Bs) (hx : RB w vx x) (hy : RB w vy y) :
  Calls Tryd.prog 79 #[vx, vy] w fun e w' => e = .returned (.int .i64 (Lib.compareBytes x y)) ∧ Ext w w' := by
 refine calls_of_wpF (args := [vx, vy]) Tryd.func79 rfl 8 rfl (Nat.le_of_ble_eq_true rfl) ?_
 intro ρ0 hb
 have T0 : ρ0 0 = (vx : Value) := hb.get 0
 have T1 : ρ0 1 = (vy : Value) := hb.get 1
 clear hb
 have hE := Ext.refl w
 refine sk fun K1 hK1 => (wt (oA rfl (oZ (tN (hK1 _ _ (sk fun K2 hK2 => (wt (oM rfl (oM rfl (oS rfl (Yk.extern2 T0 T1 (bcmp (hx.keep hE) (hy.keep hE)) (oA rfl (oZ (tN (hK2 _ _ (wpF_ret (postF_ret (fn := Tryd.f79) _ rfl [.int .i64 (Lib.compareBytes x y : Int)] (.int .i64 (Lib.compareBytes x y : Int)) rfl ⟨rfl, trivial⟩ ?_)))))))))))))))))
 exact ⟨rfl, hE⟩

theorem compare_any (w : World) (x y : Bs) (hxl : x.length = 32) (hyl : y.length = 32) :
  Calls Tryd.prog 71 #[AB x, AB y] w fun e w' => e = .returned (.int .i64 (Lib.compareBytes x y)) ∧ Ext w w' := by
 refine calls_of_wpF (args := [AB x, AB y]) Tryd.func71 rfl 8 rfl (Nat.le_of_ble_eq_true rfl) ?_
 intro ρ0 hb
 have T0 : ρ0 0 = (AB x : Value) := hb.get 0
 have T1 : ρ0 1 = (AB y : Value) := hb.get 1
 clear hb
 have hE := Ext.refl w
 refine sk fun K1 hK1 => (wt (oS rfl (Yk.box (cs := (Lib.byteCells x : List Value).toArray) T0 fun n2 w3 hn4 hb5 hx6 hs7 => ?_)))
 have hE := hE.trans hx6
 have hb8 := hb5; clear hb5
 have hl9 : n2 < w3.heap.size := by omega
 refine oS rfl (Yk.box (cs := (Lib.byteCells y : List Value).toArray) T1 fun n10 w11 hn12 hb13 hx14 hs15 => ?_)
 have hA16 := Ext.refl w3
 have hea17 := hE
 have hz18 := hE.size
 have hlt19 := lte (bl hb8) hn12
 have hE := hE.trans hx14
 have hb8 := eb hx14 hb8
 have hA16 := hA16.trans hx14
 have hb20 := hb13; clear hb13
 have hl21 : n10 < w11.heap.size := by omega
 refine oA rfl (oZ (tN (hK1 _ _ (sk fun K22 hK22 => ?_))))
 refine wpF_draw [Is (.slice (some ⟨n2, 0, none⟩) 32 32), Is (.slice (some ⟨n10, 0, none⟩) 32 32), Is (.int .i64 (Lib.compareBytes x y : Int)), Is (.int .i64 (Lib.compareBytes x y : Int))] (by kernel_rfl) [5, 6, 7, 4] (by kernel_rfl) (by kernel_rfl) (si4 trivial) ?hs1001 ?hQ1001
 case hs1001 =>
  refine ⟨?_, ?_, ?_, ?_, trivial⟩
  ·refine stepN rfl fun σ w1 hC h => ?_
   have e2 : σ 2 = PQ n2 0 := (eqo (h 2 (by decide))).trans rfl
   exact Yk.sliceArr pk4_ty26 pk4_sz5 e2 ⟨Ext.refl _, rfl⟩
  ·refine stepN rfl fun σ w1 hC h => ?_
   have e3 : σ 3 = PQ n10 0 := (eqo (h 3 (by decide))).trans rfl
   exact Yk.sliceArr pk4_ty26 pk4_sz5 e3 ⟨Ext.refl _, rfl⟩
  ·refine stepN rfl fun σ w1 hC h => ?_
   have e5 := eqo (h 5 (by decide))
   have e6 := eqo (h 6 (by decide))
   refine Yk.callA2 pk4_pl79 e5 e6 ((bytesCompare_any _ _ _ x y (RB.ofBlkN (eb hC hb8) hxl (by decide)) (RB.ofBlkN (eb hC hb20) hyl (by decide))).mono ?_)
   rintro e w2 ⟨rfl, hx⟩
   exact ⟨_, rfl, hx, rfl⟩
  ·refine stepN rfl fun σ w1 hC h => ?_
   have e7 := eqo (h 7 (by decide))
   exact Yk.assign e7 ⟨Ext.refl _, rfl⟩
 intro ρ23 w24 hx25 he hf
 obtain ⟨-, -, -, k4, -⟩ := hf
 obtain ⟨T0, T1, T2, T3, -⟩ := he.hold [(0, _), (1, _), (2, PQ n2 0), (3, PQ n10 0)] ⟨T0, T1, rfl, rfl, trivial⟩ rfl
 clear he
 have hE := hE.trans hx25
 have hb8 := eb hx25 hb8
 have hA16 := hA16.trans hx25
 have hb20 := eb hx25 hb20
 have T4 : ρ23 4 = .int .i64 (Lib.compareBytes x y : Int) := k4
 clear k4
 refine tN (hK22 _ _ (wpF_ret (postF_ret (fn := Tryd.f71) _ rfl [.int .i64 (Lib.compareBytes x y : Int)] (.int .i64 (Lib.compareBytes x y : Int)) rfl ⟨T4, trivial⟩ ?_)))
 exact ⟨rfl, hE⟩
open Go.RowKit
set_option maxRecDepth 100000
theorem pk6_ty31 : Tryd.prog.underlying 31 = some (.slice 26) := by kernel_rfl
theorem pk6_ig26 : ∃ z, (Tryd.prog.info? 26).map (fun i => (i.zero, i.size, i.bytes)) = some (some z, 32, 32) ∧ z.cells.size = 32 := info_ex (by kernel_rfl)
theorem pk6_szg26 : ∀ w' : World, (sizeOf 26).run Tryd.prog w' = .ok 32 w' := fun _ => by kernel_rfl
theorem pk6_pl70 : Plain Tryd.prog 70 := fun _ _ => by kernel_rfl
theorem pk6_ty26 : Tryd.prog.underlying 26 = some (.array 32 5) := by kernel_rfl
theorem pk6_isz26 : (Tryd.prog.info? 26).map (·.size) = some 32 := by kernel_rfl
theorem pk6_pl71 : Plain Tryd.prog 71 := fun _ _ => by kernel_rfl
theorem pk6_lh31 (c0 c1 c2 c3 c4 c5 c6 c7 c8 c9 c10 c11 c12 c13 c14 c15 c16 c17 c18 c19 c20 c21 c22 c23 c24 c25 c26 c27 c28 c29 c30 c31 : Value) (w : World) : (Instr.buildSlice 31 1 #[(0, .agg #[c0, c1, c2, c3, c4, c5, c6, c7, c8, c9, c10, c11, c12, c13, c14, c15, c16, c17, c18, c19, c20, c21, c22, c23, c24, c25, c26, c27, c28, c29, c30, c31])]).run Tryd.prog w = .ok (.slice (some ⟨w.heap.size, 0, none⟩) 1 1) (w.alloc (.cells #[c0, c1, c2, c3, c4, c5, c6, c7, c8, c9, c10, c11, c12, c13, c14, c15, c16, c17, c18, c19, c20, c21, c22, c23, c24, c25, c26, c27, c28, c29, c30, c31] 26)) := by kernel_rfl
theorem pk6_lg31 : ∀ (cs : Array Value), cs.size = 32 → ∀ w : World, (Instr.buildSlice 31 1 #[(0, .agg cs)]).run Tryd.prog w = .ok (.slice (some ⟨w.heap.size, 0, none⟩) 1 1) (w.alloc (.cells cs 26))
 | ⟨[c0, c1, c2, c3, c4, c5, c6, c7, c8, c9, c10, c11, c12, c13, c14, c15, c16, c17, c18, c19, c20, c21, c22, c23, c24, c25, c26, c27, c28, c29, c30, c31]⟩, _, w => pk6_lh31 c0 c1 c2 c3 c4 c5 c6 c7 c8 c9 c10 c11 c12 c13 c14 c15 c16 c17 c18 c19 c20 c21 c22 c23 c24 c25 c26 c27 c28 c29 c30 c31 w
theorem merge_step (n : Nat) (ih : ∀ l : List Bs, l.length < n → ∀ (w : World) (v : Value), RG 32 Lib.byteCells w v l → Calls Tryd.prog 70 #[v, .func (.func 71) #[] #[]] w fun e w' => ∃ v' m, e = .returned v' ∧ OG w.heap.size 26 32 Lib.byteCells w' v' m ∧ m.Perm l ∧ Asc m ∧ Ext w w') (l : List Bs) (hn : l.length = n) (hlim : l.length ≤ 1048576) (w : World) (v : Value) (hr : RG 32 Lib.byteCells w v l) :
  Calls Tryd.prog 70 #[v, .func (.func 71) #[] #[]] w fun e w' => ∃ v' m, e = .returned v' ∧ OG w.heap.size 26 32 Lib.byteCells w' v' m ∧ m.Perm l ∧ Asc m ∧ Ext w w' := by
 refine calls_of_wpF (args := [v, .func (.func 71) #[] #[]]) Tryd.func70 rfl 68 rfl (Nat.le_of_ble_eq_true rfl) ?_
 intro ρ0 hb
 have T0 : ρ0 0 = (v : Value) := hb.get 0
 have T1 : ρ0 1 = (.func (.func 71) #[] #[] : Value) := hb.get 1
 clear hb
 have hE := Ext.refl w
 refine sk fun K1 hK1 => (wt (oA rfl (oZ (tN (hK1 _ _ (sk fun K2 hK2 => (sk fun K3 hK3 => (wt (oM rfl (oS rfl (Yk.lenRG pk6_ty31 (RG.of hr T0) (oS rfl (Yk.eqI (a := (l.length : Nat)) (b := (2 : Nat)) rfl rfl (k_lss _ _ _ _) (oZ (tN (hK3 _ _ ?_))))))))))))))))
 refine wpF_cond ((l.length) < (2)) (vr (.bool (decide ((l.length) < (2)))) rfl) (fun hc0 => ?_) (fun hc0 => ?_)
 ·refine sk fun K4 hK4 => (wt (oM rfl (oS rfl (Yk.appendRG _ _ w.heap.size _ 32 pk6_ty31 pk6_ig26.choose_spec.1 pk6_ig26.choose_spec.2 pk6_ty31 ([]) (l) (RG.nilOwn _ _ _) (RG.of hr T0) (fun _ _ => byteCells_one _) (by simp only [List.length_nil]; omega) (by simp only [List.length_nil]; omega) hE.size fun v5 w6 ho7 hg8 => ?_))))
  have hg8 : Grew w w6 (.slice none 0 0) v5 := hg8
  have hx_ : Ext w w6 := Ext.of (by have := hg8.by_; exact this)
  have hE := hE.trans hx_
  refine oA rfl (oZ (tN (hK4 _ _ (wpF_ret (thenF_ret (postF_ret (fn := Tryd.f70) _ rfl [v5] (v5) rfl ⟨rfl, trivial⟩ ?_))))))
  exact ⟨_, l, rfl, OG.base (og_eq ho7 (List.nil_append l)) (by omega), List.Perm.refl _, asc_short hc0, hE⟩
 refine wpF_skip (tN (hK2 _ _ (sk fun K9 hK9 => ?_)))
 refine wpF_draw [Is (v), Is (v), Is (NI l.length), Is (NI ((l.length) / (2))), fun x _ => RG 32 (Lib.byteCells) w x (l.take ((l.length) / (2))), Is (.func (.func 71) #[] #[]), fun x w' => ∃ m, RG 32 Lib.byteCells w' x m ∧ m.Perm (l.take ((l.length) / (2))) ∧ Asc m, Is (v), Is (v), Is (NI l.length), Is (NI ((l.length) / (2))), fun x _ => RG 32 (Lib.byteCells) w x (l.drop ((l.length) / (2))), Is (.func (.func 71) #[] #[]), fun x w' => ∃ m, RG 32 Lib.byteCells w' x m ∧ m.Perm (l.drop ((l.length) / (2))) ∧ Asc m, fun x w' => ∃ m, RG 32 Lib.byteCells w' x m ∧ m.Perm (l.take ((l.length) / (2))) ∧ Asc m, fun x w' => ∃ m, RG 32 Lib.byteCells w' x m ∧ m.Perm (l.drop ((l.length) / (2))) ∧ Asc m] (by kernel_rfl) [13, 14, 15, 16, 17, 18, 19, 20, 21, 22, 23, 24, 25, 26, 5, 6] (by kernel_rfl) (by kernel_rfl) (si4 ⟨(fun _ _ _ h _ => h), Stab.is _, (fun _ _ _ ⟨m, h1, h2⟩ k => ⟨m, h1.keep k, h2⟩), (si4 ⟨(fun _ _ _ h _ => h), Stab.is _, (fun _ _ _ ⟨m, h1, h2⟩ k => ⟨m, h1.keep k, h2⟩), (fun _ _ _ ⟨m, h1, h2⟩ k => ⟨m, h1.keep k, h2⟩), (fun _ _ _ ⟨m, h1, h2⟩ k => ⟨m, h1.keep k, h2⟩), trivial⟩)⟩) ?hs1003 ?hQ1003
 case hs1003 =>
  refine ⟨?_, ?_, ?_, ?_, ?_, ?_, ?_, ?_, ?_, ?_, ?_, ?_, ?_, ?_, ?_, ?_, trivial⟩
  ·refine stepN rfl fun σ w1 hC h => ?_
   have e0 := (eqo (h 0 (by decide))).trans T0
   exact Yk.move e0 ⟨Ext.refl _, rfl⟩
  ·refine stepN rfl fun σ w1 hC h => ?_
   have e0 := (eqo (h 0 (by decide))).trans T0
   exact Yk.move e0 ⟨Ext.refl _, rfl⟩
  ·refine stepN rfl fun σ w1 hC h => ?_
   have e14 := eqo (h 14 (by decide))
   exact Yk.lenRG pk6_ty31 (RG.of (hr.keep hC) e14) ⟨Ext.refl _, rfl⟩
  ·refine stepN rfl fun σ w1 hC h => ?_
   have e15 := eqo (h 15 (by decide))
   exact Yk.bin (xv := NI l.length) (yv := NI 2) e15 rfl rfl (i64_quo _ _ _ (by omega) (by omega)) ⟨Ext.refl _, rfl⟩
  ·refine stepN rfl fun σ w1 hC h => ?_
   have e13 := eqo (h 13 (by decide))
   have e16 := eqo (h 16 (by decide))
   exact Yk.sliceHiW pk6_ty31 pk6_szg26 e13 hr e16 (by omega) fun v h _ => ⟨Ext.refl _, h⟩
  ·refine stepN rfl fun σ w1 hC h => ?_
   have e1 := (eqo (h 1 (by decide))).trans T1
   exact Yk.move e1 ⟨Ext.refl _, rfl⟩
  ·refine stepN rfl fun σ w1 hC h => ?_
   have e17 : (fun x _ => RG 32 (Lib.byteCells) w x (l.take ((l.length) / (2)))) (σ 17) w1 := h 17 (by decide)
   have e18 := eqo (h 18 (by decide))
   refine Yk.callA2 pk6_pl70 rfl e18 ((ih (l.take ((l.length) / (2))) (by have hlen_ := List.length_take_le (l.length / 2) l; first | (simp only [List.length_take]; omega) | (simp only [List.length_drop]; omega)) _ _ (RG.keep e17 hC)).mono ?_)
   rintro e w2 ⟨_, m, rfl, h1, h2, h3, h4⟩
   exact ⟨_, rfl, h4, m, RG.ofOwn h1, h2, h3⟩
  ·refine stepN rfl fun σ w1 hC h => ?_
   have e0 := (eqo (h 0 (by decide))).trans T0
   exact Yk.move e0 ⟨Ext.refl _, rfl⟩
  ·refine stepN rfl fun σ w1 hC h => ?_
   have e0 := (eqo (h 0 (by decide))).trans T0
   exact Yk.move e0 ⟨Ext.refl _, rfl⟩
  ·refine stepN rfl fun σ w1 hC h => ?_
   have e21 := eqo (h 21 (by decide))
   exact Yk.lenRG pk6_ty31 (RG.of (hr.keep hC) e21) ⟨Ext.refl _, rfl⟩
  ·refine stepN rfl fun σ w1 hC h => ?_
   have e22 := eqo (h 22 (by decide))
   exact Yk.bin (xv := NI l.length) (yv := NI 2) e22 rfl rfl (i64_quo _ _ _ (by omega) (by omega)) ⟨Ext.refl _, rfl⟩
  ·refine stepN rfl fun σ w1 hC h => ?_
   have e20 := eqo (h 20 (by decide))
   have e23 := eqo (h 23 (by decide))
   exact Yk.sliceLoW pk6_ty31 pk6_szg26 e20 hr e23 (by omega) fun v h _ => ⟨Ext.refl _, h⟩
  ·refine stepN rfl fun σ w1 hC h => ?_
   have e1 := (eqo (h 1 (by decide))).trans T1
   exact Yk.move e1 ⟨Ext.refl _, rfl⟩
  ·refine stepN rfl fun σ w1 hC h => ?_
   have e24 : (fun x _ => RG 32 (Lib.byteCells) w x (l.drop ((l.length) / (2)))) (σ 24) w1 := h 24 (by decide)
   have e25 := eqo (h 25 (by decide))
   refine Yk.callA2 pk6_pl70 rfl e25 ((ih (l.drop ((l.length) / (2))) (by have hlen_ := List.length_take_le (l.length / 2) l; first | (simp only [List.length_take]; omega) | (simp only [List.length_drop]; omega)) _ _ (RG.keep e24 hC)).mono ?_)
   rintro e w2 ⟨_, m, rfl, h1, h2, h3, h4⟩
   exact ⟨_, rfl, h4, m, RG.ofOwn h1, h2, h3⟩
  ·refine stepN rfl fun σ w1 hC h => ?_
   have e19 : (fun x w' => ∃ m, RG 32 Lib.byteCells w' x m ∧ m.Perm (l.take ((l.length) / (2))) ∧ Asc m) (σ 19) w1 := h 19 (by decide)
   exact Yk.assign rfl ⟨Ext.refl _, e19⟩
  ·refine stepN rfl fun σ w1 hC h => ?_
   have e26 : (fun x w' => ∃ m, RG 32 Lib.byteCells w' x m ∧ m.Perm (l.drop ((l.length) / (2))) ∧ Asc m) (σ 26) w1 := h 26 (by decide)
   exact Yk.assign rfl ⟨Ext.refl _, e26⟩
 intro ρ10 w11 hx12 he hf
 obtain ⟨-, -, -, -, -, -, -, -, -, -, -, -, -, -, k5, k6, -⟩ := hf
 obtain ⟨T0, T1, T4, -⟩ := he.hold [(0, _), (1, _), (4, (Value.slice none 0 0))] ⟨T0, T1, rfl, trivial⟩ rfl
 clear he
 have hr := hr.keep hx12
 have hE := hE.trans hx12
 have k5 : (fun x w' => ∃ m, RG 32 Lib.byteCells w' x m ∧ m.Perm (l.take ((l.length) / (2))) ∧ Asc m) (ρ10 5) w11 := k5
 obtain ⟨v13, T5⟩ : ∃ v, ρ10 5 = v := ⟨_, rfl⟩
 rw [T5] at k5
 have hk14 := k5; clear k5
 obtain ⟨A, hr15, hp16, ha17⟩ := hk14
 have k6 : (fun x w' => ∃ m, RG 32 Lib.byteCells w' x m ∧ m.Perm (l.drop ((l.length) / (2))) ∧ Asc m) (ρ10 6) w11 := k6
 obtain ⟨v18, T6⟩ : ∃ v, ρ10 6 = v := ⟨_, rfl⟩
 rw [T6] at k6
 have hk19 := k6; clear k6
 obtain ⟨B, hr20, hp21, ha22⟩ := hk19
 refine tN (hK9 _ _ (sk fun K23 hK23 => (wt (oM rfl (oS rfl (Yk.lenRG pk6_ty31 (RG.of hr T0) ?_))))))
 have hA28 := Ext.refl w11
 have hea29 := hE
 have hz30 := hE.size
 refine oS rfl (Yk.makeG (enc := Lib.byteCells) w11.heap.size _ 32 pk6_ty31 pk6_ig26.choose_spec.1 (vr (NI 0) rfl) (vr (NI l.length) rfl) (by omega) (by omega) (Nat.le_refl _) fun v24 w25 ho26 hx27 => ?_)
 have hE := hE.trans hx27
 have hA28 := hA28.trans hx27
 refine oA rfl (oL_ [(0, v), (1, .func (.func 71) #[] #[]), (4, (Value.slice none 0 0)), (5, v13), (6, v18), (7, v24)] ⟨T0, T1, T4, T5, T6, rfl, trivial⟩ fun ρ31 ⟨T0, T1, T4, T5, T6, T7, _⟩ => (tN (hK23 _ _ (sk fun K32 hK32 => (wpF_block (wpF_loop (fun (ρ : Slots) (wz : World) => ∃ va : Value, ∃ vb : Value, ∃ Al : List Bs, ∃ Bl : List Bs, ∃ Ol : List Bs, ∃ vo : Value, ρ 0 = (v : Value) ∧ ρ 1 = (.func (.func 71) #[] #[] : Value) ∧ ρ 4 = ((Value.slice none 0 0) : Value) ∧ ρ 5 = (va : Value) ∧ ρ 6 = (vb : Value) ∧ ρ 7 = (vo : Value) ∧ Ext w wz ∧ Ext w11 wz ∧ RG 32 Lib.byteCells w11 va Al ∧ RG 32 Lib.byteCells w11 vb Bl ∧ OG w11.heap.size 26 32 (Lib.byteCells) wz vo Ol ∧ (MI l Ol Al Bl) ∧ True) (fun ρ _ => sliceLen (ρ 5) + sliceLen (ρ 6)) ⟨v13, v18, A, B, [], v24, T0, T1, T4, T5, T6, T7, hE, hA28, hr15, hr20, ho26, MI.start hp16 hp21 ha17 ha22, trivial⟩ ?_))))))
 clear ho26
 clear hE hA28
 rintro ρ33 w34 ⟨va, vb, Al, Bl, Ol, vo, T0, T1, T4, T5, T6, T7, hE, hA28, hfa, hfb, hfo, hMI, -⟩
 have q5 := T5
 have q6 := T6
 have qa := hfa.sliceLen
 have qb := hfb.sliceLen
 have hla := hMI.perm.length_eq
 simp only [List.length_append] at hla
 by_cases hga : 0 < Al.length
 ·by_cases hgb : 0 < Bl.length
  ·refine sk fun K35 hK35 => (sk fun K36 hK36 => (wt (oM rfl (oS rfl (Yk.lenRG pk6_ty31 (RG.of (hfa.keep hA28) T5) (oS rfl (Yk.eqI (a := (Al.length : Nat)) (b := (0 : Nat)) rfl rfl (k_gtr _ _ _ _) (oM rfl (oY (d := 33) rfl rfl (vr (.bool (true)) (congrArg Value.bool (decide_eq_true (hga)))) (Yk.move T6 (oY (d := 33) rfl rfl (vr (.bool (true)) (congrArg Value.bool (decide_eq_true (hga)))) (Yk.lenRG pk6_ty31 (RG.of (hfb.keep hA28) (vr vb rfl)) (oY (d := 33) rfl rfl (vr (.bool (true)) (congrArg Value.bool (decide_eq_true (hga)))) (Yk.eqI (a := (Bl.length : Nat)) (b := (0 : Nat)) rfl rfl (k_gtr _ _ _ _) (oS rfl (Yk.pickT (vr (.bool (true)) (congrArg Value.bool (decide_eq_true (hga)))) (vr (.bool (true)) (congrArg Value.bool (decide_eq_true (hgb)))) (oZ (tN (hK36 _ _ (wpF_true (vr (.bool (true)) rfl) (wpF_skip (tN (hK35 _ _ ?_)))))))))))))))))))))))
   refine wpF_block (sk fun K37 hK37 => ?_)
   refine wpF_draw [Is (.func (.func 71) #[] #[]), Is (va), fun x w' => PR (Lib.byteCells (Al.getD (0) ([] : List UInt8))) x w', Is (AB (Al.getD (0) ([] : List UInt8))), Is (vb), fun x w' => PR (Lib.byteCells (Bl.getD (0) ([] : List UInt8))) x w', Is (AB (Bl.getD (0) ([] : List UInt8))), Is (.int .i64 (Lib.compareBytes (Al.getD (0) ([] : List UInt8)) (Bl.getD (0) ([] : List UInt8)) : Int)), Is (.bool (decide ((Lib.compareBytes (Al.getD (0) ([] : List UInt8)) (Bl.getD (0) ([] : List UInt8)) : Int) ≤ ((0 : Nat) : Int))))] (by kernel_rfl) [38, 39, 40, 41, 42, 43, 44, 45, 46] (by kernel_rfl) (by kernel_rfl) (si2 ⟨(fun _ _ _ h k => PR.keep h k), (si2 ⟨(fun _ _ _ h k => PR.keep h k), (si3 trivial)⟩)⟩) ?hs2006 ?hQ2006
   case hs2006 =>
    refine ⟨?_, ?_, ?_, ?_, ?_, ?_, ?_, ?_, ?_, trivial⟩
    ·refine stepN rfl fun σ w1 hC h => ?_
     have e1 := (eqo (h 1 (by decide))).trans T1
     exact Yk.move e1 ⟨Ext.refl _, rfl⟩
    ·refine stepN rfl fun σ w1 hC h => ?_
     have e5 := (eqo (h 5 (by decide))).trans T5
     exact Yk.move e5 ⟨Ext.refl _, rfl⟩
    ·refine stepN rfl fun σ w1 hC h => ?_
     have e39 := eqo (h 39 (by decide))
     exact Yk.atRG pk6_ty31 pk6_szg26 (by decide) ([] : List UInt8) (RG.of (hfa.keep (hA28.trans hC)) e39) (vr (NI 0) rfl) (by omega) fun v h => ⟨Ext.refl _, h⟩
    ·refine stepN rfl fun σ w1 hC h => ?_
     have e40 : (fun x w' => PR (Lib.byteCells (Al.getD (0) ([] : List UInt8))) x w') (σ 40) w1 := h 40 (by decide)
     exact Yk.loadPR e40 pk6_ty26 rfl (by rw [RG.elem hfa ([] : List UInt8) (by omega)]; exact pk6_isz26) ⟨Ext.refl _, rfl⟩
    ·refine stepN rfl fun σ w1 hC h => ?_
     have e6 := (eqo (h 6 (by decide))).trans T6
     exact Yk.move e6 ⟨Ext.refl _, rfl⟩
    ·refine stepN rfl fun σ w1 hC h => ?_
     have e42 := eqo (h 42 (by decide))
     exact Yk.atRG pk6_ty31 pk6_szg26 (by decide) ([] : List UInt8) (RG.of (hfb.keep (hA28.trans hC)) e42) (vr (NI 0) rfl) (by omega) fun v h => ⟨Ext.refl _, h⟩
    ·refine stepN rfl fun σ w1 hC h => ?_
     have e43 : (fun x w' => PR (Lib.byteCells (Bl.getD (0) ([] : List UInt8))) x w') (σ 43) w1 := h 43 (by decide)
     exact Yk.loadPR e43 pk6_ty26 rfl (by rw [RG.elem hfb ([] : List UInt8) (by omega)]; exact pk6_isz26) ⟨Ext.refl _, rfl⟩
    ·refine stepN rfl fun σ w1 hC h => ?_
     have e38 := eqo (h 38 (by decide))
     have e41 := eqo (h 41 (by decide))
     have e44 := eqo (h 44 (by decide))
     refine Yk.clo pk6_pl71 (caps := #[]) e38 #[AB (Al.getD (0) ([] : List UInt8)), AB (Bl.getD (0) ([] : List UInt8))] (by simp only [List.map_toArray, List.map_cons, List.map_nil, List.append_toArray, List.cons_append, List.nil_append]; exact congrArg List.toArray (list2 e41 e44)) ((compare_any _ (Al.getD (0) ([] : List UInt8)) (Bl.getD (0) ([] : List UInt8)) ((bytes_len32 (RG.elem hfa ([] : List UInt8) (by omega)))) ((bytes_len32 (RG.elem hfb ([] : List UInt8) (by omega))))).mono ?_)
     rintro e w2 ⟨rfl, hx⟩
     exact ⟨_, rfl, hx, rfl⟩
    ·refine stepN rfl fun σ w1 hC h => ?_
     have e45 := eqo (h 45 (by decide))
     exact Yk.eqI e45 (vr (NI 0) rfl) (z_leq _ .i64 (Lib.compareBytes (Al.getD (0) ([] : List UInt8)) (Bl.getD (0) ([] : List UInt8)) : Int) ((0 : Nat) : Int)) ⟨Ext.refl _, rfl⟩
   intro ρ38 w39 hx40 he hf
   obtain ⟨-, -, -, -, -, -, -, -, k46, -⟩ := hf
   obtain ⟨T0, T1, T4, T5, T6, T7, T37, -⟩ := he.hold [(0, _), (1, _), (4, _), (5, _), (6, _), (7, _), (37, .bool (true))] ⟨T0, T1, T4, T5, T6, T7, rfl, trivial⟩ rfl
   clear he
   have hE := hE.trans hx40
   have hA28 := hA28.trans hx40
   have hfo := hfo.keep hx40
   have T46 : ρ38 46 = .bool (decide ((Lib.compareBytes (Al.getD (0) ([] : List UInt8)) (Bl.getD (0) ([] : List UInt8)) : Int) ≤ ((0 : Nat) : Int))) := k46
   clear k46
   refine tN (hK37 _ _ ?_)
   refine wpF_cond ((Lib.compareBytes (Al.getD (0) ([] : List UInt8)) (Bl.getD (0) ([] : List UInt8)) : Int) ≤ ((0 : Nat) : Int)) T46 (fun hc2 => ?_) (fun hc2 => ?_)
   ·have hlow41 : ∀ k, Value.ownBlock vo = some k → w11.heap.size ≤ k := fun k hk => (hfo.2.lt k hk).1
    have hsz_ : w11.heap.size ≤ w39.heap.size := hA28.size
    refine wpF_draw_rowsX (Value.ownBlock vo) [5] [0] (fun m => if m = 5 then [0, 2, 4] else []) (fun m => if m = 5 then [0, 2, 4, 5, 8] else []) [fun x w' => RowG w11.heap.size w39.heap.size 26 32 (Lib.byteCells) (Value.ownBlock vo) (Ol) x w', Is (va), fun x w' => PR (Lib.byteCells (Al.getD (0) ([] : List UInt8))) x w', Is (AB (Al.getD (0) ([] : List UInt8))), fun x w' => RG 32 (Lib.byteCells) w' x ([(Al.getD (0) ([] : List UInt8))]), fun x w' => RowG w11.heap.size w39.heap.size 26 32 (Lib.byteCells) (Value.ownBlock vo) ((Ol) ++ [(Al.getD (0) ([] : List UInt8))]) x w', Is (va), fun x _ => RG 32 (Lib.byteCells) w11 x (Al.drop (1)), fun x w' => RowG w11.heap.size w39.heap.size 26 32 (Lib.byteCells) (Value.ownBlock vo) ((Ol) ++ [(Al.getD (0) ([] : List UInt8))]) x w', fun x _ => RG 32 (Lib.byteCells) w11 x (Al.drop (1))] (by kernel_rfl) [47, 48, 49, 50, 51, 52, 53, 54, 7, 5] (by kernel_rfl) (by kernel_rfl) (by kernel_rfl) (by kernel_rfl) (by kernel_rfl) rfl ⟨(fun _ _ _ h k => ⟨OG.keep h.1 k, h.2⟩), Stab.is _, (fun _ _ _ h k => PR.keep h k), Stab.is _, (fun _ _ _ h k => RG.keep h k), (fun _ _ _ h k => ⟨OG.keep h.1 k, h.2⟩), Stab.is _, (fun _ _ _ h _ => h), (fun _ _ _ h k => ⟨OG.keep h.1 k, h.2⟩), (fun _ _ _ h _ => h), trivial⟩ ⟨⟨.inl rfl, .inr (Stab.is _), .inl rfl, .inr (Stab.is _), .inl rfl, .inl rfl, .inr (Stab.is _), .inr ((fun _ _ _ h _ => h)), .inl rfl, .inr ((fun _ _ _ h _ => h)), trivial⟩, trivial⟩ ?hs3007 ?hQ3007
    case hs3007 =>
     refine ⟨?_, ?_, ?_, ?_, ?_, ?_, ?_, ?_, ?_, ?_, trivial⟩
     ·refine stepN rfl fun σ w1 hC h => ?_
      have hX : Ext w39 w1 := hC
      have hC : BX w39.heap.size (Value.ownBlock vo) w39 w1 := BX.ofExt hX (Nat.le_refl _)
      have e7 := (eqo (h 7 (by decide))).trans T7
      exact Yk.move e7 ⟨Ext.refl _, OG.keep hfo hX, fun k hk => .inl hk⟩
     ·refine stepN rfl fun σ w1 hC h => ?_
      have hC : BX w39.heap.size (Value.ownBlock vo) w39 w1 := hC
      have e5 := (eqo (h 5 (by decide))).trans T5
      exact Yk.move e5 ⟨Ext.refl _, rfl⟩
     ·refine stepN rfl fun σ w1 hC h => ?_
      have hC : BX w39.heap.size (Value.ownBlock vo) w39 w1 := hC
      have e48 := eqo (h 48 (by decide))
      exact Yk.atRG pk6_ty31 pk6_szg26 (by decide) ([] : List UInt8) (RG.of (hfa.keep (ext_bx hA28 hC (by omega) (fun k hk => by have := hlow41 k hk; omega))) e48) (vr (NI 0) rfl) (by omega) fun v h => ⟨Ext.refl _, h⟩
     ·refine stepN rfl fun σ w1 hC h => ?_
      have hC : BX w39.heap.size (Value.ownBlock vo) w39 w1 := hC
      have e49 : (fun x w' => PR (Lib.byteCells (Al.getD (0) ([] : List UInt8))) x w') (σ 49) w1 := h 49 (by decide)
      exact Yk.loadPR e49 pk6_ty26 rfl (by rw [RG.elem hfa ([] : List UInt8) (by omega)]; exact pk6_isz26) ⟨Ext.refl _, rfl⟩
     ·refine stepN rfl fun σ w1 hC h => ?_
      have hC : BX w39.heap.size (Value.ownBlock vo) w39 w1 := hC
      have e50 := eqo (h 50 (by decide))
      exact Yk.lit1G (a := (Al.getD (0) ([] : List UInt8))) (enc := Lib.byteCells) e50 (by rw [Lib.byteCells_length]; exact (bytes_len32 (RG.elem hfa ([] : List UInt8) (by omega)))) pk6_lg31 fun v w2 h hx => ⟨hx, h⟩
     ·refine stepN rfl fun σ w1 hC h => ?_
      have hC : BX w39.heap.size (Value.ownBlock vo) w39 w1 := hC
      have e47 : (fun x w' => RowG w11.heap.size w39.heap.size 26 32 (Lib.byteCells) (Value.ownBlock vo) (Ol) x w') (σ 47) w1 := h 47 (by decide)
      have e51 : (fun x w' => RG 32 (Lib.byteCells) w' x ([(Al.getD (0) ([] : List UInt8))])) (σ 51) w1 := h 51 (by decide)
      exact Yk.appendRG _ _ w11.heap.size _ 32 pk6_ty31 pk6_ig26.choose_spec.1 pk6_ig26.choose_spec.2 pk6_ty31 (Ol) ([(Al.getD (0) ([] : List UInt8))]) e47.1 e51 (fun _ _ => byteCells_one _) (by simp only [List.length_cons, List.length_nil]; omega) (by simp only [List.length_cons, List.length_nil]; omega) (Nat.le_trans hsz_ hC.size) fun v w2 ho hg => ⟨BX.ofGrown hg.by_ hC.size e47.2, ho, fun k hk => (hg.fresh k hk).elim (e47.2 k) (fun x => .inr (Nat.le_trans hC.size x))⟩
     ·refine stepN rfl fun σ w1 hC h => ?_
      have hC : BX w39.heap.size (Value.ownBlock vo) w39 w1 := hC
      have e5 := (eqo (h 5 (by decide))).trans T5
      exact Yk.move e5 ⟨Ext.refl _, rfl⟩
     ·refine stepN rfl fun σ w1 hC h => ?_
      have hC : BX w39.heap.size (Value.ownBlock vo) w39 w1 := hC
      have e53 := eqo (h 53 (by decide))
      exact Yk.sliceLoW pk6_ty31 pk6_szg26 e53 hfa (vr (NI 1) rfl) (by omega) fun v h _ => ⟨Ext.refl _, h⟩
     ·refine stepN rfl fun σ w1 hC h => ?_
      have hC : BX w39.heap.size (Value.ownBlock vo) w39 w1 := hC
      have e52 : (fun x w' => RowG w11.heap.size w39.heap.size 26 32 (Lib.byteCells) (Value.ownBlock vo) ((Ol) ++ [(Al.getD (0) ([] : List UInt8))]) x w') (σ 52) w1 := h 52 (by decide)
      exact Yk.assign rfl ⟨Ext.refl _, e52⟩
     ·refine stepN rfl fun σ w1 hC h => ?_
      have hC : BX w39.heap.size (Value.ownBlock vo) w39 w1 := hC
      have e54 : (fun x _ => RG 32 (Lib.byteCells) w11 x (Al.drop (1))) (σ 54) w1 := h 54 (by decide)
      exact Yk.assign rfl ⟨Ext.refl _, e54⟩
    intro ρ42 w43 hx44 he hf
    obtain ⟨-, -, -, -, -, -, -, -, k7, k5, -⟩ := hf
    obtain ⟨T0, T1, T4, T6, T37, -⟩ := he.hold [(0, _), (1, _), (4, _), (6, _), (37, _)] ⟨T0, T1, T4, T6, T37, trivial⟩ rfl
    clear he
    have k7 : (fun x w' => RowG w11.heap.size w39.heap.size 26 32 (Lib.byteCells) (Value.ownBlock vo) ((Ol) ++ [(Al.getD (0) ([] : List UInt8))]) x w') (ρ42 7) w43 := k7
    obtain ⟨v45, T7⟩ : ∃ v, ρ42 7 = v := ⟨_, rfl⟩
    rw [T7] at k7
    have hg46 : Grew w39 w43 vo v45 := ⟨hx44.grown, k7.2⟩
    have ho47 := k7.1; clear k7
    have hE := ext_grew hE hg46 hfo.2 hz30
    have hA28 := ext_grew hA28 hg46 hfo.2 (Nat.le_refl _)
    clear hfo
    have k5 : (fun x _ => RG 32 (Lib.byteCells) w11 x (Al.drop (1))) (ρ42 5) w43 := k5
    obtain ⟨v48, T5⟩ : ∃ v, ρ42 5 = v := ⟨_, rfl⟩
    rw [T5] at k5
    have hk49 := k5; clear k5
    refine bN (tN (And.intro ⟨v48, vb, Al.drop (1), Bl, (Ol) ++ [(Al.getD (0) ([] : List UInt8))], v45, T0, T1, T4, T5, T6, T7, hE, hA28, hk49, hfb, ho47, hMI.left (by omega) (by omega) hc2, trivial⟩ ?_))
    show sliceLen (ρ42 5) + sliceLen (ρ42 6) < sliceLen (ρ33 5) + sliceLen (ρ33 6)
    rw [T5, T6, q5, q6]
    have n5 := hk49.sliceLen
    have n6 := hfb.sliceLen
    try rw [n5]
    try rw [n6]
    try rw [qa]
    try rw [qb]
    simp only [List.length_drop]
    omega
   have hlow50 : ∀ k, Value.ownBlock vo = some k → w11.heap.size ≤ k := fun k hk => (hfo.2.lt k hk).1
   have hsz_ : w11.heap.size ≤ w39.heap.size := hA28.size
   refine wpF_draw_rowsX (Value.ownBlock vo) [5] [0] (fun m => if m = 5 then [0, 2, 4] else []) (fun m => if m = 5 then [0, 2, 4, 5, 8] else []) [fun x w' => RowG w11.heap.size w39.heap.size 26 32 (Lib.byteCells) (Value.ownBlock vo) (Ol) x w', Is (vb), fun x w' => PR (Lib.byteCells (Bl.getD (0) ([] : List UInt8))) x w', Is (AB (Bl.getD (0) ([] : List UInt8))), fun x w' => RG 32 (Lib.byteCells) w' x ([(Bl.getD (0) ([] : List UInt8))]), fun x w' => RowG w11.heap.size w39.heap.size 26 32 (Lib.byteCells) (Value.ownBlock vo) ((Ol) ++ [(Bl.getD (0) ([] : List UInt8))]) x w', Is (vb), fun x _ => RG 32 (Lib.byteCells) w11 x (Bl.drop (1)), fun x w' => RowG w11.heap.size w39.heap.size 26 32 (Lib.byteCells) (Value.ownBlock vo) ((Ol) ++ [(Bl.getD (0) ([] : List UInt8))]) x w', fun x _ => RG 32 (Lib.byteCells) w11 x (Bl.drop (1))] (by kernel_rfl) [55, 56, 57, 58, 59, 60, 61, 62, 7, 6] (by kernel_rfl) (by kernel_rfl) (by kernel_rfl) (by kernel_rfl) (by kernel_rfl) rfl ⟨(fun _ _ _ h k => ⟨OG.keep h.1 k, h.2⟩), Stab.is _, (fun _ _ _ h k => PR.keep h k), Stab.is _, (fun _ _ _ h k => RG.keep h k), (fun _ _ _ h k => ⟨OG.keep h.1 k, h.2⟩), Stab.is _, (fun _ _ _ h _ => h), (fun _ _ _ h k => ⟨OG.keep h.1 k, h.2⟩), (fun _ _ _ h _ => h), trivial⟩ ⟨⟨.inl rfl, .inr (Stab.is _), .inl rfl, .inr (Stab.is _), .inl rfl, .inl rfl, .inr (Stab.is _), .inr ((fun _ _ _ h _ => h)), .inl rfl, .inr ((fun _ _ _ h _ => h)), trivial⟩, trivial⟩ ?hs4008 ?hQ4008
   case hs4008 =>
    refine ⟨?_, ?_, ?_, ?_, ?_, ?_, ?_, ?_, ?_, ?_, trivial⟩
    ·refine stepN rfl fun σ w1 hC h => ?_
     have hX : Ext w39 w1 := hC
     have hC : BX w39.heap.size (Value.ownBlock vo) w39 w1 := BX.ofExt hX (Nat.le_refl _)
     have e7 := (eqo (h 7 (by decide))).trans T7
     exact Yk.move e7 ⟨Ext.refl _, OG.keep hfo hX, fun k hk => .inl hk⟩
    ·refine stepN rfl fun σ w1 hC h => ?_
     have hC : BX w39.heap.size (Value.ownBlock vo) w39 w1 := hC
     have e6 := (eqo (h 6 (by decide))).trans T6
     exact Yk.move e6 ⟨Ext.refl _, rfl⟩
    ·refine stepN rfl fun σ w1 hC h => ?_
     have hC : BX w39.heap.size (Value.ownBlock vo) w39 w1 := hC
     have e56 := eqo (h 56 (by decide))
     exact Yk.atRG pk6_ty31 pk6_szg26 (by decide) ([] : List UInt8) (RG.of (hfb.keep (ext_bx hA28 hC (by omega) (fun k hk => by have := hlow50 k hk; omega))) e56) (vr (NI 0) rfl) (by omega) fun v h => ⟨Ext.refl _, h⟩
    ·refine stepN rfl fun σ w1 hC h => ?_
     have hC : BX w39.heap.size (Value.ownBlock vo) w39 w1 := hC
     have e57 : (fun x w' => PR (Lib.byteCells (Bl.getD (0) ([] : List UInt8))) x w') (σ 57) w1 := h 57 (by decide)
     exact Yk.loadPR e57 pk6_ty26 rfl (by rw [RG.elem hfb ([] : List UInt8) (by omega)]; exact pk6_isz26) ⟨Ext.refl _, rfl⟩
    ·refine stepN rfl fun σ w1 hC h => ?_
     have hC : BX w39.heap.size (Value.ownBlock vo) w39 w1 := hC
     have e58 := eqo (h 58 (by decide))
     exact Yk.lit1G (a := (Bl.getD (0) ([] : List UInt8))) (enc := Lib.byteCells) e58 (by rw [Lib.byteCells_length]; exact (bytes_len32 (RG.elem hfb ([] : List UInt8) (by omega)))) pk6_lg31 fun v w2 h hx => ⟨hx, h⟩
    ·refine stepN rfl fun σ w1 hC h => ?_
     have hC : BX w39.heap.size (Value.ownBlock vo) w39 w1 := hC
     have e55 : (fun x w' => RowG w11.heap.size w39.heap.size 26 32 (Lib.byteCells) (Value.ownBlock vo) (Ol) x w') (σ 55) w1 := h 55 (by decide)
     have e59 : (fun x w' => RG 32 (Lib.byteCells) w' x ([(Bl.getD (0) ([] : List UInt8))])) (σ 59) w1 := h 59 (by decide)
     exact Yk.appendRG _ _ w11.heap.size _ 32 pk6_ty31 pk6_ig26.choose_spec.1 pk6_ig26.choose_spec.2 pk6_ty31 (Ol) ([(Bl.getD (0) ([] : List UInt8))]) e55.1 e59 (fun _ _ => byteCells_one _) (by simp only [List.length_cons, List.length_nil]; omega) (by simp only [List.length_cons, List.length_nil]; omega) (Nat.le_trans hsz_ hC.size) fun v w2 ho hg => ⟨BX.ofGrown hg.by_ hC.size e55.2, ho, fun k hk => (hg.fresh k hk).elim (e55.2 k) (fun x => .inr (Nat.le_trans hC.size x))⟩
    ·refine stepN rfl fun σ w1 hC h => ?_
     have hC : BX w39.heap.size (Value.ownBlock vo) w39 w1 := hC
     have e6 := (eqo (h 6 (by decide))).trans T6
     exact Yk.move e6 ⟨Ext.refl _, rfl⟩
    ·refine stepN rfl fun σ w1 hC h => ?_
     have hC : BX w39.heap.size (Value.ownBlock vo) w39 w1 := hC
     have e61 := eqo (h 61 (by decide))
     exact Yk.sliceLoW pk6_ty31 pk6_szg26 e61 hfb (vr (NI 1) rfl) (by omega) fun v h _ => ⟨Ext.refl _, h⟩
    ·refine stepN rfl fun σ w1 hC h => ?_
     have hC : BX w39.heap.size (Value.ownBlock vo) w39 w1 := hC
     have e60 : (fun x w' => RowG w11.heap.size w39.heap.size 26 32 (Lib.byteCells) (Value.ownBlock vo) ((Ol) ++ [(Bl.getD (0) ([] : List UInt8))]) x w') (σ 60) w1 := h 60 (by decide)
     exact Yk.assign rfl ⟨Ext.refl _, e60⟩
    ·refine stepN rfl fun σ w1 hC h => ?_
     have hC : BX w39.heap.size (Value.ownBlock vo) w39 w1 := hC
     have e62 : (fun x _ => RG 32 (Lib.byteCells) w11 x (Bl.drop (1))) (σ 62) w1 := h 62 (by decide)
     exact Yk.assign rfl ⟨Ext.refl _, e62⟩
   intro ρ51 w52 hx53 he hf
   obtain ⟨-, -, -, -, -, -, -, -, k7, k6, -⟩ := hf
   obtain ⟨T0, T1, T4, T5, T37, -⟩ := he.hold [(0, _), (1, _), (4, _), (5, _), (37, _)] ⟨T0, T1, T4, T5, T37, trivial⟩ rfl
   clear he
   have k7 : (fun x w' => RowG w11.heap.size w39.heap.size 26 32 (Lib.byteCells) (Value.ownBlock vo) ((Ol) ++ [(Bl.getD (0) ([] : List UInt8))]) x w') (ρ51 7) w52 := k7
   obtain ⟨v54, T7⟩ : ∃ v, ρ51 7 = v := ⟨_, rfl⟩
   rw [T7] at k7
   have hg55 : Grew w39 w52 vo v54 := ⟨hx53.grown, k7.2⟩
   have ho56 := k7.1; clear k7
   have hE := ext_grew hE hg55 hfo.2 hz30
   have hA28 := ext_grew hA28 hg55 hfo.2 (Nat.le_refl _)
   clear hfo
   have k6 : (fun x _ => RG 32 (Lib.byteCells) w11 x (Bl.drop (1))) (ρ51 6) w52 := k6
   obtain ⟨v57, T6⟩ : ∃ v, ρ51 6 = v := ⟨_, rfl⟩
   rw [T6] at k6
   have hk58 := k6; clear k6
   refine bN (tN (And.intro ⟨va, v57, Al, Bl.drop (1), (Ol) ++ [(Bl.getD (0) ([] : List UInt8))], v54, T0, T1, T4, T5, T6, T7, hE, hA28, hfa, hk58, ho56, hMI.right (by omega) (by omega) hc2, trivial⟩ ?_))
   show sliceLen (ρ51 5) + sliceLen (ρ51 6) < sliceLen (ρ33 5) + sliceLen (ρ33 6)
   rw [T5, T6, q5, q6]
   have n5 := hfa.sliceLen
   have n6 := hk58.sliceLen
   try rw [n5]
   try rw [n6]
   try rw [qa]
   try rw [qb]
   simp only [List.length_drop]
   omega
  refine sk fun K59 hK59 => (sk fun K60 hK60 => (wt (oM rfl (oS rfl (Yk.lenRG pk6_ty31 (RG.of (hfa.keep hA28) T5) (oS rfl (Yk.eqI (a := (Al.length : Nat)) (b := (0 : Nat)) rfl rfl (k_gtr _ _ _ _) (oM rfl (oY (d := 33) rfl rfl (vr (.bool (true)) (congrArg Value.bool (decide_eq_true (hga)))) (Yk.move T6 (oY (d := 33) rfl rfl (vr (.bool (true)) (congrArg Value.bool (decide_eq_true (hga)))) (Yk.lenRG pk6_ty31 (RG.of (hfb.keep hA28) (vr vb rfl)) (oY (d := 33) rfl rfl (vr (.bool (true)) (congrArg Value.bool (decide_eq_true (hga)))) (Yk.eqI (a := (Bl.length : Nat)) (b := (0 : Nat)) rfl rfl (k_gtr _ _ _ _) (oS rfl (Yk.pickT (vr (.bool (true)) (congrArg Value.bool (decide_eq_true (hga)))) (vr (.bool (false)) (congrArg Value.bool (decide_eq_false (hgb)))) (oZ (tN (hK60 _ _ (wpF_false (vr (.bool (false)) rfl) (wpF_exit (thenF_exit (thenF_exit (inBlockF_hit (tN (hK32 _ _ ?_))))))))))))))))))))))))))
  refine sk fun K61 hK61 => (wt (oM rfl (oM rfl (oS rfl (Yk.appendRG _ _ w11.heap.size _ 32 pk6_ty31 pk6_ig26.choose_spec.1 pk6_ig26.choose_spec.2 pk6_ty31 (Ol) (Al) (OG.of hfo T7) (RG.of (hfa.keep hA28) T5) (fun _ _ => byteCells_one _) (by omega) (by omega) hA28.size fun v62 w63 ho64 hg65 => ?_)))))
  have hg65 : Grew w34 w63 vo v62 := .eqv T7 hg65
  have hE := ext_grew hE hg65 hfo.2 hz30
  have hA28 := ext_grew hA28 hg65 hfo.2 (Nat.le_refl _)
  clear hfo
  refine oM rfl (oS rfl (Yk.appendRG _ _ w11.heap.size _ 32 pk6_ty31 pk6_ig26.choose_spec.1 pk6_ig26.choose_spec.2 pk6_ty31 ((Ol) ++ Al) (Bl) (OG.of ho64 (vr v62 rfl)) (RG.of (hfb.keep hA28) T6) (fun _ _ => byteCells_one _) (by simp only [List.length_append]; omega) (by simp only [List.length_append]; omega) hA28.size fun v66 w67 ho68 hg69 => ?_))
  have hg69 : Grew w63 w67 v62 v66 := hg69
  have hE := ext_grew hE hg69 ho64.2 hz30
  have hA28 := ext_grew hA28 hg69 ho64.2 (Nat.le_refl _)
  clear ho64
  refine oA rfl (oZ (tN (hK61 _ _ (wpF_ret (postF_ret (fn := Tryd.f70) _ rfl [v66] (v66) rfl ⟨rfl, trivial⟩ ?_)))))
  obtain ⟨hpm, hasc⟩ := hMI.done (by omega)
  exact ⟨_, _, rfl, OG.base ho68 (by omega), hpm, hasc, hE⟩
 refine sk fun K70 hK70 => (sk fun K71 hK71 => (wt (oM rfl (oS rfl (Yk.lenRG pk6_ty31 (RG.of (hfa.keep hA28) T5) (oS rfl (Yk.eqI (a := (Al.length : Nat)) (b := (0 : Nat)) rfl rfl (k_gtr _ _ _ _) (oM rfl (oN (d := 33) rfl rfl rfl (vr (.bool (false)) (congrArg Value.bool (decide_eq_false (hga)))) rfl (oN (d := 33) rfl rfl rfl (vr (.bool (false)) (congrArg Value.bool (decide_eq_false (hga)))) rfl (oN (d := 33) rfl rfl rfl (vr (.bool (false)) (congrArg Value.bool (decide_eq_false (hga)))) rfl (oS rfl (Yk.pickF (vr (.bool (false)) (congrArg Value.bool (decide_eq_false (hga)))) (vr (.bool (false)) rfl) (oZ (tN (hK71 _ _ (wpF_false (vr (.bool (false)) rfl) (wpF_exit (thenF_exit (thenF_exit (inBlockF_hit (tN (hK32 _ _ ?_)))))))))))))))))))))))
 refine sk fun K72 hK72 => (wt (oM rfl (oM rfl (oS rfl (Yk.appendRG _ _ w11.heap.size _ 32 pk6_ty31 pk6_ig26.choose_spec.1 pk6_ig26.choose_spec.2 pk6_ty31 (Ol) (Al) (OG.of hfo T7) (RG.of (hfa.keep hA28) T5) (fun _ _ => byteCells_one _) (by omega) (by omega) hA28.size fun v73 w74 ho75 hg76 => ?_)))))
 have hg76 : Grew w34 w74 vo v73 := .eqv T7 hg76
 have hE := ext_grew hE hg76 hfo.2 hz30
 have hA28 := ext_grew hA28 hg76 hfo.2 (Nat.le_refl _)
 clear hfo
 refine oM rfl (oS rfl (Yk.appendRG _ _ w11.heap.size _ 32 pk6_ty31 pk6_ig26.choose_spec.1 pk6_ig26.choose_spec.2 pk6_ty31 ((Ol) ++ Al) (Bl) (OG.of ho75 (vr v73 rfl)) (RG.of (hfb.keep hA28) T6) (fun _ _ => byteCells_one _) (by simp only [List.length_append]; omega) (by simp only [List.length_append]; omega) hA28.size fun v77 w78 ho79 hg80 => ?_))
 have hg80 : Grew w74 w78 v73 v77 := hg80
 have hE := ext_grew hE hg80 ho75.2 hz30
 have hA28 := ext_grew hA28 hg80 ho75.2 (Nat.le_refl _)
 clear ho75
 refine oA rfl (oZ (tN (hK72 _ _ (wpF_ret (postF_ret (fn := Tryd.f70) _ rfl [v77] (v77) rfl ⟨rfl, trivial⟩ ?_)))))
 obtain ⟨hpm, hasc⟩ := hMI.done (by omega)
 exact ⟨_, _, rfl, OG.base ho79 (by omega), hpm, hasc, hE⟩

theorem merge_any : ∀ (n : Nat) (l : List Bs), l.length = n → l.length ≤ 1048576 → ∀ (w : World) (v : Value), RG 32 Lib.byteCells w v l → Calls Tryd.prog 70 #[v, .func (.func 71) #[] #[]] w fun e w' => ∃ v' m, e = .returned v' ∧ OG w.heap.size 26 32 Lib.byteCells w' v' m ∧ m.Perm l ∧ Asc m ∧ Ext w w' := by
 intro n
 induction n using Nat.strongRecOn with
 | _ n ih => exact fun l hn hlim w v hr => merge_step n (fun l' hl w v hr => ih l'.length hl l' rfl (by omega) w v hr) l hn hlim w v hr

theorem sort_any (w : World) (v : Value) (l : List Bs) (hlim : l.length ≤ 1048576) (hr : RG 32 Lib.byteCells w v l) :
  Calls Tryd.prog 57 #[v] w fun e w' => ∃ v', e = .returned v' ∧ OG w.heap.size 26 32 Lib.byteCells w' v' (sortB l) ∧ Ext w w' := by
 refine calls_of_wpF (args := [v]) Tryd.func57 rfl 5 rfl (Nat.le_of_ble_eq_true rfl) ?_
 intro ρ0 hb
 have T0 : ρ0 0 = (v : Value) := hb.get 0
 clear hb
 have hE := Ext.refl w
 refine sk fun K1 hK1 => (wt (oA rfl (oZ (tN (hK1 _ _ (sk fun K2 hK2 => (wt (oM rfl (oS rfl (Yk.callA2 pk6_pl70 T0 rfl ((merge_any _ l rfl hlim _ v hr).mono ?_)))))))))))
 rintro e w9 ⟨v3, m4, rfl, hr5, hp6, ha7, hx8⟩
 refine ⟨_, rfl, ?_⟩
 have hms := asc_sortB ha7 hp6
 subst hms
 have hr := hr.keep hx8
 have hE := hE.trans hx8
 refine oA rfl (oZ (tN (hK2 _ _ (wpF_ret (postF_ret (fn := Tryd.f57) _ rfl [v3] (v3) rfl ⟨rfl, trivial⟩ ?_)))))
 exact ⟨_, rfl, hr5, hE⟩
open Go.RowKit
def SAsc (l : List Bs) : Prop := l.Pairwise fun a b => Lib.compareBytes a b < 0
theorem int_lt {a : Int} (h : a ≤ 0) (h2 : a ≠ 0) : a < 0 := by omega
theorem getD_mem' {l : List Bs} {i : Nat} (hi : i < l.length) : l.getD i [] ∈ l := getD_mem [] hi
theorem getD_get {l : List Bs} {i : Nat} (hi : i < l.length) : l.getD i [] = l[i] := by rw [List.getD_eq_getElem?_getD, List.getElem?_eq_getElem hi]; rfl
theorem asc_at {l : List Bs} (h : Asc l) {i j : Nat} (hij : i < j) (hj : j < l.length) : Lib.compareBytes (l.getD i []) (l.getD j []) ≤ 0 := by
  rw [getD_get (by omega), getD_get hj]
  exact List.pairwise_iff_getElem.1 h i j (by omega) hj hij
theorem sasc_at {l : List Bs} (h : SAsc l) {i j : Nat} (hij : i < j) (hj : j < l.length) : Lib.compareBytes (l.getD i []) (l.getD j []) < 0 := by
  rw [getD_get (by omega), getD_get hj]
  exact List.pairwise_iff_getElem.1 h i j (by omega) hj hij
theorem mem_takeD {l : List Bs} {i : Nat} {x : Bs} (h : x ∈ l.take i) : ∃ j, j < i ∧ j < l.length ∧ x = l.getD j [] := by
  obtain ⟨j, hj, rfl⟩ := List.mem_iff_getElem.1 h
  rw [List.length_take] at hj
  exact ⟨j, by omega, by omega, by rw [List.getElem_take, getD_get]⟩
theorem take_memS {l : List Bs} {i : Nat} {x : Bs} (hi : i < l.length) : x ∈ l.take (i + 1) ↔ x ∈ l.take i ∨ x = l.getD i [] := by
  rw [List.take_succ_eq_append_getElem hi, List.mem_append, List.mem_singleton, getD_get hi]
section
variable {m o : List Bs} {i : Nat}
theorem uniq_new (hm : Asc m) (hi : i < m.length) (hS : SAsc o) (hmem : ∀ x, x ∈ o ↔ x ∈ m.take i) (h : o.length = 0 ∨ o.getD (o.length - 1) [] ≠ m.getD i []) : SAsc (o ++ [m.getD i []]) := by
  refine List.pairwise_append.2 ⟨hS, by simp, fun a ha b hb => ?_⟩
  rw [List.mem_singleton.1 hb]
  have hle : ∀ c ∈ o, Lib.compareBytes c (m.getD i []) ≤ 0 := fun c hc => by
    obtain ⟨j, h1, h2, rfl⟩ := mem_takeD ((hmem c).1 hc)
    exact asc_at hm h1 hi
  refine int_lt (hle a ha) fun e => ?_
  have e := cmp_zero e
  obtain ⟨k, hk, hka⟩ := List.mem_iff_getElem.1 ha
  rcases h with h | h
  · omega
  · by_cases hkl : k = o.length - 1
    · refine h ?_
      rw [getD_get (by omega), ← e, ← hka]
      congr 1
      omega
    · have h1 := sasc_at hS (i := k) (j := o.length - 1) (by omega) (by omega)
      rw [getD_get hk, hka, e] at h1
      have h2 := hle _ (getD_mem' (l := o) (i := o.length - 1) (by omega))
      have h3 := cmp_neg (m.getD i []) (o.getD (o.length - 1) [])
      omega
theorem uniq_memT (hi : i < m.length) (hmem : ∀ x, x ∈ o ↔ x ∈ m.take i) : ∀ x, x ∈ o ++ [m.getD i []] ↔ x ∈ m.take (i + 1) := fun x => by
  rw [take_memS hi, List.mem_append, List.mem_singleton, hmem]
theorem uniq_memF (hi : i < m.length) (hmem : ∀ x, x ∈ o ↔ x ∈ m.take i) (h0 : ¬ o.length = 0) (h : ¬ o.getD (o.length - 1) [] ≠ m.getD i []) : ∀ x, x ∈ o ↔ x ∈ m.take (i + 1) := fun x => by
  rw [take_memS hi, ← hmem]
  constructor
  · exact .inl
  · rintro (h1 | rfl)
    · exact h1
    · rw [← Classical.not_not.1 h]; exact getD_mem' (by omega)
end
open Go.RowKit
set_option maxRecDepth 100000
set_option linter.unusedVariables false
set_option linter.unusedSimpArgs false
theorem setK_pl57 : Plain Tryd.prog 57 := fun _ _ => by kernel_rfl
theorem setK_ty31 : Tryd.prog.underlying 31 = some (.slice 26) := by kernel_rfl
theorem setK_szg26 : ∀ w' : World, (sizeOf 26).run Tryd.prog w' = .ok 32 w' := fun _ => by kernel_rfl
theorem setK_ty26 : Tryd.prog.underlying 26 = some (.array 32 5) := by kernel_rfl
theorem setK_isz26 : (Tryd.prog.info? 26).map (·.size) = some 32 := by kernel_rfl
theorem setK_al26 {d : Option Tmp} {ty : TypeId} {pos : String} {af : Array Edge} {gd : Option (Nat × Bool)} (σ : Operand → Value) (w : World) : (execOp σ ⟨d, .alloc 26, ty, pos, af, gd⟩).run Tryd.prog w = .ok (.value (PQ w.heap.size 0)) (w.alloc (.cells (Lib.byteCells (List.replicate 32 0)).toArray 26)) := by kernel_rfl
theorem setK_lh31 (c0 c1 c2 c3 c4 c5 c6 c7 c8 c9 c10 c11 c12 c13 c14 c15 c16 c17 c18 c19 c20 c21 c22 c23 c24 c25 c26 c27 c28 c29 c30 c31 : Value) (w : World) : (Instr.buildSlice 31 1 #[(0, .agg #[c0, c1, c2, c3, c4, c5, c6, c7, c8, c9, c10, c11, c12, c13, c14, c15, c16, c17, c18, c19, c20, c21, c22, c23, c24, c25, c26, c27, c28, c29, c30, c31])]).run Tryd.prog w = .ok (.slice (some ⟨w.heap.size, 0, none⟩) 1 1) (w.alloc (.cells #[c0, c1, c2, c3, c4, c5, c6, c7, c8, c9, c10, c11, c12, c13, c14, c15, c16, c17, c18, c19, c20, c21, c22, c23, c24, c25, c26, c27, c28, c29, c30, c31] 26)) := by kernel_rfl
theorem setK_lg31 : ∀ (cs : Array Value), cs.size = 32 → ∀ w : World, (Instr.buildSlice 31 1 #[(0, .agg cs)]).run Tryd.prog w = .ok (.slice (some ⟨w.heap.size, 0, none⟩) 1 1) (w.alloc (.cells cs 26))
 | ⟨[c0, c1, c2, c3, c4, c5, c6, c7, c8, c9, c10, c11, c12, c13, c14, c15, c16, c17, c18, c19, c20, c21, c22, c23, c24, c25, c26, c27, c28, c29, c30, c31]⟩, _, w => setK_lh31 c0 c1 c2 c3 c4 c5 c6 c7 c8 c9 c10 c11 c12 c13 c14 c15 c16 c17 c18 c19 c20 c21 c22 c23 c24 c25 c26 c27 c28 c29 c30 c31 w
theorem setK_ig26 : ∃ z, (Tryd.prog.info? 26).map (fun i => (i.zero, i.size, i.bytes)) = some (some z, 32, 32) ∧ z.cells.size = 32 := info_ex (by kernel_rfl)
theorem setK_eg26 : Tryd.prog.eqGuardType Tryd.prog.depth 26 = false := by kernel_rfl
theorem setK_ty5 : Tryd.prog.underlying 5 = some (.int .u8) := by kernel_rfl
theorem setK_sz5 : ∀ w' : World, (sizeOf 5).run Tryd.prog w' = .ok 1 w' := fun _ => by kernel_rfl
set_option maxHeartbeats 1600000
theorem set_any (w : World) (v : Value) (l : List Bs) (hr : RG 32 Lib.byteCells w v l) (hl : l.length ≤ 100000) :
  Calls Tryd.prog 33 #[v] w fun e w' => ∃ v' o, e = .returned v' ∧ OG w.heap.size 26 32 Lib.byteCells w' v' o ∧ SAsc o ∧ (∀ x, x ∈ o ↔ x ∈ l) ∧ o.length ≤ l.length ∧ Ext w w' := by
 refine calls_of_wpF (args := [v]) Tryd.func33 rfl 32 rfl (Nat.le_of_ble_eq_true rfl) ?_
 intro ρ0 hb
 have T0 : ρ0 0 = (v : Value) := hb.get 0
 clear hb
 have hE := Ext.refl w
 refine sk fun K1 hK1 => (wt (oA rfl (oZ (tN (hK1 _ _ (sk fun K2 hK2 => (wt (oA rfl (oZ (tN (hK2 _ _ (sk fun K3 hK3 => (sk fun K4 hK4 => (wt (oM rfl (oS rfl (Yk.callA1 setK_pl57 T0 ((sort_any _ v l (by omega) hr).mono ?_))))))))))))))))))
 rintro e w8 ⟨v5, rfl, ho6, hx7⟩
 refine ⟨_, rfl, ?_⟩
 have hr := hr.keep hx7
 have hE := hE.trans hx7
 have ho6 := RG.ofOwn ho6
 obtain ⟨m, hm⟩ : ∃ m, m = sortB l := ⟨_, rfl⟩
 rw [← hm] at ho6
 have hml : m.length = l.length := by rw [hm, sortB_len]
 have hma : Asc m := by rw [hm]; exact sortB_asc l
 have hmm : ∀ x, x ∈ m ↔ x ∈ l := fun x => by rw [hm]; exact (sortB_perm l).mem_iff
 refine oS rfl (Yk.lenRG setK_ty31 (RG.of ho6 (vr v5 rfl)) (oM rfl (oL_ [(0, v), (2, (Value.slice none 0 0)), (3, (Value.slice none 0 0)), (7, v5), (8, NI m.length), (9, NI 0)] ⟨T0, rfl, rfl, rfl, rfl, rfl, trivial⟩ fun ρ9 ⟨T0, T2, T3, T7, T8, T9, _⟩ => ?_)))
 have hA10 := Ext.refl w8
 have hea11 := hE
 have hz12 := hE.size
 have hrow0 : OG w8.heap.size 26 32 Lib.byteCells w8 (Value.slice none 0 0) ([] : List Bs) := OG.nil _ _ _ _ _
 refine tN (hK4 _ _ (wpF_block (wpF_loop (fun (ρ : Slots) (wz : World) => ∃ i : Nat, ∃ o : List Bs, ∃ vo : Value, ρ 0 = (v : Value) ∧ ρ 2 = ((Value.slice none 0 0) : Value) ∧ ρ 7 = (v5 : Value) ∧ ρ 8 = (NI m.length : Value) ∧ ρ 9 = (NI i : Value) ∧ ρ 3 = (vo : Value) ∧ Ext w wz ∧ Ext w8 wz ∧ OG w8.heap.size 26 32 (Lib.byteCells) wz vo (o) ∧ (i ≤ m.length) ∧ (SAsc o) ∧ (∀ x, x ∈ o ↔ x ∈ m.take i) ∧ (o.length ≤ i) ∧ True) (fun ρ _ => m.length - (intOf (ρ 9)).toNat) ⟨0, [], (Value.slice none 0 0), T0, T2, T7, T8, T9, T3, hE, hA10, og_eq hrow0 (rfl), Nat.zero_le _, List.Pairwise.nil, (fun x => by simp), Nat.le_refl _, trivial⟩ ?_)))
 clear hrow0
 clear hE hA10
 rintro ρ13 w14 ⟨i, o, vo, T0, T2, T7, T8, T9, T3, hE, hA10, hr_vo, hi, hS, hmem, hol, -⟩
 have q9 := T9
 refine sk fun K15 hK15 => (wt (oS rfl (Yk.eqI (a := (i : Nat)) (b := (m.length : Nat)) T9 T8 (k_lss _ _ _ _) (oZ (tN (hK15 _ _ (sk fun K16 hK16 => ?_)))))))
 refine wpF_cond ((i) < (m.length)) (vr (.bool (decide ((i) < (m.length)))) rfl) (fun hc0 => ?_) (fun hc0 => ?_)
 ·have hlt : i < m.length := hc0
  refine wpF_skip (tN (hK16 _ _ (sk fun K17 hK17 => (wpF_block (sk fun K18 hK18 => (wt ?_))))))
  have hl21 : (Lib.byteCells (m.getD (i) ([] : List UInt8))).length = 32 := (RG.elem (ho6.keep hA10) ([] : List UInt8) (by omega))
  refine oS rfl (Yk.atRG setK_ty31 setK_szg26 (by decide) ([] : List UInt8) (RG.of (ho6.keep hA10) T7) T9 (by omega) fun v19 hp20 => (oS rfl (Yk.loadPR (PR.of hp20 (vr v19 rfl)) setK_ty26 rfl (by rw [hl21]; exact setK_isz26) (oS rfl (Yk.alloc (cs := (Lib.byteCells (List.replicate 32 0)).toArray) setK_al26 fun n22 w23 hn24 hb25 hx26 hs27 => ?_)))))
  have hA28 := Ext.refl w14
  have hea29 := hE
  have hea30 := hA10
  have hz31 := hE.size
  have hz32 := hA10.size
  have hap33 : OB vo n22 := own_newer hr_vo.2 (by omega)
  have hE := hE.trans hx26
  have hA10 := hA10.trans hx26
  have hr_vo := hr_vo.keep hx26
  have hA28 := hA28.trans hx26
  have hb34 := hb25; clear hb25
  have hl35 : n22 < w23.heap.size := by omega
  refine oS rfl (Yk.storeAll (vr (PQ n22 0) rfl) (vr (AB (m.getD (i) ([] : List UInt8))) rfl) hb34 (by exact idsize (bytes_len32 (hl21)) List.length_replicate) (by exact sizeId_of (bytes_len32 (hl21))) (byteCells_one _) fun w36 hb37 hg38 hs39 => ?_)
  have hE := row_fresh hE hg38 (Nat.le_trans hz31 (by omega))
  have hA10 := row_fresh hA10 hg38 (Nat.le_trans hz32 (by omega))
  have hr_vo := OG.kept hr_vo hg38 hap33
  have hA28 := row_fresh hA28 hg38 (Nat.le_trans (Nat.le_refl _) (by omega))
  clear hb34
  have hb34 := hb37; clear hb37
  have hl40 := bl hb34
  refine oZ ?_
  clear hp20
  have hxl : (m.getD i []).length = 32 := bytes_len32 ((ho6.keep hA10).1 _ (getD_mem [] hlt))
  by_cases h0 : o.length = 0
  ·refine tN (hK18 _ _ (sk fun K41 hK41 => ?_))
   refine wpF_draw [Is (vo), Is (NI o.length), Is (.bool (true)), Is (.bool (true)), Is undef, Is undef, Is undef, Is undef, Is undef, Is undef, Is undef, Is undef, Is (.bool (true))] (by kernel_rfl) [13, 14, 15, 16, 17, 18, 19, 20, 21, 22, 23, 24, 25] (by kernel_rfl) (by kernel_rfl) ⟨Stab.is _, (si12 trivial)⟩ ?hs1005 ?hQ1005
   case hs1005 =>
    refine ⟨?_, ?_, ?_, ?_, ?_, ?_, ?_, ?_, ?_, ?_, ?_, ?_, ?_, trivial⟩
    ·refine stepN rfl fun σ w1 hC h => ?_
     have e3 := (eqo (h 3 (by decide))).trans T3
     exact Yk.move e3 ⟨Ext.refl _, rfl⟩
    ·refine stepN rfl fun σ w1 hC h => ?_
     have e13 := eqo (h 13 (by decide))
     exact Yk.lenRG setK_ty31 (RG.of (RG.ofOwn (hr_vo.keep hC)) e13) ⟨Ext.refl _, rfl⟩
    ·refine stepN rfl fun σ w1 hC h => ?_
     have e14 := eqo (h 14 (by decide))
     exact Yk.eqI (a := (o.length : Nat)) (b := (0 : Nat)) e14 rfl (k_eql _ _ _ _) ⟨Ext.refl _, (congrArg Value.bool (decide_eq_true (h0)))⟩
    ·refine stepN rfl fun σ w1 hC h => ?_
     have e15 := eqo (h 15 (by decide))
     exact Yk.move e15 ⟨Ext.refl _, rfl⟩
    ·refine stepX 3 false 16 rfl rfl (fun x _ (h : x = .bool true) => by rw [h]; intro h; cases h) fun _ => rfl
    ·refine stepX 3 false 16 rfl rfl (fun x _ (h : x = .bool true) => by rw [h]; intro h; cases h) fun _ => rfl
    ·refine stepX 3 false 16 rfl rfl (fun x _ (h : x = .bool true) => by rw [h]; intro h; cases h) fun _ => rfl
    ·refine stepX 3 false 16 rfl rfl (fun x _ (h : x = .bool true) => by rw [h]; intro h; cases h) fun _ => rfl
    ·refine stepX 3 false 16 rfl rfl (fun x _ (h : x = .bool true) => by rw [h]; intro h; cases h) fun _ => rfl
    ·refine stepX 3 false 16 rfl rfl (fun x _ (h : x = .bool true) => by rw [h]; intro h; cases h) fun _ => rfl
    ·refine stepX 3 false 16 rfl rfl (fun x _ (h : x = .bool true) => by rw [h]; intro h; cases h) fun _ => rfl
    ·refine stepX 3 false 16 rfl rfl (fun x _ (h : x = .bool true) => by rw [h]; intro h; cases h) fun _ => rfl
    ·refine stepN rfl fun σ w1 hC h => ?_
     have e16 := eqo (h 16 (by decide))
     exact Yk.pickT e16 (vr (.bool (true)) rfl) ⟨Ext.refl _, rfl⟩
   intro ρ42 w43 hx44 he hf
   obtain ⟨-, -, -, -, -, -, -, -, -, -, -, -, k25, -⟩ := hf
   obtain ⟨T0, T2, T3, T5, T7, T8, T9, -⟩ := he.hold [(0, _), (2, _), (3, _), (5, PQ n22 0), (7, _), (8, _), (9, _)] ⟨T0, T2, T3, rfl, T7, T8, T9, trivial⟩ rfl
   clear he
   have hE := hE.trans hx44
   have hA10 := hA10.trans hx44
   have hr_vo := hr_vo.keep hx44
   have hA28 := hA28.trans hx44
   have hb34 := eb hx44 hb34
   have T25 : ρ42 25 = .bool (true) := k25
   clear k25
   refine tN (hK41 _ _ (wpF_true T25 (wt (oM rfl (oS rfl (Yk.loadAll T5 hb34 setK_ty26 rfl (by exact sizeId_of (bytes_len32 (hl21))) (oS rfl (Yk.lit1G (a := (m.getD (i) ([] : List UInt8))) (enc := Lib.byteCells) (vr (AB (m.getD (i) ([] : List UInt8))) rfl) (by rw [Lib.byteCells_length]; exact (bytes_len32 (hl21))) setK_lg31 fun v45 w46 hr47 hx48 => ?_))))))))
   have hE := hE.trans hx48
   have hA10 := hA10.trans hx48
   have hr_vo := hr_vo.keep hx48
   have hA28 := hA28.trans hx48
   have hb34 := eb hx48 hb34
   refine oS rfl (Yk.appendRG _ _ w8.heap.size _ 32 setK_ty31 setK_ig26.choose_spec.1 setK_ig26.choose_spec.2 setK_ty31 (o) ([(m.getD (i) ([] : List UInt8))]) (OG.of hr_vo T3) (RG.of hr47 (vr v45 rfl)) (fun _ _ => byteCells_one _) (by simp only [List.length_cons, List.length_nil]; omega) (by simp only [List.length_cons, List.length_nil]; omega) hA10.size fun v49 w50 ho51 hg52 => ?_)
   have hg52 : Grew w46 w50 vo v49 := .eqv T3 hg52
   have hap53 : OB v49 n22 := apart_grew hg52 hap33 (bl hb34)
   have hE := ext_grew hE hg52 hr_vo.2 hz12
   have hA10 := ext_grew hA10 hg52 hr_vo.2 (Nat.le_refl _)
   clear hA28
   have hb34 := blk_grew hb34 hg52 hap33
   clear hr47
   clear hr_vo
   refine oA rfl (oZ ?_)
   have hq : o.length = 0 ∨ o.getD (o.length - 1) [] ≠ m.getD i [] := .inl h0
   refine bN (tN (hK17 _ _ (wt (oS rfl (Yk.bin (xv := NI i) (yv := NI 1) T9 rfl rfl (i64_add _ _ _ (by omega)) (oM rfl (oL_ [(0, v), (2, (Value.slice none 0 0)), (3, v49), (5, PQ n22 0), (7, v5), (8, NI m.length), (9, NI ((i) + (1))), (25, .bool (true))] ⟨T0, T2, rfl, T5, T7, T8, rfl, T25, trivial⟩ fun ρ54 ⟨T0, T2, T3, T5, T7, T8, T9, T25, _⟩ => (tN (And.intro ⟨i + 1, o ++ [m.getD i []], v49, T0, T2, T7, T8, T9, T3, hE, hA10, og_eq ho51 (rfl), by omega, uniq_new hma hlt hS hmem hq, uniq_memT hlt hmem, (by simp only [List.length_append, List.length_cons, List.length_nil]; omega), trivial⟩ ?_)))))))))
   show m.length - (intOf (ρ54 9)).toNat < m.length - (intOf (ρ13 9)).toNat
   rw [T9, q9]
   simp only [intOf, Int.toNat_natCast]; omega
  have hyl : (o.getD (o.length - 1) []).length = 32 := bytes_len32 (hr_vo.1 _ (getD_mem [] (by omega)))
  refine tN (hK18 _ _ (sk fun K55 hK55 => ?_))
  refine wpF_draw [Is (vo), Is (NI o.length), Is (.bool (false)), Is (.bool (false)), Is (vo), Is (vo), Is (NI o.length), Is (NI ((o.length) - (1))), fun x w' => PR (Lib.byteCells (o.getD ((o.length) - (1)) ([] : List UInt8))) x w', Is (AB (o.getD ((o.length) - (1)) ([] : List UInt8))), Is (AB (m.getD (i) ([] : List UInt8))), Is (.bool (decide ((o.getD ((o.length) - (1)) ([] : List UInt8)) ≠ (m.getD (i) ([] : List UInt8))))), Is (.bool (decide ((o.getD ((o.length) - (1)) ([] : List UInt8)) ≠ (m.getD (i) ([] : List UInt8)))))] (by kernel_rfl) [13, 14, 15, 16, 17, 18, 19, 20, 21, 22, 23, 24, 25] (by kernel_rfl) (by kernel_rfl) (si8 ⟨(fun _ _ _ h k => PR.keep h k), (si4 trivial)⟩) ?hs2005 ?hQ2005
  case hs2005 =>
   refine ⟨?_, ?_, ?_, ?_, ?_, ?_, ?_, ?_, ?_, ?_, ?_, ?_, ?_, trivial⟩
   ·refine stepN rfl fun σ w1 hC h => ?_
    have e3 := (eqo (h 3 (by decide))).trans T3
    exact Yk.move e3 ⟨Ext.refl _, rfl⟩
   ·refine stepN rfl fun σ w1 hC h => ?_
    have e13 := eqo (h 13 (by decide))
    exact Yk.lenRG setK_ty31 (RG.of (RG.ofOwn (hr_vo.keep hC)) e13) ⟨Ext.refl _, rfl⟩
   ·refine stepN rfl fun σ w1 hC h => ?_
    have e14 := eqo (h 14 (by decide))
    exact Yk.eqI (a := (o.length : Nat)) (b := (0 : Nat)) e14 rfl (k_eql _ _ _ _) ⟨Ext.refl _, (congrArg Value.bool (decide_eq_false (h0)))⟩
   ·refine stepN rfl fun σ w1 hC h => ?_
    have e15 := eqo (h 15 (by decide))
    exact Yk.move e15 ⟨Ext.refl _, rfl⟩
   ·refine stepY 3 false 16 rfl rfl (fun _ _ h => h) fun σ w1 hC h => ?_
    have e3 := (eqo (h 3 (by decide))).trans T3
    exact Yk.move e3 ⟨Ext.refl _, rfl⟩
   ·refine stepY 3 false 16 rfl rfl (fun _ _ h => h) fun σ w1 hC h => ?_
    have e3 := (eqo (h 3 (by decide))).trans T3
    exact Yk.move e3 ⟨Ext.refl _, rfl⟩
   ·refine stepY 3 false 16 rfl rfl (fun _ _ h => h) fun σ w1 hC h => ?_
    have e18 := eqo (h 18 (by decide))
    exact Yk.lenRG setK_ty31 (RG.of (RG.ofOwn (hr_vo.keep hC)) e18) ⟨Ext.refl _, rfl⟩
   ·refine stepY 3 false 16 rfl rfl (fun _ _ h => h) fun σ w1 hC h => ?_
    have e19 := eqo (h 19 (by decide))
    exact Yk.bin (xv := NI o.length) (yv := NI 1) e19 rfl rfl (i64_sub _ _ _ (by omega) (by omega)) ⟨Ext.refl _, rfl⟩
   ·refine stepY 3 false 16 rfl rfl (fun _ _ h => h) fun σ w1 hC h => ?_
    have e17 := eqo (h 17 (by decide))
    have e20 := eqo (h 20 (by decide))
    exact Yk.atRG setK_ty31 setK_szg26 (by decide) ([] : List UInt8) (RG.of (RG.ofOwn (hr_vo.keep hC)) e17) e20 (by omega) fun v h => ⟨Ext.refl _, h⟩
   ·refine stepY 3 false 16 rfl rfl (fun _ _ h => h) fun σ w1 hC h => ?_
    have e21 : (fun x w' => PR (Lib.byteCells (o.getD ((o.length) - (1)) ([] : List UInt8))) x w') (σ 21) w1 := h 21 (by decide)
    exact Yk.loadPR e21 setK_ty26 rfl (by rw [RG.elem (RG.ofOwn hr_vo) ([] : List UInt8) (by omega)]; exact setK_isz26) ⟨Ext.refl _, rfl⟩
   ·refine stepY 3 false 16 rfl rfl (fun _ _ h => h) fun σ w1 hC h => ?_
    have e5 : σ 5 = PQ n22 0 := (eqo (h 5 (by decide))).trans rfl
    exact Yk.loadAll e5 (eb hC hb34) setK_ty26 rfl (by exact sizeId_of (bytes_len32 (hl21))) ⟨Ext.refl _, rfl⟩
   ·refine stepY 3 false 16 rfl rfl (fun _ _ h => h) fun σ w1 hC h => ?_
    have e22 := eqo (h 22 (by decide))
    have e23 := eqo (h 23 (by decide))
    exact Yk.neArr (l1 := (o.getD ((o.length) - (1)) ([] : List UInt8))) (l2 := (m.getD (i) ([] : List UInt8))) setK_ty26 setK_ty5 setK_sz5 setK_eg26 e22 e23 (hyl) (hxl) ⟨Ext.refl _, rfl⟩
   ·refine stepN rfl fun σ w1 hC h => ?_
    have e16 := eqo (h 16 (by decide))
    have e24 := eqo (h 24 (by decide))
    exact Yk.pickF e16 e24 ⟨Ext.refl _, rfl⟩
  intro ρ56 w57 hx58 he hf
  obtain ⟨-, -, -, -, -, -, -, -, -, -, -, -, k25, -⟩ := hf
  obtain ⟨T0, T2, T3, T5, T7, T8, T9, -⟩ := he.hold [(0, _), (2, _), (3, _), (5, PQ n22 0), (7, _), (8, _), (9, _)] ⟨T0, T2, T3, rfl, T7, T8, T9, trivial⟩ rfl
  clear he
  have hE := hE.trans hx58
  have hA10 := hA10.trans hx58
  have hr_vo := hr_vo.keep hx58
  have hA28 := hA28.trans hx58
  have hb34 := eb hx58 hb34
  have T25 : ρ56 25 = .bool (decide ((o.getD ((o.length) - (1)) ([] : List UInt8)) ≠ (m.getD (i) ([] : List UInt8)))) := k25
  clear k25
  refine tN (hK55 _ _ ?_)
  refine wpF_cond ((o.getD ((o.length) - (1)) ([] : List UInt8)) ≠ (m.getD (i) ([] : List UInt8))) T25 (fun hc1 => ?_) (fun hc1 => ?_)
  ·have hq : o.length = 0 ∨ o.getD (o.length - 1) [] ≠ m.getD i [] := .inr hc1
   refine wt (oM rfl (oS rfl (Yk.loadAll T5 hb34 setK_ty26 rfl (by exact sizeId_of (bytes_len32 (hl21))) (oS rfl (Yk.lit1G (a := (m.getD (i) ([] : List UInt8))) (enc := Lib.byteCells) (vr (AB (m.getD (i) ([] : List UInt8))) rfl) (by rw [Lib.byteCells_length]; exact (bytes_len32 (hl21))) setK_lg31 fun v59 w60 hr61 hx62 => ?_)))))
   have hE := hE.trans hx62
   have hA10 := hA10.trans hx62
   have hr_vo := hr_vo.keep hx62
   have hA28 := hA28.trans hx62
   have hb34 := eb hx62 hb34
   refine oS rfl (Yk.appendRG _ _ w8.heap.size _ 32 setK_ty31 setK_ig26.choose_spec.1 setK_ig26.choose_spec.2 setK_ty31 (o) ([(m.getD (i) ([] : List UInt8))]) (OG.of hr_vo T3) (RG.of hr61 (vr v59 rfl)) (fun _ _ => byteCells_one _) (by simp only [List.length_cons, List.length_nil]; omega) (by simp only [List.length_cons, List.length_nil]; omega) hA10.size fun v63 w64 ho65 hg66 => ?_)
   have hg66 : Grew w60 w64 vo v63 := .eqv T3 hg66
   have hap67 : OB v63 n22 := apart_grew hg66 hap33 (bl hb34)
   have hE := ext_grew hE hg66 hr_vo.2 hz12
   have hA10 := ext_grew hA10 hg66 hr_vo.2 (Nat.le_refl _)
   clear hA28
   have hb34 := blk_grew hb34 hg66 hap33
   clear hr61
   clear hr_vo
   refine oA rfl (oZ (bN (tN (hK17 _ _ (wt (oS rfl (Yk.bin (xv := NI i) (yv := NI 1) T9 rfl rfl (i64_add _ _ _ (by omega)) (oM rfl (oL_ [(0, v), (2, (Value.slice none 0 0)), (3, v63), (5, PQ n22 0), (7, v5), (8, NI m.length), (9, NI ((i) + (1)))] ⟨T0, T2, rfl, T5, T7, T8, rfl, trivial⟩ fun ρ68 ⟨T0, T2, T3, T5, T7, T8, T9, _⟩ => (tN (And.intro ⟨i + 1, o ++ [m.getD i []], v63, T0, T2, T7, T8, T9, T3, hE, hA10, og_eq ho65 (rfl), by omega, uniq_new hma hlt hS hmem hq, uniq_memT hlt hmem, (by simp only [List.length_append, List.length_cons, List.length_nil]; omega), trivial⟩ ?_)))))))))))
   show m.length - (intOf (ρ68 9)).toNat < m.length - (intOf (ρ13 9)).toNat
   rw [T9, q9]
   simp only [intOf, Int.toNat_natCast]; omega
  have hq : ¬ o.getD (o.length - 1) [] ≠ m.getD i [] := hc1
  refine wpF_skip (bN (tN (hK17 _ _ (wt (oS rfl (Yk.bin (xv := NI i) (yv := NI 1) T9 rfl rfl (i64_add _ _ _ (by omega)) (oM rfl (oL_ [(0, v), (2, (Value.slice none 0 0)), (3, vo), (5, PQ n22 0), (7, v5), (8, NI m.length), (9, NI ((i) + (1)))] ⟨T0, T2, T3, T5, T7, T8, rfl, trivial⟩ fun ρ69 ⟨T0, T2, T3, T5, T7, T8, T9, _⟩ => (tN (And.intro ⟨i + 1, o, vo, T0, T2, T7, T8, T9, T3, hE, hA10, og_eq hr_vo (rfl), by omega, hS, uniq_memF hlt hmem h0 hq, by omega, trivial⟩ ?_))))))))))
  show m.length - (intOf (ρ69 9)).toNat < m.length - (intOf (ρ13 9)).toNat
  rw [T9, q9]
  simp only [intOf, Int.toNat_natCast]; omega
 refine wpF_exit (thenF_exit (thenF_exit (inBlockF_hit (tN (hK3 _ _ (sk fun K70 hK70 => (wt (oM rfl (oA rfl (oZ (tN (hK70 _ _ (wpF_ret (postF_ret (fn := Tryd.f33) _ rfl [vo] (vo) rfl ⟨T3, trivial⟩ ?_))))))))))))))
 rw [show i = m.length by omega, List.take_length] at hmem
 exact ⟨_, o, rfl, OG.low hr_vo (by have := hz12; omega), hS, fun x => (hmem x).trans (hmm x), by omega, hE⟩
open Go.RowKit
set_option maxRecDepth 100000
set_option linter.unusedVariables false
set_option linter.unusedSimpArgs false
theorem cut_le (p s : List UInt8) : (cutP p s).1.length ≤ s.length := by
 unfold cutP
 split
 ·show (s.drop p.length).length ≤ _; rw [List.length_drop]; omega
 ·exact Nat.le_refl _
section
variable {D : Dsk} {s : List UInt8}
theorem idOf_no (h : (cutP [111, 45] s).2 = false) : (idOf D s).isSome = false := by unfold idOf; rw [if_neg (fun q => by rw [h] at q; cases q.1)]; rfl
theorem idOf_nohex (h : (unhex (cutP [111, 45] s).1).2 = false) : (idOf D s).isSome = false := by unfold idOf; rw [if_neg (fun q => by rw [h] at q; cases q.2.1)]; rfl
theorem idOf_yes (h : (cutP [111, 45] s).2 = true) (h2 : (unhex (cutP [111, 45] s).1).2 = true) : (idOf D s).isSome = decide ((getL D (unhex (cutP [111, 45] s).1).1).2 = 0) := by
 unfold idOf
 by_cases q : (getL D (unhex (cutP [111, 45] s).1).1).2 = 0
 ·rw [if_pos ⟨h, h2, q⟩, decide_eq_true q]; rfl
 ·rw [if_neg (fun x => q x.2.2), decide_eq_false q]; rfl
theorem idOf_some (h : (idOf D s).isSome = true) : idOf D s = some (unhex (cutP [111, 45] s).1).1 := by
 unfold idOf at h ⊢
 split
 ·rfl
 ·rename_i q; rw [if_neg q] at h; cases h
theorem ids_yes {l : List (List UInt8)} {i : Nat} {x : List UInt8} (h : i < l.length) (hx : idOf D (l.getD i []) = some x) : (l.take i).filterMap (idOf D) ++ [x] = (l.take (i + 1)).filterMap (idOf D) := by
 rw [List.take_succ_eq_append_getElem h, List.filterMap_append]
 rw [List.getD_eq_getElem?_getD, List.getElem?_eq_getElem h, Option.getD_some] at hx
 rw [List.filterMap_cons_some hx]
 rfl
theorem ids_no {l : List (List UInt8)} {i : Nat} (h : i < l.length) (hx : idOf D (l.getD i []) = none) : (l.take i).filterMap (idOf D) = (l.take (i + 1)).filterMap (idOf D) := by
 rw [List.take_succ_eq_append_getElem h, List.filterMap_append]
 rw [List.getD_eq_getElem?_getD, List.getElem?_eq_getElem h, Option.getD_some] at hx
 rw [List.filterMap_cons_none hx]
 simp
theorem list_name (h : DOk D) {i : Nat} (hi : i < (listD D).length) : ((listD D).getD i []).length ≤ 80 := by
 unfold listD at hi ⊢
 split
 ·rename_i q; rw [if_pos q] at hi; cases hi
 ·rename_i q
  rw [if_neg q, List.length_map] at hi
  rw [List.getD_eq_getElem?_getD, List.getElem?_map, List.getElem?_eq_getElem hi]
  exact (mayD_pos (h.now.may _ (List.getElem_mem hi))).2
theorem ids_len (h : (listD D).length ≤ 100000) : (idsL D).length ≤ 100000 := Nat.le_trans (List.length_filterMap_le _ _) h
end
theorem ls6_al26 {d : Option Tmp} {ty : TypeId} {pos : String} {af : Array Edge} {gd : Option (Nat × Bool)} (σ : Operand → Value) (w : World) : (execOp σ ⟨d, .alloc 26, ty, pos, af, gd⟩).run Tryd.prog w = .ok (.value (PQ w.heap.size 0)) (w.alloc (.cells (Lib.byteCells (List.replicate 32 0)).toArray 26)) := by kernel_rfl
theorem ls6_pl30 : Plain Tryd.prog 30 := fun _ _ => by kernel_rfl
theorem ls6_pl31 : Plain Tryd.prog 31 := fun _ _ => by kernel_rfl
theorem ls6_ty26 : Tryd.prog.underlying 26 = some (.array 32 5) := by kernel_rfl
theorem ls6_ty23 : Tryd.prog.underlying 23 = some (.pointer 55) := by kernel_rfl
theorem ls6_pl17 : Plain Tryd.prog 17 := fun _ _ => by kernel_rfl
theorem ls6_pl32 : Plain Tryd.prog 32 := fun _ _ => by kernel_rfl
theorem ls6_ty64 : Tryd.prog.underlying 64 = some (.slice 9) := by kernel_rfl
theorem ls6_szg9 : ∀ w' : World, (sizeOf 9).run Tryd.prog w' = .ok 1 w' := fun _ => by kernel_rfl
theorem ls6_ty9 : Tryd.prog.underlying 9 = some (.string) := by kernel_rfl
theorem ls6_pl29 : Plain Tryd.prog 29 := fun _ _ => by kernel_rfl
theorem ls6_lh31 (c0 c1 c2 c3 c4 c5 c6 c7 c8 c9 c10 c11 c12 c13 c14 c15 c16 c17 c18 c19 c20 c21 c22 c23 c24 c25 c26 c27 c28 c29 c30 c31 : Value) (w : World) : (Instr.buildSlice 31 1 #[(0, .agg #[c0, c1, c2, c3, c4, c5, c6, c7, c8, c9, c10, c11, c12, c13, c14, c15, c16, c17, c18, c19, c20, c21, c22, c23, c24, c25, c26, c27, c28, c29, c30, c31])]).run Tryd.prog w = .ok (.slice (some ⟨w.heap.size, 0, none⟩) 1 1) (w.alloc (.cells #[c0, c1, c2, c3, c4, c5, c6, c7, c8, c9, c10, c11, c12, c13, c14, c15, c16, c17, c18, c19, c20, c21, c22, c23, c24, c25, c26, c27, c28, c29, c30, c31] 26)) := by kernel_rfl
theorem ls6_lg31 : ∀ (cs : Array Value), cs.size = 32 → ∀ w : World, (Instr.buildSlice 31 1 #[(0, .agg cs)]).run Tryd.prog w = .ok (.slice (some ⟨w.heap.size, 0, none⟩) 1 1) (w.alloc (.cells cs 26))
 | ⟨[c0, c1, c2, c3, c4, c5, c6, c7, c8, c9, c10, c11, c12, c13, c14, c15, c16, c17, c18, c19, c20, c21, c22, c23, c24, c25, c26, c27, c28, c29, c30, c31]⟩, _, w => ls6_lh31 c0 c1 c2 c3 c4 c5 c6 c7 c8 c9 c10 c11 c12 c13 c14 c15 c16 c17 c18 c19 c20 c21 c22 c23 c24 c25 c26 c27 c28 c29 c30 c31 w
theorem ls6_ig26 : ∃ z, (Tryd.prog.info? 26).map (fun i => (i.zero, i.size, i.bytes)) = some (some z, 32, 32) ∧ z.cells.size = 32 := info_ex (by kernel_rfl)
theorem ls6_ty31 : Tryd.prog.underlying 31 = some (.slice 26) := by kernel_rfl
theorem ls6_pl33 : Plain Tryd.prog 33 := fun _ _ => by kernel_rfl
set_option maxHeartbeats 1600000
theorem listOf_at (wb w : World) (g : Nat) (H : Dk) (D : Dsk) (hD : DkG wb w g H D) (hG : Laid wb) (hL : DLt D) (s : List UInt8) (hs : s.length ≤ 9223372036854775807) (bd : Nat) (hbd : w.heap[bd]? = some (.cells ([PQ g 0]).toArray 23 (0, 0))) :
  Calls Tryd.prog 29 #[St s, PQ bd 0] w fun e w' => e = .returned (.tuple #[AB ((unhex (cutP [111, 45] s).1).1), .bool (idOf D s).isSome]) ∧ Ext w w' := by
 refine calls_of_wpF (args := [St (s), PQ bd 0]) Tryd.func29 rfl 29 rfl (Nat.le_of_ble_eq_true rfl) ?_
 intro ρ0 hb
 have T0 : ρ0 0 = (St (s) : Value) := hb.get 0
 have T1 : ρ0 1 = (PQ bd 0 : Value) := hb.get 1
 clear hb
 have hE := Ext.refl w
 refine sk fun K1 hK1 => (wt (oS rfl (Yk.alloc (cs := (Lib.byteCells (List.replicate 32 0)).toArray) ls6_al26 fun n2 w3 hn4 hb5 hx6 hs7 => ?_)))
 have hlt8 := lte (bl hbd) hn4
 have hbd := eb hx6 hbd
 have hE := hE.trans hx6
 have hb9 := hb5; clear hb5
 have hl10 : n2 < w3.heap.size := by omega
 refine oA rfl (oZ (tN (hK1 _ _ (sk fun K11 hK11 => (wt (oM rfl (oS rfl (Yk.callA2 ls6_pl30 T0 (vr (St (([111, 45] : List UInt8))) rfl) ((cutPrefix_any _ s [111, 45] hs).mono ?_)))))))))
 rintro e w13 ⟨rfl, hx12⟩
 refine ⟨_, rfl, ?_⟩
 have hbd := eb hx12 hbd
 have hE := hE.trans hx12
 have hb9 := eb hx12 hb9
 refine oM rfl (oS rfl (Yk.extract (vs := [St ((cutP [111, 45] s).1), .bool ((cutP [111, 45] s).2)]) (vr (.tuple #[St ((cutP [111, 45] s).1), .bool ((cutP [111, 45] s).2)]) rfl) (show _ = some (St ((cutP [111, 45] s).1) : Value) from rfl) (oS rfl (Yk.extract (vs := [St ((cutP [111, 45] s).1), .bool ((cutP [111, 45] s).2)]) (vr (.tuple #[St ((cutP [111, 45] s).1), .bool ((cutP [111, 45] s).2)]) rfl) (show _ = some (.bool ((cutP [111, 45] s).2) : Value) from rfl) (oA rfl (oA rfl (oZ (tN (hK11 _ _ (sk fun K14 hK14 => (wt (oM rfl (oS rfl (Yk.callA1 ls6_pl31 (vr (St ((cutP [111, 45] s).1)) rfl) ((unhex_any _ (cutP [111, 45] s).1 (Nat.le_trans (cut_le _ _) hs)).mono ?_)))))))))))))))
 rintro e w16 ⟨rfl, hx15⟩
 refine ⟨_, rfl, ?_⟩
 have hbd := eb hx15 hbd
 have hE := hE.trans hx15
 have hb9 := eb hx15 hb9
 refine oM rfl (oS rfl (Yk.extract (vs := [AB ((unhex (cutP [111, 45] s).1).1), .bool ((unhex (cutP [111, 45] s).1).2)]) (vr (.tuple #[AB ((unhex (cutP [111, 45] s).1).1), .bool ((unhex (cutP [111, 45] s).1).2)]) rfl) (show _ = some (AB ((unhex (cutP [111, 45] s).1).1) : Value) from rfl) (oS rfl (Yk.extract (vs := [AB ((unhex (cutP [111, 45] s).1).1), .bool ((unhex (cutP [111, 45] s).1).2)]) (vr (.tuple #[AB ((unhex (cutP [111, 45] s).1).1), .bool ((unhex (cutP [111, 45] s).1).2)]) rfl) (show _ = some (.bool ((unhex (cutP [111, 45] s).1).2) : Value) from rfl) (oS rfl (Yk.alloc (cs := (Lib.byteCells (List.replicate 32 0)).toArray) ls6_al26 fun n17 w18 hn19 hb20 hx21 hs22 => ?_))))))
 have hA23 := Ext.refl w16
 have hea24 := hE
 have hz25 := hE.size
 have hlt26 := lte (bl hbd) hn19
 have hlt27 := lte (bl hb9) hn19
 have hbd := eb hx21 hbd
 have hE := hE.trans hx21
 have hb9 := eb hx21 hb9
 have hA23 := hA23.trans hx21
 have hb28 := hb20; clear hb20
 have hl29 : n17 < w18.heap.size := by omega
 refine oS rfl (Yk.storeAll (vr (PQ n17 0) rfl) (vr (AB ((unhex (cutP [111, 45] s).1).1)) rfl) hb28 (by exact idsize (unhex_length _) List.length_replicate) (by exact sizeId_of (unhex_length _)) (byteCells_one _) fun w30 hb31 hg32 hs33 => ?_)
 have hbd := kb hg32 hbd (by omega)
 have hE := row_fresh hE hg32 (Nat.le_trans hz25 (by omega))
 have hb9 := kb hg32 hb9 (by omega)
 have hA23 := row_fresh hA23 hg32 (Nat.le_trans (Nat.le_refl _) (by omega))
 clear hb28
 have hb28 := hb31; clear hb31
 have hl34 := bl hb28
 refine oA rfl (oZ ?_)
 rcases Bool.eq_false_or_eq_true (cutP [111, 45] s).2 with hc | hc
 ·rcases Bool.eq_false_or_eq_true (unhex (cutP [111, 45] s).1).2 with hu | hu
  ·refine tN (hK14 _ _ (sk fun K35 hK35 => ?_))
   refine wpF_draw_lateP 9 10 [Is (AB ((unhex (cutP [111, 45] s).1).1)), Is (.bool (true)), Is (.bool (true)), Is (.bool (true)), Is (.bool (true)), Is (.bool (true)), Is (PQ g 0), Is (AB ((unhex (cutP [111, 45] s).1).1)), Is (.bool (decide ((getL D (unhex (cutP [111, 45] s).1).1).2 = 0))), Is (.bool (decide ((getL D (unhex (cutP [111, 45] s).1).1).2 = 0)))] (by kernel_rfl) [19, 20, 21, 22, 23, 24, 25, 26, 27, 28, 4] (by kernel_rfl) rfl (by kernel_rfl) (by kernel_rfl) (by kernel_rfl) (by kernel_rfl) (by kernel_rfl) (by kernel_rfl) rfl rfl (si10 trivial) (fun _ _ _ _ h => h) ?hs1003 ?hQ1003
   case hs1003 =>
    refine ⟨?_, ?_, ?_, ?_, ?_, ?_, ?_, ?_, ?_, ?_, ?_, ?_, trivial⟩
    ·refine stepFC (stepN rfl fun σ w1 hC h => ?_)
     have e7 : σ 7 = PQ n17 0 := (eqo (h 7 (by decide))).trans rfl
     exact Yk.loadAll e7 (eb hC hb28) ls6_ty26 rfl (by exact sizeId_of (unhex_length _)) ⟨Ext.refl _, rfl⟩
    ·refine stepFC (stepN rfl fun σ w1 hC h => ?_)
     have e6 : σ 6 = .bool (true) := (eqo (h 6 (by decide))).trans ((show _ = Value.bool (cutP [111, 45] s).2 from rfl).trans (congrArg Value.bool hc))
     exact Yk.move e6 ⟨Ext.refl _, rfl⟩
    ·refine stepFC (stepN rfl fun σ w1 hC h => ?_)
     have e20 := eqo (h 20 (by decide))
     exact Yk.move e20 ⟨Ext.refl _, rfl⟩
    ·refine stepFC (stepY 2 true 21 rfl rfl (fun _ _ h => h) fun σ w1 hC h => ?_)
     have e8 : σ 8 = .bool (true) := (eqo (h 8 (by decide))).trans ((show _ = Value.bool (unhex (cutP [111, 45] s).1).2 from rfl).trans (congrArg Value.bool hu))
     exact Yk.move e8 ⟨Ext.refl _, rfl⟩
    ·refine stepFC (stepN rfl fun σ w1 hC h => ?_)
     have e21 := eqo (h 21 (by decide))
     have e22 := eqo (h 22 (by decide))
     exact Yk.pickT e21 e22 ⟨Ext.refl _, rfl⟩
    ·refine stepFC (stepN rfl fun σ w1 hC h => ?_)
     have e23 := eqo (h 23 (by decide))
     exact Yk.move e23 ⟨Ext.refl _, rfl⟩
    ·refine stepFC (stepY 5 true 24 rfl rfl (fun _ _ h => h) fun σ w1 hC h => ?_)
     have e1 := (eqo (h 1 (by decide))).trans T1
     exact Yk.cell1 ls6_ty23 rfl e1 (cellAt (eb hC hbd) (show _ = some (PQ g 0 : Value) from rfl)) ⟨Ext.refl _, rfl⟩
    ·refine stepFC (stepY 5 true 24 rfl rfl (fun _ _ h => h) fun σ w1 hC h => ?_)
     have e7 : σ 7 = PQ n17 0 := (eqo (h 7 (by decide))).trans rfl
     exact Yk.loadAll e7 (eb hC hb28) ls6_ty26 rfl (by exact sizeId_of (unhex_length _)) ⟨Ext.refl _, rfl⟩
    ·refine stepFC (stepY 5 true 24 rfl rfl (fun _ _ h => h) fun σ w1 hC h => ?_)
     have e25 := eqo (h 25 (by decide))
     have e26 := eqo (h 26 (by decide))
     refine Yk.callA2 ls6_pl17 e25 e26 ((lhas_at wb _ g H D (hD.keep (hE.trans hC)) hG hL (unhex (cutP [111, 45] s).1).1 (unhex_length _)).mono ?_)
     rintro e w2 ⟨rfl, hx⟩
     exact ⟨_, rfl, hx, rfl⟩
    ·refine stepFC (stepN rfl fun σ w1 hC h => ?_)
     have e24 := eqo (h 24 (by decide))
     have e27 := eqo (h 27 (by decide))
     exact Yk.pickT e24 e27 ⟨Ext.refl _, rfl⟩
    ·exact trivial
    ·exact trivial
   intro ρ36 w37 hx38 he hf
   obtain ⟨k19, -, -, -, -, -, -, -, -, k28, -⟩ := hf
   obtain ⟨T0, T1, T3, T5, T6, T7, T8, -⟩ := he.hold [(0, _), (1, _), (3, PQ n2 0), (5, St ((cutP [111, 45] s).1)), (6, _), (7, PQ n17 0), (8, _)] ⟨T0, T1, rfl, rfl, ((show _ = Value.bool (cutP [111, 45] s).2 from rfl).trans (congrArg Value.bool hc)), rfl, ((show _ = Value.bool (unhex (cutP [111, 45] s).1).2 from rfl).trans (congrArg Value.bool hu)), trivial⟩ rfl
   clear he
   have hbd := eb hx38 hbd
   have hE := hE.trans hx38
   have hb9 := eb hx38 hb9
   have hA23 := hA23.trans hx38
   have hb28 := eb hx38 hb28
   have T19 : ρ36 19 = AB ((unhex (cutP [111, 45] s).1).1) := k19
   have T28 : ρ36 28 = .bool (decide ((getL D (unhex (cutP [111, 45] s).1).1).2 = 0)) := k28
   clear k19 k28
   refine oS rfl (Yk.storeAll T3 T19 hb9 (by exact idsize (unhex_length _) List.length_replicate) (by exact sizeId_of (unhex_length _)) (byteCells_one _) fun w39 hb40 hg41 hs42 => ?_)
   have hbd := kb hg41 hbd (by omega)
   have hE := row_fresh hE hg41 (Nat.le_trans (Nat.le_refl _) (by omega))
   clear hA23
   have hb28 := kb hg41 hb28 (by omega)
   clear hb9
   have hb9 := hb40; clear hb40
   have hl43 := bl hb9
   refine oA rfl (oZ (tN (hK35 _ _ (wpF_ret (postF_ret (fn := Tryd.f29) _ rfl [AB ((unhex (cutP [111, 45] s).1).1), .bool (decide ((getL D (unhex (cutP [111, 45] s).1).1).2 = 0))] (.tuple #[AB ((unhex (cutP [111, 45] s).1).1), .bool (decide ((getL D (unhex (cutP [111, 45] s).1).1).2 = 0))]) rfl ⟨ResF.row T3 hb9 ls6_ty26 rfl (by exact sizeId_of (unhex_length _)), T28, trivial⟩ ?_)))))
   exact ⟨by rw [idOf_yes hc hu], hE⟩
  refine tN (hK14 _ _ (sk fun K44 hK44 => ?_))
  refine wpF_draw_lateP 9 10 [Is (AB ((unhex (cutP [111, 45] s).1).1)), Is (.bool (true)), Is (.bool (true)), Is (.bool (false)), Is (.bool (false)), Is (.bool (false)), Is undef, Is undef, Is undef, Is (.bool (false))] (by kernel_rfl) [19, 20, 21, 22, 23, 24, 25, 26, 27, 28, 4] (by kernel_rfl) rfl (by kernel_rfl) (by kernel_rfl) (by kernel_rfl) (by kernel_rfl) (by kernel_rfl) (by kernel_rfl) rfl rfl (si10 trivial) (fun _ _ _ _ h => h) ?hs2003 ?hQ2003
  case hs2003 =>
   refine ⟨?_, ?_, ?_, ?_, ?_, ?_, ?_, ?_, ?_, ?_, ?_, ?_, trivial⟩
   ·refine stepFC (stepN rfl fun σ w1 hC h => ?_)
    have e7 : σ 7 = PQ n17 0 := (eqo (h 7 (by decide))).trans rfl
    exact Yk.loadAll e7 (eb hC hb28) ls6_ty26 rfl (by exact sizeId_of (unhex_length _)) ⟨Ext.refl _, rfl⟩
   ·refine stepFC (stepN rfl fun σ w1 hC h => ?_)
    have e6 : σ 6 = .bool (true) := (eqo (h 6 (by decide))).trans ((show _ = Value.bool (cutP [111, 45] s).2 from rfl).trans (congrArg Value.bool hc))
    exact Yk.move e6 ⟨Ext.refl _, rfl⟩
   ·refine stepFC (stepN rfl fun σ w1 hC h => ?_)
    have e20 := eqo (h 20 (by decide))
    exact Yk.move e20 ⟨Ext.refl _, rfl⟩
   ·refine stepFC (stepY 2 true 21 rfl rfl (fun _ _ h => h) fun σ w1 hC h => ?_)
    have e8 : σ 8 = .bool (false) := (eqo (h 8 (by decide))).trans ((show _ = Value.bool (unhex (cutP [111, 45] s).1).2 from rfl).trans (congrArg Value.bool hu))
    exact Yk.move e8 ⟨Ext.refl _, rfl⟩
   ·refine stepFC (stepN rfl fun σ w1 hC h => ?_)
    have e21 := eqo (h 21 (by decide))
    have e22 := eqo (h 22 (by decide))
    exact Yk.pickT e21 e22 ⟨Ext.refl _, rfl⟩
   ·refine stepFC (stepN rfl fun σ w1 hC h => ?_)
    have e23 := eqo (h 23 (by decide))
    exact Yk.move e23 ⟨Ext.refl _, rfl⟩
   ·refine stepFC (stepX 5 true 24 rfl rfl (fun x _ (h : x = .bool false) => by rw [h]; intro h; cases h) fun _ => rfl)
   ·refine stepFC (stepX 5 true 24 rfl rfl (fun x _ (h : x = .bool false) => by rw [h]; intro h; cases h) fun _ => rfl)
   ·refine stepFC (stepX 5 true 24 rfl rfl (fun x _ (h : x = .bool false) => by rw [h]; intro h; cases h) fun _ => rfl)
   ·refine stepFC (stepN rfl fun σ w1 hC h => ?_)
    have e24 := eqo (h 24 (by decide))
    exact Yk.pickF e24 (vr (.bool (false)) rfl) ⟨Ext.refl _, rfl⟩
   ·exact trivial
   ·exact trivial
  intro ρ45 w46 hx47 he hf
  obtain ⟨k19, -, -, -, -, -, -, -, -, k28, -⟩ := hf
  obtain ⟨T0, T1, T3, T5, T6, T7, T8, -⟩ := he.hold [(0, _), (1, _), (3, PQ n2 0), (5, St ((cutP [111, 45] s).1)), (6, _), (7, PQ n17 0), (8, _)] ⟨T0, T1, rfl, rfl, ((show _ = Value.bool (cutP [111, 45] s).2 from rfl).trans (congrArg Value.bool hc)), rfl, ((show _ = Value.bool (unhex (cutP [111, 45] s).1).2 from rfl).trans (congrArg Value.bool hu)), trivial⟩ rfl
  clear he
  have hbd := eb hx47 hbd
  have hE := hE.trans hx47
  have hb9 := eb hx47 hb9
  have hA23 := hA23.trans hx47
  have hb28 := eb hx47 hb28
  have T19 : ρ45 19 = AB ((unhex (cutP [111, 45] s).1).1) := k19
  have T28 : ρ45 28 = .bool (false) := k28
  clear k19 k28
  refine oS rfl (Yk.storeAll T3 T19 hb9 (by exact idsize (unhex_length _) List.length_replicate) (by exact sizeId_of (unhex_length _)) (byteCells_one _) fun w48 hb49 hg50 hs51 => ?_)
  have hbd := kb hg50 hbd (by omega)
  have hE := row_fresh hE hg50 (Nat.le_trans (Nat.le_refl _) (by omega))
  clear hA23
  have hb28 := kb hg50 hb28 (by omega)
  clear hb9
  have hb9 := hb49; clear hb49
  have hl52 := bl hb9
  refine oA rfl (oZ (tN (hK44 _ _ (wpF_ret (postF_ret (fn := Tryd.f29) _ rfl [AB ((unhex (cutP [111, 45] s).1).1), .bool (false)] (.tuple #[AB ((unhex (cutP [111, 45] s).1).1), .bool (false)]) rfl ⟨ResF.row T3 hb9 ls6_ty26 rfl (by exact sizeId_of (unhex_length _)), T28, trivial⟩ ?_)))))
  exact ⟨by rw [idOf_nohex hu], hE⟩
 refine tN (hK14 _ _ (sk fun K53 hK53 => ?_))
 refine wpF_draw_lateP 9 10 [Is (AB ((unhex (cutP [111, 45] s).1).1)), Is (.bool (false)), Is (.bool (false)), Is undef, Is (.bool (false)), Is (.bool (false)), Is undef, Is undef, Is undef, Is (.bool (false))] (by kernel_rfl) [19, 20, 21, 22, 23, 24, 25, 26, 27, 28, 4] (by kernel_rfl) rfl (by kernel_rfl) (by kernel_rfl) (by kernel_rfl) (by kernel_rfl) (by kernel_rfl) (by kernel_rfl) rfl rfl (si10 trivial) (fun _ _ _ _ h => h) ?hs3003 ?hQ3003
 case hs3003 =>
  refine ⟨?_, ?_, ?_, ?_, ?_, ?_, ?_, ?_, ?_, ?_, ?_, ?_, trivial⟩
  ·refine stepFC (stepN rfl fun σ w1 hC h => ?_)
   have e7 : σ 7 = PQ n17 0 := (eqo (h 7 (by decide))).trans rfl
   exact Yk.loadAll e7 (eb hC hb28) ls6_ty26 rfl (by exact sizeId_of (unhex_length _)) ⟨Ext.refl _, rfl⟩
  ·refine stepFC (stepN rfl fun σ w1 hC h => ?_)
   have e6 : σ 6 = .bool (false) := (eqo (h 6 (by decide))).trans ((show _ = Value.bool (cutP [111, 45] s).2 from rfl).trans (congrArg Value.bool hc))
   exact Yk.move e6 ⟨Ext.refl _, rfl⟩
  ·refine stepFC (stepN rfl fun σ w1 hC h => ?_)
   have e20 := eqo (h 20 (by decide))
   exact Yk.move e20 ⟨Ext.refl _, rfl⟩
  ·refine stepFC (stepX 2 true 21 rfl rfl (fun x _ (h : x = .bool false) => by rw [h]; intro h; cases h) fun _ => rfl)
  ·refine stepFC (stepN rfl fun σ w1 hC h => ?_)
   have e21 := eqo (h 21 (by decide))
   exact Yk.pickF e21 (vr (.bool (false)) rfl) ⟨Ext.refl _, rfl⟩
  ·refine stepFC (stepN rfl fun σ w1 hC h => ?_)
   have e23 := eqo (h 23 (by decide))
   exact Yk.move e23 ⟨Ext.refl _, rfl⟩
  ·refine stepFC (stepX 5 true 24 rfl rfl (fun x _ (h : x = .bool false) => by rw [h]; intro h; cases h) fun _ => rfl)
  ·refine stepFC (stepX 5 true 24 rfl rfl (fun x _ (h : x = .bool false) => by rw [h]; intro h; cases h) fun _ => rfl)
  ·refine stepFC (stepX 5 true 24 rfl rfl (fun x _ (h : x = .bool false) => by rw [h]; intro h; cases h) fun _ => rfl)
  ·refine stepFC (stepN rfl fun σ w1 hC h => ?_)
   have e24 := eqo (h 24 (by decide))
   exact Yk.pickF e24 (vr (.bool (false)) rfl) ⟨Ext.refl _, rfl⟩
  ·exact trivial
  ·exact trivial
 intro ρ54 w55 hx56 he hf
 obtain ⟨k19, -, -, -, -, -, -, -, -, k28, -⟩ := hf
 obtain ⟨T0, T1, T3, T5, T6, T7, T8, -⟩ := he.hold [(0, _), (1, _), (3, PQ n2 0), (5, St ((cutP [111, 45] s).1)), (6, _), (7, PQ n17 0), (8, .bool ((unhex (cutP [111, 45] s).1).2))] ⟨T0, T1, rfl, rfl, ((show _ = Value.bool (cutP [111, 45] s).2 from rfl).trans (congrArg Value.bool hc)), rfl, rfl, trivial⟩ rfl
 clear he
 have hbd := eb hx56 hbd
 have hE := hE.trans hx56
 have hb9 := eb hx56 hb9
 have hA23 := hA23.trans hx56
 have hb28 := eb hx56 hb28
 have T19 : ρ54 19 = AB ((unhex (cutP [111, 45] s).1).1) := k19
 have T28 : ρ54 28 = .bool (false) := k28
 clear k19 k28
 refine oS rfl (Yk.storeAll T3 T19 hb9 (by exact idsize (unhex_length _) List.length_replicate) (by exact sizeId_of (unhex_length _)) (byteCells_one _) fun w57 hb58 hg59 hs60 => ?_)
 have hbd := kb hg59 hbd (by omega)
 have hE := row_fresh hE hg59 (Nat.le_trans (Nat.le_refl _) (by omega))
 clear hA23
 have hb28 := kb hg59 hb28 (by omega)
 clear hb9
 have hb9 := hb58; clear hb58
 have hl61 := bl hb9
 refine oA rfl (oZ (tN (hK53 _ _ (wpF_ret (postF_ret (fn := Tryd.f29) _ rfl [AB ((unhex (cutP [111, 45] s).1).1), .bool (false)] (.tuple #[AB ((unhex (cutP [111, 45] s).1).1), .bool (false)]) rfl ⟨ResF.row T3 hb9 ls6_ty26 rfl (by exact sizeId_of (unhex_length _)), T28, trivial⟩ ?_)))))
 exact ⟨by rw [idOf_no hc], hE⟩

theorem llist_at (wb w : World) (g : Nat) (H : Dk) (D : Dsk) (hD : DkG wb w g H D) (hG : Laid wb) (hL : DLt D) (hnm : (listD D).length ≤ 100000) :
  Calls Tryd.prog 9 #[PQ g 0] w fun e w' => ∃ v o, e = .returned v ∧ OG w.heap.size 26 32 (Lib.byteCells) w' v o ∧ SAsc o ∧ (∀ x, x ∈ o ↔ x ∈ idsL D) ∧ o.length ≤ (idsL D).length ∧ Ext w w' := by
 refine calls_of_wpF (args := [PQ g 0]) Tryd.func9 rfl 31 rfl (Nat.le_of_ble_eq_true rfl) ?_
 intro ρ0 hb
 have T0 : ρ0 0 = (PQ g 0 : Value) := hb.get 0
 clear hb
 have hE := Ext.refl w
 refine sk fun K1 hK1 => (wt (oS rfl (Yk.box1 T0 rfl fun n2 w3 hn4 hb5 hx6 hs7 => ?_)))
 have hE := hE.trans hx6
 have hb8 := hb5; clear hb5
 have hl9 : n2 < w3.heap.size := by omega
 refine oA rfl (oZ (tN (hK1 _ _ (sk fun K10 hK10 => (wt (oS rfl (Yk.mkFunc (vs := #[PQ n2 0]) (by simp only [List.map_toArray, List.map_cons, List.map_nil]; exact congrArg List.toArray (list1 (vr (PQ n2 0) rfl))) (oA rfl (oZ (tN (hK10 _ _ (sk fun K11 hK11 => (wt (oA rfl (oZ (tN (hK11 _ _ (sk fun K12 hK12 => (sk fun K13 hK13 => ?_)))))))))))))))))))
 refine wt (oS rfl (Yk.cell1 ls6_ty23 rfl (vr (PQ n2 0) rfl) (cellAt hb8 (show _ = some (PQ g 0 : Value) from rfl)) ?_))
 have hA17 := Ext.refl w3
 have hea18 := hE
 have hz19 := hE.size
 refine oS rfl (Yk.callA1 ls6_pl32 (vr (PQ g 0) rfl) (((hD.keep hE).list hL).mono ?_))
 rintro e w20 ⟨v14, rfl, ho15, hx16⟩
 refine ⟨_, rfl, ?_⟩
 have hap21 : OB v14 n2 := own_older ho15.2 (bl hb8)
 have hE := hE.trans hx16
 have hb8 := eb hx16 hb8
 have hA17 := hA17.trans hx16
 have hr22 := RG.ofOwn ho15
 refine oS rfl (Yk.lenRG ls6_ty64 (RG.of hr22 (vr v14 rfl)) (oM rfl (oL_ [(0, PQ g 0), (1, PQ n2 0), (2, (Value.slice none 0 0)), (3, .func (.func 29) #[] #[PQ n2 0]), (4, (Value.slice none 0 0)), (11, v14), (12, NI (((listD D)).length)), (13, NI 0)] ⟨T0, rfl, rfl, rfl, rfl, rfl, rfl, rfl, trivial⟩ fun ρ23 ⟨T0, T1, T2, T3, T4, T11, T12, T13, _⟩ => ?_)))
 have hA24 := Ext.refl w20
 have hea25 := hE
 have hea26 := hA17
 have hz27 := hE.size
 have hz28 := hA17.size
 have hrow0 : OG w20.heap.size 26 32 (Lib.byteCells) w20 (Value.slice none 0 0) ([] : List (List UInt8)) := OG.nil _ _ _ _ _
 have hap29 : Value.ownBlock (Value.slice none 0 0) ≠ some n2 := fun e_ => by cases e_
 have hDk := hD
 have hL100 := hnm
 refine tN (hK13 _ _ (wpF_block (wpF_loop (fun (ρ : Slots) (wz : World) => ∃ i : Nat, ∃ r : Value, ρ 0 = (PQ g 0 : Value) ∧ ρ 1 = (PQ n2 0 : Value) ∧ ρ 2 = ((Value.slice none 0 0) : Value) ∧ ρ 3 = (.func (.func 29) #[] #[PQ n2 0] : Value) ∧ ρ 11 = (v14 : Value) ∧ ρ 12 = (NI (((listD D)).length) : Value) ∧ ρ 13 = (NI i : Value) ∧ ρ 4 = (r : Value) ∧ Ext w wz ∧ wz.heap[n2]? = some (.cells (([PQ g 0] : List Value)).toArray 23 (0, 0)) ∧ Ext w20 wz ∧ OG w20.heap.size 26 32 (Lib.byteCells) wz r (((listD D).take i).filterMap (idOf D)) ∧ (i ≤ (listD D).length) ∧ (OB r n2) ∧ True) (fun ρ _ => (listD D).length - (intOf (ρ 13)).toNat) ⟨0, (Value.slice none 0 0), T0, T1, T2, T3, T11, T12, T13, T4, hE, hb8, hA24, og_eq hrow0 (rfl), Nat.zero_le _, hap29, trivial⟩ ?_)))
 clear hA17
 clear hrow0
 clear hE hb8 hA24
 rintro ρ30 w31 ⟨i, r, T0, T1, T2, T3, T11, T12, T13, T4, hE, hb8, hA24, hr_r, hi, hap_r_n2, -⟩
 have q13 := T13
 refine sk fun K32 hK32 => (wt (oS rfl (Yk.eqI (a := (i : Nat)) (b := (((listD D)).length : Nat)) T13 T12 (k_lss _ _ _ _) (oZ (tN (hK32 _ _ (sk fun K33 hK33 => ?_)))))))
 refine wpF_cond ((i) < (((listD D)).length)) (vr (.bool (decide ((i) < (((listD D)).length)))) rfl) (fun hc0 => ?_) (fun hc0 => ?_)
 ·have hlt : i < (listD D).length := hc0
  have hel := list_name hDk.st.ok hlt
  have hfl : (((listD D).take i).filterMap (idOf D)).length ≤ i := Nat.le_trans (List.length_filterMap_le _ _) (by rw [List.length_take]; exact Nat.min_le_left _ _)
  refine wpF_skip (tN (hK33 _ _ (sk fun K34 hK34 => (wpF_block (sk fun K35 hK35 => (wt ?_))))))
  have hl38 : (enS (((listD D)).getD (i) ([] : List UInt8))).length = 1 := (RG.elem (hr22.keep hA24) ([] : List UInt8) (by omega))
  refine oS rfl (Yk.atRG ls6_ty64 ls6_szg9 (by decide) ([] : List UInt8) (RG.of (hr22.keep hA24) T11) T13 (by omega) fun v36 hp37 => (oS rfl (Yk.loadC ls6_ty9 rfl (PR.cell (PR.of hp37 (vr v36 rfl)) (show _ = some (St (((listD D)).getD (i) ([] : List UInt8)) : Value) from rfl)) (oA rfl (oZ ?_)))))
  clear hp37
  refine tN (hK35 _ _ (sk fun K39 hK39 => (wt (oM rfl (oM rfl (oS rfl (Yk.clo ls6_pl29 (caps := #[PQ n2 0]) T3 #[St (((listD D)).getD (i) ([] : List UInt8)), PQ n2 0] (by simp only [List.map_toArray, List.map_cons, List.map_nil, List.append_toArray, List.cons_append, List.nil_append]; exact congrArg List.toArray (list2 (vr (St (((listD D)).getD (i) ([] : List UInt8))) rfl) rfl)) ((listOf_at wb _ g H D (hD.keep hE) hG hL ((listD D).getD (i) ([] : List UInt8)) (by omega) n2 hb8).mono ?_))))))))
  rintro e w41 ⟨rfl, hx40⟩
  refine ⟨_, rfl, ?_⟩
  have hE := hE.trans hx40
  have hb8 := eb hx40 hb8
  have hA24 := hA24.trans hx40
  have hr_r := hr_r.keep hx40
  refine oM rfl (oS rfl (Yk.extract (vs := [AB ((unhex (cutP [111, 45] ((listD D).getD (i) ([] : List UInt8))).1).1), .bool ((idOf D ((listD D).getD (i) ([] : List UInt8))).isSome)]) (vr (.tuple #[AB ((unhex (cutP [111, 45] ((listD D).getD (i) ([] : List UInt8))).1).1), .bool ((idOf D ((listD D).getD (i) ([] : List UInt8))).isSome)]) rfl) (show _ = some (AB ((unhex (cutP [111, 45] ((listD D).getD (i) ([] : List UInt8))).1).1) : Value) from rfl) (oS rfl (Yk.extract (vs := [AB ((unhex (cutP [111, 45] ((listD D).getD (i) ([] : List UInt8))).1).1), .bool ((idOf D ((listD D).getD (i) ([] : List UInt8))).isSome)]) (vr (.tuple #[AB ((unhex (cutP [111, 45] ((listD D).getD (i) ([] : List UInt8))).1).1), .bool ((idOf D ((listD D).getD (i) ([] : List UInt8))).isSome)]) rfl) (show _ = some (.bool ((idOf D ((listD D).getD (i) ([] : List UInt8))).isSome) : Value) from rfl) (oS rfl (Yk.alloc (cs := (Lib.byteCells (List.replicate 32 0)).toArray) ls6_al26 fun n42 w43 hn44 hb45 hx46 hs47 => ?_))))))
  have hA48 := Ext.refl w41
  have hea49 := hE
  have hea50 := hA24
  have hz51 := hE.size
  have hz52 := hA24.size
  have hlt53 := lte (bl hb8) hn44
  have hap54 : OB r n42 := own_newer hr_r.2 (by omega)
  have hE := hE.trans hx46
  have hb8 := eb hx46 hb8
  have hA24 := hA24.trans hx46
  have hr_r := hr_r.keep hx46
  have hA48 := hA48.trans hx46
  have hb55 := hb45; clear hb45
  have hl56 : n42 < w43.heap.size := by omega
  refine oS rfl (Yk.storeAll (vr (PQ n42 0) rfl) (vr (AB ((unhex (cutP [111, 45] ((listD D).getD (i) ([] : List UInt8))).1).1)) rfl) hb55 (by exact idsize (unhex_length _) List.length_replicate) (by exact sizeId_of (unhex_length _)) (byteCells_one _) fun w57 hb58 hg59 hs60 => ?_)
  have hE := row_fresh hE hg59 (Nat.le_trans hz51 (by omega))
  have hb8 := kb hg59 hb8 (by omega)
  have hA24 := row_fresh hA24 hg59 (Nat.le_trans hz52 (by omega))
  have hr_r := OG.kept hr_r hg59 hap54
  have hA48 := row_fresh hA48 hg59 (Nat.le_trans (Nat.le_refl _) (by omega))
  clear hb55
  have hb55 := hb58; clear hb58
  have hl61 := bl hb55
  refine oA rfl (oZ (tN (hK39 _ _ (sk fun K62 hK62 => (wt (oM rfl (oZ (tN (hK62 _ _ ?_)))))))))
  refine wpF_condB ((idOf D ((listD D).getD (i) ([] : List UInt8))).isSome) (vr (.bool ((idOf D ((listD D).getD (i) ([] : List UInt8))).isSome)) rfl) (fun hc1 => ?_) (fun hc1 => ?_)
  ·have hi1 : idOf D ((listD D).getD (i) ([] : List UInt8)) = some (unhex (cutP [111, 45] ((listD D).getD (i) ([] : List UInt8))).1).1 := idOf_some hc1
   refine wt (oM rfl (oS rfl (Yk.loadAll (vr (PQ n42 0) rfl) hb55 ls6_ty26 rfl (by exact sizeId_of (unhex_length _)) (oS rfl (Yk.lit1G (a := (unhex (cutP [111, 45] ((listD D).getD (i) ([] : List UInt8))).1).1) (enc := Lib.byteCells) (vr (AB ((unhex (cutP [111, 45] ((listD D).getD (i) ([] : List UInt8))).1).1)) rfl) ((by rw [Lib.byteCells_length, (unhex_length _)])) ls6_lg31 fun v63 w64 hr65 hx66 => ?_)))))
   have hE := hE.trans hx66
   have hb8 := eb hx66 hb8
   have hA24 := hA24.trans hx66
   have hr_r := hr_r.keep hx66
   have hA48 := hA48.trans hx66
   have hb55 := eb hx66 hb55
   refine oS rfl (Yk.appendRG _ _ w20.heap.size _ 32 ls6_ty31 ls6_ig26.choose_spec.1 ls6_ig26.choose_spec.2 ls6_ty31 (((listD D).take i).filterMap (idOf D)) ([(unhex (cutP [111, 45] ((listD D).getD (i) ([] : List UInt8))).1).1]) (OG.of hr_r T4) (RG.of hr65 (vr v63 rfl)) (fun y _ => byteCells_one y) (by simp only [List.length_singleton]; omega) (by simp only [List.length_singleton]; omega) hA24.size fun v67 w68 ho69 hg70 => ?_)
   have hg70 : Grew w64 w68 r v67 := .eqv T4 hg70
   have hap71 : OB v67 n2 := apart_grew hg70 hap_r_n2 (bl hb8)
   have hap72 : OB v67 n42 := apart_grew hg70 hap54 (bl hb55)
   have hE := ext_grew hE hg70 hr_r.2 hz27
   have hb8 := blk_grew hb8 hg70 hap_r_n2
   have hA24 := ext_grew hA24 hg70 hr_r.2 (Nat.le_refl _)
   clear hA48
   have hb55 := blk_grew hb55 hg70 hap54
   clear hr65
   clear hr_r
   refine oA rfl (oZ (bN (tN (hK34 _ _ (wt (oS rfl (Yk.bin (xv := NI i) (yv := NI 1) T13 rfl rfl (i64_add _ _ _ (by omega)) (oM rfl (oL_ [(0, PQ g 0), (1, PQ n2 0), (2, (Value.slice none 0 0)), (3, .func (.func 29) #[] #[PQ n2 0]), (4, v67), (6, St (((listD D)).getD (i) ([] : List UInt8))), (7, PQ n42 0), (8, .bool ((idOf D ((listD D).getD (i) ([] : List UInt8))).isSome)), (11, v14), (12, NI (((listD D)).length)), (13, NI ((i) + (1)))] ⟨T0, T1, T2, T3, rfl, rfl, rfl, rfl, T11, T12, rfl, trivial⟩ fun ρ73 ⟨T0, T1, T2, T3, T4, T6, T7, T8, T11, T12, T13, _⟩ => (tN (And.intro ⟨i + 1, v67, T0, T1, T2, T3, T11, T12, T13, T4, hE, hb8, hA24, og_eq ho69 ((ids_yes hlt hi1)), by omega, hap71, trivial⟩ ?_)))))))))))
   show (listD D).length - (intOf (ρ73 13)).toNat < (listD D).length - (intOf (ρ30 13)).toNat
   rw [T13, q13]
   simp only [intOf, Int.toNat_natCast]; omega
  have hi0 : idOf D ((listD D).getD (i) ([] : List UInt8)) = none := by simpa using hc1
  refine wpF_skip (bN (tN (hK34 _ _ (wt (oS rfl (Yk.bin (xv := NI i) (yv := NI 1) T13 rfl rfl (i64_add _ _ _ (by omega)) (oM rfl (oL_ [(0, PQ g 0), (1, PQ n2 0), (2, (Value.slice none 0 0)), (3, .func (.func 29) #[] #[PQ n2 0]), (4, r), (6, St (((listD D)).getD (i) ([] : List UInt8))), (7, PQ n42 0), (8, .bool ((idOf D ((listD D).getD (i) ([] : List UInt8))).isSome)), (11, v14), (12, NI (((listD D)).length)), (13, NI ((i) + (1)))] ⟨T0, T1, T2, T3, T4, rfl, rfl, rfl, T11, T12, rfl, trivial⟩ fun ρ74 ⟨T0, T1, T2, T3, T4, T6, T7, T8, T11, T12, T13, _⟩ => (tN (And.intro ⟨i + 1, r, T0, T1, T2, T3, T11, T12, T13, T4, hE, hb8, hA24, og_eq hr_r ((ids_no hlt hi0)), by omega, hap_r_n2, trivial⟩ ?_))))))))))
  show (listD D).length - (intOf (ρ74 13)).toNat < (listD D).length - (intOf (ρ30 13)).toNat
  rw [T13, q13]
  simp only [intOf, Int.toNat_natCast]; omega
 have hie : i = (listD D).length := by have h := hc0; omega
 refine wpF_exit (thenF_exit (thenF_exit (inBlockF_hit (tN (hK12 _ _ (sk fun K75 hK75 => (wt (oM rfl ?_))))))))
 have hrl : RG 32 (Lib.byteCells) w31 r (idsL D) := rg_eq (RG.ofOwn hr_r) (by rw [hie, List.take_length]; rfl)
 have hsz9 : w.heap.size ≤ w31.heap.size := hE.size
 refine oS rfl (Yk.callA1 ls6_pl33 T4 ((set_any _ _ (idsL D) hrl (ids_len hL100)).mono ?_))
 rintro e w79 ⟨v76, o, rfl, ho77, hS, hM, hN, hx78⟩
 refine ⟨_, rfl, ?_⟩
 have hE := hE.trans hx78
 have hb8 := eb hx78 hb8
 have hA24 := hA24.trans hx78
 have hr_r := hr_r.keep hx78
 have ho9 := ho77
 refine oA rfl (oZ (tN (hK75 _ _ (wpF_ret (postF_ret (fn := Tryd.f9) _ rfl [v76] (v76) rfl ⟨rfl, trivial⟩ ?_)))))
 exact ⟨_, o, rfl, OG.low ho9 hsz9, hS, hM, hN, hE⟩
open Go.RowKit
set_option linter.unusedVariables false
theorem read_ok {D : Dsk} {s : List UInt8} {k : Nat} (hd : D.down = false) (hm : mayD s = true) (h : lookD D.now s = some k) : readD D s = ((fileD D k).1, 0) := by
  have h0 : readyD D s s = 0 := by
    unfold readyD
    rw [if_neg (by rw [hd]; decide), if_pos ⟨hm, hm⟩]
  unfold readD hasD
  rw [if_neg (by rw [h0]; exact fun q => q rfl), h]
open Go.RowKit
set_option linter.unusedVariables false
theorem file_le {D : Dsk} {m : Nat} (h : ∀ x ∈ D.files, x.1.length ≤ m) (k : Nat) : (fileD D k).1.length ≤ m := by
  by_cases hk : k < D.files.length
  · exact h _ (fileD_mem hk)
  · unfold fileD
    rw [List.getD_eq_getElem?_getD, List.getElem?_eq_none (by omega)]
    exact Nat.zero_le _
theorem used_le {D : Dsk} {c m : Nat} (h1 : D.now.length ≤ c) (h2 : ∀ x ∈ D.files, x.1.length ≤ m) : usedD D ≤ c * m := by
  have h3 := sum_le_mul (l := D.now.map fun e => (fileD D e.2).1.length) (m := m) fun x hx => by
    obtain ⟨e, _, rfl⟩ := List.mem_map.1 hx
    exact file_le h2 e.2
  rw [List.length_map] at h3
  exact Nat.le_trans h3 (Nat.mul_le_mul_right _ h1)
def InjD (l : Dir) : Prop := l.Pairwise fun a b => a.2 ≠ b.2
theorem InjD.wo {l : Dir} (h : InjD l) (s : List UInt8) : InjD (woD l s) := List.Pairwise.sublist List.filter_sublist h
theorem InjD.ins {l : Dir} (h : InjD l) (s : List UInt8) {k : Nat} (hk : ∀ e ∈ l, e.2 ≠ k) : InjD (insD l s k) := by
  unfold insD InjD
  rw [List.pairwise_append]
  refine ⟨h.sublist (List.takeWhile_sublist _), List.pairwise_cons.2 ⟨fun e he => (hk e ((List.dropWhile_sublist _).subset he)).symm, h.sublist (List.dropWhile_sublist _)⟩, fun a ha b hb => ?_⟩
  rcases List.mem_cons.1 hb with rfl | hb
  · exact hk a ((List.takeWhile_sublist _).subset ha)
  · have h2 : (l.takeWhile (fun e => Op.bytesLess e.1 s) ++ l.dropWhile (fun e => Op.bytesLess e.1 s)).Pairwise fun a b => a.2 ≠ b.2 := by rw [List.takeWhile_append_dropWhile]; exact h
    exact (List.pairwise_append.1 h2).2.2 a ha b hb
theorem InjD.turn {l : Dir} (h : InjD l) (a : ActD) (hk : a.to.length ≠ 0 → ∀ e ∈ l, e.2 = a.file → e.1 = a.frm) : InjD (turnD l a) := by
  unfold turnD
  split
  · exact h.wo _
  · rename_i hn
    refine ((h.wo _).wo _).ins _ fun e he q => ?_
    have h1 := wo_mem he
    have h2 := hk hn e (wo_mem h1) q
    have h3 := (List.mem_filter.1 h1).2
    simp [h2] at h3
theorem InjD.num (l : Dir) : InjD (numD l) := by
  unfold InjD numD
  rw [List.pairwise_iff_getElem]
  intro i j hi hj hij
  rw [List.getElem_mapIdx, List.getElem_mapIdx]
  exact Nat.ne_of_lt hij
theorem InjD.add {D : Dsk} (h : InjD D.now) (hok : DOk D) (s b : List UInt8) : InjD (addD D s b).now := by
  unfold addD
  split
  · exact h
  · exact h.turn _ fun _ e he q => absurd (hok.now.num e he) (by rw [q]; exact Nat.lt_irrefl _)
theorem armD_now (D : Dsk) : (armD D).1.now = D.now := by unfold armD; split <;> rfl
open Go.RowKit
set_option linter.unusedVariables false
theorem ready_yes {D : Dsk} {s t : List UInt8} (hd : D.down = false) (hs : mayD s = true) (ht : mayD t = true) : readyD D s t = 0 := by
  unfold readyD
  rw [if_neg (by rw [hd]; decide), if_pos ⟨hs, ht⟩]
theorem arm_no {D : Dsk} (ha : D.arm = 0) : armD D = (D, false) := by
  unfold armD
  exact if_pos ha
theorem append_ok {D : Dsk} {s b : List UInt8} (hd : D.down = false) (ha : D.arm = 0) (hm : mayD s = true) (hq : usedD D + b.length ≤ D.quota) : appendD D s b = (addD D s b, 0) := by
  unfold appendD
  rw [if_neg (by rw [ready_yes hd hm hm]; exact fun q => q rfl), if_neg (by omega), arm_no ha]
  rfl
theorem sync_ok {D : Dsk} {s : List UInt8} {k : Nat} (hd : D.down = false) (ha : D.arm = 0) (hm : mayD s = true) (hk : lookD D.now s = some k) :
    syncD D s = ({ D with files := D.files.set k ((fileD D k).1, (fileD D k).1.length), kept := D.now, acts := [] }, 0) := by
  have h : hasD D s s = .ok k := by
    unfold hasD
    rw [if_neg (by rw [ready_yes hd hm hm]; exact fun q => q rfl), hk]
  unfold syncD
  rw [h]
  show doD D _ = _
  unfold doD
  rw [arm_no ha]
  rfl
theorem getD_set_eq {l : List (List UInt8 × Nat)} {k : Nat} {x : List UInt8 × Nat} (h : k < l.length) : (l.set k x).getD k ([], 0) = x := by
  rw [List.getD_eq_getElem?_getD, List.getElem?_set_self h]
  rfl
structure Sy (D : Dsk) (s : List UInt8) (k n0 : Nat) (al : List UInt8) : Prop where
  down : D.down = false
  arm : D.arm = 0
  ok : DOk D
  may : mayD s = true
  inj : InjD D.now
  now : lookD D.now s = some k
  kept : lookD D.kept s = some k
  acts : ∀ a ∈ D.acts, a.to ≠ s ∧ a.frm ≠ s
  file : fileD D k = (al, n0)
theorem add_arm (D : Dsk) (s b : List UInt8) : (addD D s b).arm = D.arm ∧ (addD D s b).down = D.down := by
  unfold addD
  split <;> exact ⟨rfl, rfl⟩
theorem look_fold {s : List UInt8} {k : Nat} : ∀ (acs : List ActD) (l : Dir), (∀ a ∈ acs, a.to ≠ s ∧ a.frm ≠ s) → lookD l s = some k → lookD (acs.foldl turnD l) s = some k
  | [], _, _, h => h
  | a :: r, l, ha, h => look_fold r (turnD l a) (fun b hb => ha b (List.mem_cons_of_mem _ hb)) (by
      have h1 := ha a List.mem_cons_self
      rw [look_turn]
      split
      · rw [if_neg (fun q => h1.2 q.symm)]
        exact h
      · rw [if_neg (fun q => h1.1 q.symm), if_neg (fun q => h1.2 q.symm)]
        exact h)
theorem Sy.crash {D : Dsk} {s al : List UInt8} {k n0 : Nat} (h : Sy D s k n0 al) (l : List Int) : ∃ n, n0 ≤ n ∧ n ≤ al.length ∧ readD (crashD D l) s = (al.take n, 0) := by
  have hL : lookD (leftD D l) s = some k := look_fold _ _ (fun a ha => h.acts a ((List.take_sublist _ _).subset ha)) h.kept
  obtain ⟨i, hi, he⟩ := List.mem_iff_getElem.1 (look_mem hL)
  have hok := h.ok.crash l
  have hm : (s, i) ∈ numD (leftD D l) := by
    unfold numD
    rw [List.mem_mapIdx]
    exact ⟨i, hi, by rw [he]⟩
  have hlk : lookD (crashD D l).now s = some i := look_of hok.now.sort hm
  have hf : fileD (crashD D l) i = cutD D l i k := by
    show ((leftD D l).mapIdx fun i e => cutD D l i e.2).getD i ([], 0) = _
    rw [List.getD_eq_getElem?_getD, List.getElem?_mapIdx, List.getElem?_eq_getElem hi, he]
    rfl
  have hc := cutD_len h.ok l i k
  have hc2 : (cutD D l i k).1 = (fileD D k).1.take (cutD D l i k).2 := rfl
  refine ⟨(cutD D l i k).2, ?_, ?_, ?_⟩
  · unfold cutD
    show n0 ≤ (fileD D k).2 + _
    rw [h.file]
    exact Nat.le_add_right _ _
  · have := hc.2
    rw [h.file] at this
    exact this
  · rw [read_ok (show (crashD D l).down = false from rfl) h.may hlk, hf, hc2, h.file]
open Go.RowKit
set_option linter.unusedVariables false
set_option linter.unusedSimpArgs false
structure ReadyL (D : Dsk) : Prop where
  down : D.down = false
  arm : D.arm = 0
  ok : DOk D
  inj : InjD D.now
theorem nmO_may {b : List UInt8} (h : b.length = 32) : mayD (nmO b) = true := by
  unfold mayD
  rw [nmO_len h]
  rfl
section
variable {D : Dsk} {s b : List UInt8} {k : Nat}
theorem Sy.sync (h : ReadyL D) (hm : mayD s = true) (hk : lookD D.now s = some k) : (syncD D s).2 = 0 ∧ Sy (syncD D s).1 s k (fileD D k).1.length (fileD D k).1 := by
  have e := sync_ok h.down h.arm hm hk
  have hkl := (h.ok.now.look hk).1
  rw [e]
  exact ⟨rfl, h.down, h.arm, h.ok.synced k, hm, h.inj, hk, hk, (fun a h => by cases h), getD_set_eq hkl⟩
theorem drop_ok (hd : D.down = false) (ha : D.arm = 0) (hm : mayD s = true) (hk : lookD D.now s = some k) : dropD D s = (turnedD D ⟨s, [], k⟩, 0) := by
  have h : hasD D s s = .ok k := by
    unfold hasD
    rw [if_neg (by rw [ready_yes hd hm hm]; exact fun q => q rfl), hk]
  unfold dropD
  rw [h]
  show doD D _ = _
  unfold doD
  rw [arm_no ha]
  rfl
theorem ReadyL.dropped (h : ReadyL D) (hm : mayD s = true) (hk : lookD D.now s = some k) : ReadyL (turnedD D ⟨s, [], k⟩) :=
  ⟨h.down, h.arm, h.ok.turned ⟨(h.ok.now.look hk).1, fun q => absurd rfl q, (mayD_pos hm).2⟩, InjD.turn h.inj ⟨s, [], k⟩ fun q => absurd rfl q⟩
theorem look_dropped : lookD (turnedD D ⟨s, [], k⟩).now s = none := by
  show lookD (turnD D.now ⟨s, [], k⟩) s = none
  rw [look_turn, if_pos (show ([] : List UInt8).length = 0 from rfl), if_pos (show s = s from rfl)]
theorem sum_filter (p : List UInt8 × Nat → Bool) (f : List UInt8 × Nat → Nat) : ∀ l : Dir, ((l.filter p).map f).sum ≤ (l.map f).sum
  | [] => Nat.le_refl _
  | e :: r => by
    have ih := sum_filter p f r
    rw [List.filter_cons, List.map_cons, List.sum_cons]
    split
    · rw [List.map_cons, List.sum_cons]; omega
    · omega
theorem used_dropped : usedD (turnedD D ⟨s, [], k⟩) ≤ usedD D := by
  show ((turnD D.now ⟨s, [], k⟩).map fun e => (fileD D e.2).1.length).sum ≤ _
  rw [show turnD D.now ⟨s, [], k⟩ = woD D.now s from if_pos rfl]
  exact sum_filter _ _ _
theorem addL_new (hl : lookD D.now s = none) : addD D s b = { turnedD D ⟨[], s, D.files.length⟩ with files := D.files ++ [(b, 0)] } := by
  unfold addD
  rw [hl]
theorem add_look (hm : mayD s = true) (hl : lookD D.now s = none) : lookD (addD D s b).now s = some D.files.length ∧ fileD (addD D s b) D.files.length = (b, 0) := by
  have h0 := (mayD_pos hm).1
  rw [addL_new hl]
  refine ⟨?_, ?_⟩
  · show lookD (turnD D.now ⟨[], s, D.files.length⟩) s = _
    rw [look_turn, if_neg (show ¬ s.length = 0 by omega), if_pos (show s = s from rfl)]
  · show (D.files ++ [(b, 0)]).getD D.files.length ([], 0) = _
    rw [List.getD_eq_getElem?_getD, List.getElem?_append_right (Nat.le_refl _), Nat.sub_self]
    rfl
theorem ReadyL.add (h : ReadyL D) (hm : mayD s = true) (b : List UInt8) : ReadyL (addD D s b) :=
  ⟨(add_arm D s b).2.trans h.down, (add_arm D s b).1.trans h.arm, h.ok.add b hm, h.inj.add h.ok s b⟩
theorem step_zero {a : Stp} {r : List Stp} (h : (stepD D s a).2 = 0) : stepsD D s (a :: r) = stepsD (stepD D s a).1 s r := by
  rw [steps_cons, if_neg (by rw [h]; exact fun q => q rfl)]
theorem steps_add (h : ReadyL D) (hm : mayD s = true) (hl : lookD D.now s = none) (hq : usedD D + b.length ≤ D.quota) : ∃ D' k, stepsD D s [.add b, .sync] = (D', 0) ∧ Sy D' s k b.length b := by
  have e1 : stepD D s (.add b) = (addD D s b, 0) := append_ok h.down h.arm hm hq
  obtain ⟨l1, l2⟩ := add_look (b := b) hm hl
  obtain ⟨s1, s2⟩ := Sy.sync (h.add hm b) hm l1
  rw [l2] at s2
  refine ⟨(syncD (addD D s b) s).1, D.files.length, ?_, s2⟩
  rw [step_zero (by rw [e1]), e1, step_zero (a := .sync) s1]
  rfl
theorem steps_sync (h : ReadyL D) (hm : mayD s = true) (hk : lookD D.now s = some k) : ∃ D', stepsD D s [.sync] = (D', 0) ∧ Sy D' s k (fileD D k).1.length (fileD D k).1 := by
  obtain ⟨s1, s2⟩ := Sy.sync h hm hk
  refine ⟨(syncD D s).1, ?_, s2⟩
  rw [step_zero (a := .sync) s1]
  rfl
theorem steps_rem (h : ReadyL D) (hm : mayD s = true) (hk : lookD D.now s = some k) (hq : usedD D + b.length ≤ D.quota) : ∃ D' k, stepsD D s [.rem, .add b, .sync] = (D', 0) ∧ Sy D' s k b.length b := by
  have e1 : stepD D s .rem = (turnedD D ⟨s, [], k⟩, 0) := drop_ok h.down h.arm hm hk
  have hu := used_dropped (D := D) (s := s) (k := k)
  obtain ⟨D', k', q1, q2⟩ := steps_add (b := b) (h.dropped hm hk) hm look_dropped (show usedD _ + b.length ≤ D.quota by omega)
  refine ⟨D', k', ?_, q2⟩
  rw [step_zero (by rw [e1]), e1]
  exact q1
theorem read_none (hd : D.down = false) (hm : mayD s = true) (h : lookD D.now s = none) : readD D s = ([], 4) := by
  unfold readD hasD
  rw [if_neg (by rw [ready_yes hd hm hm]; exact fun q => q rfl), h]
theorem fin_ok (D : Dsk) (id : List UInt8) : finL (D, 0) id = (D, id, [], 0) := if_neg fun q => q rfl
theorem put_fine (h : ReadyL D) (hq : usedD D + b.length ≤ D.quota) :
    (∃ c, readD D (nmO (Sha.sum b)) = (c, 0) ∧ c ≠ b ∧ Sha.sum c = Sha.sum b ∧ putL D b = (D, Sha.sum b, c, 7)) ∨ ∃ D' k, putL D b = (D', Sha.sum b, [], 0) ∧ Sy D' (nmO (Sha.sum b)) k b.length b := by
  have hm : mayD (nmO (Sha.sum b)) = true := nmO_may (Sha.sum_length b)
  unfold putL
  cases hk : lookD D.now (nmO (Sha.sum b)) with
  | none =>
    obtain ⟨D', k, q1, q2⟩ := steps_add h hm hk hq
    exact .inr ⟨D', k, by rw [read_none h.down hm hk, if_pos rfl, q1, fin_ok], q2⟩
  | some k =>
    have hr := read_ok h.down hm hk
    rw [hr]
    show (∃ c, ((fileD D k).1, 0) = (c, 0) ∧ _) ∨ _
    rw [if_neg (show ¬ (0 : Nat) = 4 by decide), if_neg (show ¬ (0 : Nat) ≠ 0 from fun q => q rfl)]
    by_cases hb : (fileD D k).1 = b
    · obtain ⟨D', q1, q2⟩ := steps_sync h hm hk
      rw [hb] at q2
      exact .inr ⟨D', k, by rw [if_pos hb, q1, fin_ok], q2⟩
    · rw [if_neg hb]
      by_cases hs : Sha.sum (fileD D k).1 = Sha.sum b
      · exact .inl ⟨(fileD D k).1, rfl, hb, hs, if_pos hs⟩
      · obtain ⟨D', k', q1, q2⟩ := steps_rem h hm hk hq
        exact .inr ⟨D', k', by rw [if_neg hs, q1, fin_ok], q2⟩
end
structure BdL (n : Nat) (D : Dsk) : Prop where
  quota : D.quota = 1048576
  refused : D.refused ≤ n
  arm : D.arm ≤ 9223372036854775807
  acts : D.kept.length + D.acts.length ≤ n
  now : D.now.length ≤ n
  files : ∀ x ∈ D.files, x.1.length ≤ 300
section
variable {D : Dsk} {n : Nat} {s b : List UInt8}
theorem BdL.bd (h : BdL n D) : DBd (n + 1) D := ⟨by rw [h.quota]; decide, Nat.le_succ_of_le h.refused, h.arm, Nat.le_succ_of_le h.acts, Nat.le_succ_of_le h.now, fun x hx => by have := h.files x hx; omega⟩
theorem BdL.used (h : BdL n D) (hn : n ≤ 3000) : usedD D + 300 ≤ D.quota := by
  have h1 := used_le h.now h.files
  have h2 := h.quota
  omega
theorem BdL.mono {m : Nat} (h : BdL n D) (hn : n ≤ m) : BdL m D := ⟨h.quota, Nat.le_trans h.refused hn, h.arm, Nat.le_trans h.acts hn, Nat.le_trans h.now hn, h.files⟩
theorem BdL.new : BdL 0 (newD 1048576) := ⟨rfl, Nat.le_refl _, Nat.zero_le _, Nat.le_refl _, Nat.le_refl _, fun x h => by cases h⟩
theorem BdL.armed (h : BdL n D) : BdL n (armD D).1 := by
  unfold armD
  split
  · exact h
  · have := h.arm
    exact ⟨h.quota, h.refused, by show D.arm - 1 ≤ _; omega, h.acts, h.now, h.files⟩
theorem BdL.turned (h : BdL n D) (a : ActD) : BdL (n + 1) (turnedD D a) := by
  have h1 := turn_len D.now a
  have h2 := h.acts
  have h3 := h.now
  refine ⟨h.quota, Nat.le_succ_of_le h.refused, h.arm, ?_, ?_, h.files⟩
  · show D.kept.length + (D.acts ++ [a]).length ≤ n + 1
    rw [List.length_append, List.length_singleton]
    omega
  · show (turnD D.now a).length ≤ n + 1
    omega
theorem BdL.did {m : Nat} (h : BdL n D) (hm : n ≤ m) {f : Dsk → Dsk} (hf : BdL n (armD D).1 → BdL m (f (armD D).1)) : BdL m (doD D f).1 := by
  unfold doD
  split
  · exact h.armed.mono hm
  · exact hf h.armed
theorem BdL.add (h : BdL n D) (hl : lookD D.now s = none) (hb : b.length ≤ 300) : BdL (n + 1) (addD D s b) := by
  rw [addL_new hl]
  have h1 := h.turned ⟨[], s, D.files.length⟩
  refine ⟨h1.quota, h1.refused, h1.arm, h1.acts, h1.now, fun x hx => ?_⟩
  rcases List.mem_append.1 hx with hx | hx
  · exact h.files x hx
  · rw [List.mem_singleton.1 hx]
    exact hb
theorem BdL.append (h : BdL n D) (hl : lookD D.now s = none) (hb : b.length ≤ 300) : BdL (n + 1) (appendD D s b).1 := by
  unfold appendD
  split
  · exact h.mono (Nat.le_succ n)
  · split
    · exact ⟨h.quota, Nat.succ_le_succ h.refused, h.arm, Nat.le_succ_of_le h.acts, Nat.le_succ_of_le h.now, h.files⟩
    · exact h.did (Nat.le_succ n) (f := fun d => addD d s b) fun hE => hE.add (by rw [armD_now]; exact hl) hb
theorem BdL.sync (h : BdL n D) : BdL n (syncD D s).1 := by
  unfold syncD
  split
  · exact h
  · rename_i k _
    refine h.did (Nat.le_refl n) fun hE => ⟨hE.quota, hE.refused, hE.arm, ?_, hE.now, fun x hx => ?_⟩
    · exact hE.now
    · rcases List.mem_or_eq_of_mem_set hx with hx | rfl
      · exact hE.files x hx
      · exact file_le hE.files k
theorem BdL.drop (h : BdL n D) : BdL (n + 1) (dropD D s).1 := by
  unfold dropD
  split
  · exact h.mono (Nat.le_succ n)
  · exact h.did (Nat.le_succ n) fun hE => hE.turned _
theorem has_err {t : List UInt8} {e : Nat} (he : hasD D s t = .error e) : e ≠ 0 := by
  unfold hasD at he
  split at he
  · rename_i q
    injection he with he
    exact fun x => q (he.trans x)
  · split at he
    · cases he
    · injection he with he
      omega
theorem drop_look (h : (dropD D s).2 = 0) : lookD (dropD D s).1.now s = none := by
  unfold dropD at h ⊢
  split at h
  · rename_i e he
    exact absurd h (has_err he)
  · rename_i k hk
    show lookD (doD D _).1.now s = none
    unfold doD at h ⊢
    split at h
    · cases h
    · rename_i q
      rw [if_neg q]
      exact look_dropped
theorem BdL.steps2 (h : BdL n D) (hl : lookD D.now s = none) (hb : b.length ≤ 300) : BdL (n + 1) (stepsD D s [.add b, .sync]).1 := by
  rw [steps_cons]
  split
  · exact h.append hl hb
  · rw [steps_cons]
    split
    · exact (h.append hl hb).sync
    · exact (h.append hl hb).sync
theorem BdL.fin {r : Dsk × Nat} (h : BdL n r.1) (id : List UInt8) : BdL n (finL r id).1 := by
  unfold finL
  split <;> exact h
theorem read_four (h : (readD D s).2 = 4) : lookD D.now s = none := by
  unfold readD hasD at h
  cases hl : lookD D.now s with
  | none => rfl
  | some k =>
    rw [hl] at h
    split at h
    · rename_i e he
      exfalso
      split at he
      · cases he
        unfold readyD at h
        split at h
        · cases h
        · split at h <;> cases h
      · cases he
    · cases h
theorem BdL.put (h : BdL n D) (hb : b.length ≤ 300) : BdL (n + 2) (putL D b).1 := by
  unfold putL
  split
  · rename_i h4
    exact ((h.steps2 (read_four h4) hb).mono (by omega)).fin _
  split
  · exact h.mono (by omega)
  split
  · refine BdL.fin ?_ _
    rw [steps_cons]
    split
    · exact h.sync.mono (by omega)
    · exact h.sync.mono (by omega)
  split
  · exact h.mono (by omega)
  · refine BdL.fin ?_ _
    rw [steps_cons]
    split
    · exact h.drop.mono (by omega)
    · rename_i hz
      exact BdL.steps2 h.drop (drop_look (by simpa [stepD] using hz)) hb
theorem BdL.crash (h : BdL n D) (l : List Int) : BdL n (crashD D l) := by
  have h1 := left_len D l
  have h2 := h.acts
  refine ⟨h.quota, h.refused, Nat.zero_le _, ?_, ?_, fun x hx => ?_⟩
  · show (numD (leftD D l)).length + 0 ≤ n
    unfold numD
    rw [List.length_mapIdx]
    omega
  · show (numD (leftD D l)).length ≤ n
    unfold numD
    rw [List.length_mapIdx]
    omega
  · obtain ⟨i, hi, rfl⟩ := List.mem_iff_getElem.1 hx
    have hi' : i < ((leftD D l).mapIdx fun i e => cutD D l i e.2).length := hi
    show (((leftD D l).mapIdx fun i e => cutD D l i e.2)[i]'hi').1.length ≤ 300
    rw [List.getElem_mapIdx]
    exact Nat.le_trans (List.length_take_le' _ _) (file_le h.files _)
end
end Go.Proofs.YtejpjjhkjdpeaaaDoor
