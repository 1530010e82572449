/- Part 4 of what stands behind these statements: laws and walks of the functions that are reached. Conditions: those that each theorem names. -/
import Derived.Test.YtmonlobfofkbdaaDoorK3
set_option linter.unusedVariables false
set_option linter.unusedSimpArgs false
namespace Go.Proofs.YtmonlobfofkbdaaDoor
open Go.RowKit
theorem part_agg {P : Program} {w : World} {t o n : Nat} {cs a m z : List Value} (h : (isAgg t).run P w = .ok true w) (hs : (sizeOf t).run P w = .ok n w) (hc : cs = a ++ m ++ z) (ha : a.length = o) (hl : m.length = n) : (part t cs.toArray o).run P w = .ok (.agg m.toArray) w := by
  unfold part
  have e : (cs.drop o).take n = m := by rw [hc, List.append_assoc, ← ha, List.drop_left, List.take_left' hl]
  rw [Sem.run_bind, h]
  simp [hs, e]
theorem eqUpdR (w : World) (d : Nat) (x : Upd) : (Op.equalIn (d + 3) 67 (.agg (updC x).toArray) (.agg (updC x).toArray)).run Tryd.prog w = .ok true w := by
  refine (run_equalIn_struct w (d + 2) _ _ _ (by kernel_rfl) (by kernel_rfl)).trans ?_
  rw [show true = (decide (x.kind = x.kind) && (decide (x.name = x.name) && (decide (x.old = x.old) && (decide (x.new = x.new) && true)))) by simp]
  exact eqS_step (t := 5) (o := 0) (r := [(9, 1), (25, 2), (25, 34)]) (by kernel_rfl) (part_one (by kernel_rfl) (upd_g0 x)) (part_one (by kernel_rfl) (upd_g0 x)) (eqF_u8 (d := d + 1) (by kernel_rfl)) fun _ h =>
    eqS_step h (part_one (by kernel_rfl) (upd_g1 x)) (part_one (by kernel_rfl) (upd_g1 x)) (eqF_str (d := d + 1) (by kernel_rfl)) fun _ h =>
    eqS_step h (part_id (by kernel_rfl) (by kernel_rfl) (upd_m2 x) (upd_n2 x) x.old.2) (part_id (by kernel_rfl) (by kernel_rfl) (upd_m2 x) (upd_n2 x) x.old.2) (eqF_id (d := d) (e := 5) (by kernel_rfl) (by kernel_rfl) (by kernel_rfl)) fun _ h =>
    eqS_step h (part_id (by kernel_rfl) (by kernel_rfl) (upd_m3 x) (upd_n3 x) x.new.2) (part_id (by kernel_rfl) (by kernel_rfl) (upd_m3 x) (upd_n3 x) x.new.2) (eqF_id (d := d) (e := 5) (by kernel_rfl) (by kernel_rfl) (by kernel_rfl)) fun _ h => eqS_nil h
theorem eqRnmd (w : World) (x : Nmd) : (Op.equalIn 10000 69 (.agg (nmdC x).toArray) (.agg (nmdC x).toArray)).run Tryd.prog w = .ok true w := by
  refine (run_equalIn_struct w 9999 _ _ _ (by kernel_rfl) (by kernel_rfl)).trans ?_
  rw [show true = (decide (x.name = x.name) && (decide (x.id = x.id) && true)) by simp]
  exact eqS_step (t := 9) (o := 0) (r := [(25, 1)]) (by kernel_rfl) (part_one (by kernel_rfl) (nmd_g0 x)) (part_one (by kernel_rfl) (nmd_g0 x)) (eqF_str (d := 9998) (by kernel_rfl)) fun _ h =>
    eqS_step h (part_id (by kernel_rfl) (by kernel_rfl) (nmd_m1 x) (nmd_n1 x) x.id.2) (part_id (by kernel_rfl) (by kernel_rfl) (nmd_m1 x) (nmd_n1 x) x.id.2) (eqF_id (d := 9997) (e := 5) (by kernel_rfl) (by kernel_rfl) (by kernel_rfl)) fun _ h => eqS_nil h
theorem ent_split (x : Ent) : entC x = [] ++ updC ⟨x.kind, x.name, x.old, x.new⟩ ++ [St x.note] := by simp [entC, updC]
theorem eqEnt (w : World) (x : Ent) : (Op.equalIn 10000 122 (.agg (entC x).toArray) (.agg (entC x).toArray)).run Tryd.prog w = .ok true w := by
  refine (run_equalIn_struct w 9999 _ _ _ (by kernel_rfl) (by kernel_rfl)).trans ?_
  rw [show true = (true && (decide (x.note = x.note) && true)) by simp]
  exact eqS_step (t := 67) (o := 0) (r := [(9, 66)]) (by kernel_rfl) (part_agg (by kernel_rfl) (by kernel_rfl) (ent_split x) rfl (upd_len _)) (part_agg (by kernel_rfl) (by kernel_rfl) (ent_split x) rfl (upd_len _)) (eqUpdR w 9996 _) fun _ h =>
    eqS_step h (part_one (by kernel_rfl) (ent_g4 x)) (part_one (by kernel_rfl) (ent_g4 x)) (eqF_str (d := 9998) (by kernel_rfl)) fun _ h => eqS_nil h
open Go.RowKit
set_option maxRecDepth 100000
theorem wr40_ty46 : Tryd.prog.underlying 46 = some (.slice 69) := by kernel_rfl
theorem wr40_szg69 : ∀ w' : World, (sizeOf 69).run Tryd.prog w' = .ok 33 w' := fun _ => by kernel_rfl
theorem wr40_ty69 : ∃ fs, Tryd.prog.underlying 69 = some (.struct fs) := struct_of (by kernel_rfl)
theorem wr40_isz69 : (Tryd.prog.info? 69).map (·.size) = some 33 := by kernel_rfl
theorem wr40_eg69 : Tryd.prog.eqGuardType Tryd.prog.depth 69 = false := by kernel_rfl
theorem wr40_fo49_0 : FieldOff Tryd.prog 49 0 0 := fun b o w => by simp [go_sem]
theorem wr40_pl81 : Plain Tryd.prog 81 := fun _ _ => by kernel_rfl
theorem wr40_fo49_1 : FieldOff Tryd.prog 49 1 1 := fun b o w => by simp [go_sem]
theorem wr40_fo49_2 : FieldOff Tryd.prog 49 2 2 := fun b o w => by simp [go_sem]
theorem wr40_ty9 : Tryd.prog.underlying 9 = some (.string) := by kernel_rfl
theorem wr40_fo49_3 : FieldOff Tryd.prog 49 3 3 := fun b o w => by simp [go_sem]
theorem wr40_ty25 : Tryd.prog.underlying 25 = some (.array 32 5) := by kernel_rfl
theorem wr40_eg25 : Tryd.prog.eqGuardType Tryd.prog.depth 25 = false := by kernel_rfl
theorem wr40_ty5 : Tryd.prog.underlying 5 = some (.int .u8) := by kernel_rfl
theorem wr40_sz5 : ∀ w' : World, (sizeOf 5).run Tryd.prog w' = .ok 1 w' := fun _ => by kernel_rfl
theorem wr40_fo49_4 : FieldOff Tryd.prog 49 4 35 := fun b o w => by simp [go_sem]
theorem wr40_ty47 : Tryd.prog.underlying 47 = some (.slice 122) := by kernel_rfl
theorem wr40_szg122 : ∀ w' : World, (sizeOf 122).run Tryd.prog w' = .ok 67 w' := fun _ => by kernel_rfl
theorem wr40_ty122 : ∃ fs, Tryd.prog.underlying 122 = some (.struct fs) := struct_of (by kernel_rfl)
theorem wr40_isz122 : (Tryd.prog.info? 122).map (·.size) = some 67 := by kernel_rfl
theorem wr40_eg122 : Tryd.prog.eqGuardType Tryd.prog.depth 122 = false := by kernel_rfl
set_option maxHeartbeats 1600000
theorem lists_true (w : World) (v v2 : Value) (l : List Nmd) (hr : RG 33 nmdC w v l) (hr2 : RG 33 nmdC w v2 l) (hl : l.length < 9223372036854775807) :
  Calls Tryd.prog 81 #[v, v2] w fun e w' => e = .returned (.bool true) ∧ Ext w w' := by
 refine calls_of_wpF (args := [v, v2]) Tryd.func81 rfl 26 rfl (Nat.le_of_ble_eq_true rfl) ?_
 intro ρ0 hb
 have T0 : ρ0 0 = (v : Value) := hb.get 0
 have T1 : ρ0 1 = (v2 : Value) := hb.get 1
 clear hb
 have hE := Ext.refl w
 refine sk fun K1 hK1 => (wt (oA rfl (oZ (tN (hK1 _ _ (sk fun K2 hK2 => (sk fun K3 hK3 => (wt (oM rfl (oS rfl (Yk.lenRG wr40_ty46 (RG.of hr T0) (oM rfl (oS rfl (Yk.lenRG wr40_ty46 (RG.of hr2 T1) (oS rfl (Yk.eqI (a := (l.length : Nat)) (b := (l.length : Nat)) rfl rfl (k_neq _ _ _ _) (oZ (tN (hK3 _ _ (wpF_false (vr (.bool (false)) (congrArg Value.bool (decide_eq_false (fun h => h rfl)))) ?_))))))))))))))))))))
 refine wpF_skip (tN (hK2 _ _ (sk fun K4 hK4 => (sk fun K5 hK5 => (wt (oA rfl (oL_ [(0, v), (1, v2), (4, .bool (false)), (5, NI 0), (10, .bool (false))] ⟨T0, T1, rfl, rfl, (congrArg Value.bool (decide_eq_false (fun h => h rfl))), trivial⟩ fun ρ6 ⟨T0, T1, T4, T5, T10, _⟩ => (tN (hK5 _ _ (wpF_block (wpF_loop (fun (ρ : Slots) (wz : World) => ∃ i : Nat, ρ 0 = (v : Value) ∧ ρ 1 = (v2 : Value) ∧ ρ 10 = (.bool (false) : Value) ∧ ρ 5 = (NI i : Value) ∧ RG 33 nmdC wz v l ∧ RG 33 nmdC wz v2 l ∧ Ext w wz ∧ (i ≤ l.length) ∧ True) (fun ρ _ => l.length - (intOf (ρ 5)).toNat) ⟨0, T0, T1, T10, T5, hr, hr2, hE, Nat.zero_le _, trivial⟩ ?_)))))))))))
 clear hr hr2 hE
 rintro ρ7 w8 ⟨i, T0, T1, T10, T5, hr, hr2, hE, hi, -⟩
 have q5 := T5
 refine sk fun K9 hK9 => (sk fun K10 hK10 => (wt (oM rfl (oM rfl (oS rfl (Yk.lenRG wr40_ty46 (RG.of hr T0) (oS rfl (Yk.eqI (a := (i : Nat)) (b := (l.length : Nat)) T5 rfl (k_lss _ _ _ _) (oZ (tN (hK10 _ _ ?_)))))))))))
 refine wpF_cond ((i) < (l.length)) (vr (.bool (decide ((i) < (l.length)))) rfl) (fun hc1 => ?_) (fun hc1 => ?_)
 ·have hlt : i < l.length := hc1
  refine wpF_skip (tN (hK9 _ _ (sk fun K11 hK11 => (wpF_block (sk fun K12 hK12 => ?_)))))
  refine wpF_draw [Is (v), Is (NI i), fun x w' => PR (nmdC (l.getD (i) dNmd)) x w', Is (.agg (nmdC (l.getD (i) dNmd)).toArray), Is (v2), Is (NI i), fun x w' => PR (nmdC (l.getD (i) dNmd)) x w', Is (.agg (nmdC (l.getD (i) dNmd)).toArray), Is (.bool (false))] (by kernel_rfl) [17, 18, 19, 20, 21, 22, 23, 24, 25] (by kernel_rfl) (by kernel_rfl) (si2 ⟨(fun _ _ _ h k => PR.keep h k), (si3 ⟨(fun _ _ _ h k => PR.keep h k), (si2 trivial)⟩)⟩) ?hs1006 ?hQ1006
  case hs1006 =>
   refine ⟨?_, ?_, ?_, ?_, ?_, ?_, ?_, ?_, ?_, trivial⟩
   ·refine stepN rfl fun σ w1 hC h => ?_
    have e0 := (eqo (h 0 (by decide))).trans T0
    exact Yk.move e0 ⟨Ext.refl _, rfl⟩
   ·refine stepN rfl fun σ w1 hC h => ?_
    have e5 := (eqo (h 5 (by decide))).trans T5
    exact Yk.move e5 ⟨Ext.refl _, rfl⟩
   ·refine stepN rfl fun σ w1 hC h => ?_
    have e17 := eqo (h 17 (by decide))
    have e18 := eqo (h 18 (by decide))
    exact Yk.atRG wr40_ty46 wr40_szg69 (by decide) dNmd (RG.of (hr.keep hC) e17) e18 (by omega) fun v h => ⟨Ext.refl _, h⟩
   ·refine stepN rfl fun σ w1 hC h => ?_
    have e19 : (fun x w' => PR (nmdC (l.getD (i) dNmd)) x w') (σ 19) w1 := h 19 (by decide)
    exact Yk.loadPR e19 (wr40_ty69).choose_spec rfl (by rw [nmd_len]; exact wr40_isz69) ⟨Ext.refl _, rfl⟩
   ·refine stepN rfl fun σ w1 hC h => ?_
    have e1 := (eqo (h 1 (by decide))).trans T1
    exact Yk.move e1 ⟨Ext.refl _, rfl⟩
   ·refine stepN rfl fun σ w1 hC h => ?_
    have e5 := (eqo (h 5 (by decide))).trans T5
    exact Yk.move e5 ⟨Ext.refl _, rfl⟩
   ·refine stepN rfl fun σ w1 hC h => ?_
    have e21 := eqo (h 21 (by decide))
    have e22 := eqo (h 22 (by decide))
    exact Yk.atRG wr40_ty46 wr40_szg69 (by decide) dNmd (RG.of (hr2.keep hC) e21) e22 (by omega) fun v h => ⟨Ext.refl _, h⟩
   ·refine stepN rfl fun σ w1 hC h => ?_
    have e23 : (fun x w' => PR (nmdC (l.getD (i) dNmd)) x w') (σ 23) w1 := h 23 (by decide)
    exact Yk.loadPR e23 (wr40_ty69).choose_spec rfl (by rw [nmd_len]; exact wr40_isz69) ⟨Ext.refl _, rfl⟩
   ·refine stepN rfl fun σ w1 hC h => ?_
    have e20 := eqo (h 20 (by decide))
    have e24 := eqo (h 24 (by decide))
    exact Yk.neStr wr40_eg69 e20 e24 (eqRnmd _ (l.getD i dNmd)) ⟨Ext.refl _, rfl⟩
  intro ρ13 w14 hx15 he hf
  obtain ⟨-, -, -, -, -, -, -, -, k25, -⟩ := hf
  obtain ⟨T0, T1, T5, T10, -⟩ := he.hold [(0, _), (1, _), (5, _), (10, _)] ⟨T0, T1, T5, T10, trivial⟩ rfl
  clear he
  have hr := hr.keep hx15
  have hr2 := hr2.keep hx15
  have hE := hE.trans hx15
  have T25 : ρ13 25 = .bool (false) := k25
  clear k25
  refine tN (hK12 _ _ (wpF_false T25 (wpF_skip (bN (tN (hK11 _ _ (wt (oM rfl (oS rfl (Yk.bin (xv := NI i) (yv := NI 1) T5 rfl rfl (i64_add _ _ _ (by omega)) (oA rfl (oL_ [(0, v), (1, v2), (5, NI ((i) + (1))), (10, .bool (false)), (25, .bool (false))] ⟨T0, T1, rfl, T10, T25, trivial⟩ fun ρ16 ⟨T0, T1, T5, T10, T25, _⟩ => (tN (And.intro ⟨i + 1, T0, T1, T10, T5, hr, hr2, hE, by omega, trivial⟩ ?_))))))))))))))
  show l.length - (intOf (ρ16 5)).toNat < l.length - (intOf (ρ7 5)).toNat
  rw [T5, q5]
  simp only [intOf, Int.toNat_natCast]; omega
 refine wpF_exit (thenF_exit (thenF_exit (inBlockF_hit (tN (hK4 _ _ (sk fun K17 hK17 => (wt (oA rfl (oZ (tN (hK17 _ _ (wpF_ret (postF_ret (fn := Tryd.f81) _ rfl [.bool (true)] (.bool (true)) rfl ⟨rfl, trivial⟩ ?_)))))))))))))
 exact ⟨rfl, hE⟩

theorem same20_true (w : World) (y z : RefsV) (hm : RefsAt w y) (hn : RefsAt w z) (he : z.1 = y.1) (hL : RefsLt y.1) :
  Calls Tryd.prog 29 #[.agg (refsC y).toArray, .agg (refsC z).toArray] w fun e w' => e = .returned (.bool true) ∧ Ext w w' := by
 have hmt := hm.branches
 have hmg := hm.tags
 have hml := hm.log
 have hnt := he ▸ hn.branches
 have hng := he ▸ hn.tags
 have hnl := he ▸ hn.log
 refine calls_of_wpF (args := [.agg (refsC y).toArray, .agg (refsC z).toArray]) Tryd.func29 rfl 61 rfl (Nat.le_of_ble_eq_true rfl) ?_
 intro ρ0 hb
 have T0 : ρ0 0 = (.agg (refsC y).toArray : Value) := hb.get 0
 have T1 : ρ0 1 = (.agg (refsC z).toArray : Value) := hb.get 1
 clear hb
 have hE := Ext.refl w
 refine sk fun K1 hK1 => (wt (oS rfl (Yk.box (cs := (refsC y : List Value).toArray) T0 fun n2 w3 hn4 hb5 hx6 hs7 => ?_)))
 have hE := hE.trans hx6
 have hb8 := hb5; clear hb5
 have hl9 : n2 < w3.heap.size := by omega
 refine oS rfl (Yk.box (cs := (refsC z : List Value).toArray) T1 fun n10 w11 hn12 hb13 hx14 hs15 => ?_)
 have hA16 := Ext.refl w3
 have hea17 := hE
 have hz18 := hE.size
 have hlt19 := lte (bl hb8) hn12
 have hE := hE.trans hx14
 have hb8 := eb hx14 hb8
 have hA16 := hA16.trans hx14
 have hb20 := hb13; clear hb13
 have hl21 : n10 < w11.heap.size := by omega
 refine oA rfl (oZ (tN (hK1 _ _ (sk fun K22 hK22 => (sk fun K23 hK23 => (wt (oS rfl (Yk.fieldAt wr40_fo49_0 (vr (PQ n2 0) rfl) (oS rfl (Yk.cell1 wr40_ty46 rfl (vr (PQ n2 0) rfl) (cellAt hb8 (show (refsC y)[0]? = some (y.2.branches : Value) from refs_g0 y)) (oS rfl (Yk.fieldAt wr40_fo49_0 (vr (PQ n10 0) rfl) (oS rfl (Yk.cell1 wr40_ty46 rfl (vr (PQ n10 0) rfl) (cellAt hb20 (show (refsC z)[0]? = some (z.2.branches : Value) from refs_g0 z)) (oS rfl (Yk.callA2 wr40_pl81 (vr y.2.branches rfl) (vr z.2.branches rfl) ((lists_true _ y.2.branches z.2.branches y.1.branches (hmt.keep hE) (hnt.keep hE) hL.branches).mono ?_)))))))))))))))))
 rintro e w25 ⟨rfl, hx24⟩
 refine ⟨_, rfl, ?_⟩
 have hE := hE.trans hx24
 have hb8 := eb hx24 hb8
 have hA16 := hA16.trans hx24
 have hb20 := eb hx24 hb20
 refine oS rfl (Yk.notB (vr (.bool (true)) rfl) (oM rfl (oY (d := 12) rfl rfl (vr (.bool (false)) rfl) (Yk.fieldAt wr40_fo49_1 (vr (PQ n2 0) rfl) (oY (d := 12) rfl rfl (vr (.bool (false)) rfl) (Yk.cell1 wr40_ty46 rfl (vr (PQ n2 1) rfl) (cellAt hb8 (show (refsC y)[1]? = some (y.2.tags : Value) from refs_g1 y)) (oY (d := 12) rfl rfl (vr (.bool (false)) rfl) (Yk.fieldAt wr40_fo49_1 (vr (PQ n10 0) rfl) (oY (d := 12) rfl rfl (vr (.bool (false)) rfl) (Yk.cell1 wr40_ty46 rfl (vr (PQ n10 1) rfl) (cellAt hb20 (show (refsC z)[1]? = some (z.2.tags : Value) from refs_g1 z)) (oY (d := 12) rfl rfl (vr (.bool (false)) rfl) (Yk.callA2 wr40_pl81 (vr y.2.tags rfl) (vr z.2.tags rfl) ((lists_true _ y.2.tags z.2.tags y.1.tags (hmg.keep hE) (hng.keep hE) hL.tags).mono ?_)))))))))))))
 rintro e w27 ⟨rfl, hx26⟩
 refine ⟨_, rfl, ?_⟩
 have hE := hE.trans hx26
 have hb8 := eb hx26 hb8
 have hA16 := hA16.trans hx26
 have hb20 := eb hx26 hb20
 refine oY (d := 12) rfl rfl (vr (.bool (false)) rfl) (Yk.notB (vr (.bool (true)) rfl) (oS rfl (Yk.pickF (vr (.bool (false)) rfl) (vr (.bool (false)) rfl) (oM rfl (oY (d := 20) rfl rfl (vr (.bool (false)) rfl) (Yk.fieldAt wr40_fo49_2 (vr (PQ n2 0) rfl) (oY (d := 20) rfl rfl (vr (.bool (false)) rfl) (Yk.cell1 wr40_ty9 rfl (vr (PQ n2 2) rfl) (cellAt hb8 (show (refsC y)[2]? = some (St (y.1.head) : Value) from refs_g2 y)) (oY (d := 20) rfl rfl (vr (.bool (false)) rfl) (Yk.fieldAt wr40_fo49_2 (vr (PQ n10 0) rfl) (oY (d := 20) rfl rfl (vr (.bool (false)) rfl) (Yk.cell1 wr40_ty9 rfl (vr (PQ n10 2) rfl) (cellAt hb20 (show (refsC z)[2]? = some (St (z.1.head) : Value) from refs_g2 z)) (oY (d := 20) rfl rfl (vr (.bool (false)) rfl) (Yk.eqSt (l := y.1.head) (m := z.1.head) (.inr rfl) (vr (St (y.1.head)) rfl) (vr (St (z.1.head)) rfl) (decide ((y.1.head : List UInt8) ≠ (z.1.head : List UInt8))) rfl (oS rfl (Yk.pickF (vr (.bool (false)) rfl) (vr (.bool (false)) (congrArg Value.bool (decide_eq_false (fun h => h (by rw [he]))))) (oM rfl (oY (d := 27) rfl rfl (vr (.bool (false)) rfl) (Yk.fieldAt wr40_fo49_3 (vr (PQ n2 0) rfl) (oY (d := 27) rfl rfl (vr (.bool (false)) rfl) (Yk.loadPR (PR.blk hb8 (refs_m3 y) (refs_n3 y) (vr (PQ n2 3) rfl)) wr40_ty25 rfl (sizeId_of y.1.at_.2) (oY (d := 27) rfl rfl (vr (.bool (false)) rfl) (Yk.fieldAt wr40_fo49_3 (vr (PQ n10 0) rfl) (oY (d := 27) rfl rfl (vr (.bool (false)) rfl) (Yk.loadPR (PR.blk hb20 (refs_m3 z) (refs_n3 z) (vr (PQ n10 3) rfl)) wr40_ty25 rfl (sizeId_of z.1.at_.2) (oY (d := 27) rfl rfl (vr (.bool (false)) rfl) (Yk.neArr (l1 := y.1.at_.1) (l2 := z.1.at_.1) wr40_ty25 wr40_ty5 wr40_sz5 wr40_eg25 (vr (AB y.1.at_.1) rfl) (vr (AB z.1.at_.1) rfl) (y.1.at_.2) (z.1.at_.2) (oS rfl (Yk.pickF (vr (.bool (false)) rfl) (vr (.bool (false)) (congrArg Value.bool (decide_eq_false (fun h => h (by rw [he]))))) ?_)))))))))))))))))))))))))))))
 refine oM rfl (oY (d := 34) rfl rfl (vr (.bool (false)) rfl) (Yk.fieldAt wr40_fo49_4 (vr (PQ n2 0) rfl) (oY (d := 34) rfl rfl (vr (.bool (false)) rfl) (Yk.cell1 wr40_ty47 rfl (vr (PQ n2 35) rfl) (cellAt hb8 (show (refsC y)[35]? = some (y.2.log : Value) from refs_g4 y)) (oY (d := 34) rfl rfl (vr (.bool (false)) rfl) (Yk.lenRG wr40_ty47 (RG.of (hml.keep hE) (vr y.2.log rfl)) (oY (d := 34) rfl rfl (vr (.bool (false)) rfl) (Yk.fieldAt wr40_fo49_4 (vr (PQ n10 0) rfl) (oY (d := 34) rfl rfl (vr (.bool (false)) rfl) (Yk.cell1 wr40_ty47 rfl (vr (PQ n10 35) rfl) (cellAt hb20 (show (refsC z)[35]? = some (z.2.log : Value) from refs_g4 z)) (oY (d := 34) rfl rfl (vr (.bool (false)) rfl) (Yk.lenRG wr40_ty47 (RG.of (hnl.keep hE) (vr z.2.log rfl)) (oY (d := 34) rfl rfl (vr (.bool (false)) rfl) (Yk.eqI (a := ((y.1.log).length : Nat)) (b := ((y.1.log).length : Nat)) rfl rfl (k_neq _ _ _ _) (oS rfl (Yk.pickF (vr (.bool (false)) rfl) (vr (.bool (false)) (congrArg Value.bool (decide_eq_false (fun h => h rfl)))) (oL_ [(0, .agg (refsC y).toArray), (1, .agg (refsC z).toArray), (2, PQ n2 0), (3, PQ n10 0), (4, .bool (false)), (42, .bool (false))] ⟨T0, T1, rfl, rfl, rfl, rfl, trivial⟩ fun ρ28 ⟨T0, T1, T2, T3, T4, T42, _⟩ => (tN (hK23 _ _ (wpF_false T42 (wpF_skip (tN (hK22 _ _ (sk fun K29 hK29 => (sk fun K30 hK30 => ?_)))))))))))))))))))))))))
 refine wt (oA rfl (oL_ [(0, .agg (refsC y).toArray), (1, .agg (refsC z).toArray), (2, PQ n2 0), (3, PQ n10 0), (4, .bool (false)), (5, NI 0), (42, .bool (false))] ⟨T0, T1, T2, T3, T4, rfl, T42, trivial⟩ fun ρ31 ⟨T0, T1, T2, T3, T4, T5, T42, _⟩ => (tN (hK30 _ _ (wpF_block (wpF_loop (fun (ρ : Slots) (wz : World) => ∃ i : Nat, ρ 0 = (.agg (refsC y).toArray : Value) ∧ ρ 1 = (.agg (refsC z).toArray : Value) ∧ ρ 2 = (PQ n2 0 : Value) ∧ ρ 3 = (PQ n10 0 : Value) ∧ ρ 42 = (.bool (false) : Value) ∧ ρ 5 = (NI i : Value) ∧ Ext w wz ∧ wz.heap[n2]? = some (.cells (refsC y).toArray 49 (0, 0)) ∧ Ext w3 wz ∧ wz.heap[n10]? = some (.cells (refsC z).toArray 49 (0, 0)) ∧ (i ≤ y.1.log.length) ∧ True) (fun ρ _ => y.1.log.length - (intOf (ρ 5)).toNat) ⟨0, T0, T1, T2, T3, T42, T5, hE, hb8, hA16, hb20, Nat.zero_le _, trivial⟩ ?_))))))
 clear hE hb8 hA16 hb20
 rintro ρ32 w33 ⟨i, T0, T1, T2, T3, T42, T5, hE, hb8, hA16, hb20, hi, -⟩
 have q5 := T5
 refine sk fun K34 hK34 => (sk fun K35 hK35 => (wt (oM rfl (oS rfl (Yk.fieldAt wr40_fo49_4 T2 (oS rfl (Yk.cell1 wr40_ty47 rfl (vr (PQ n2 35) rfl) (cellAt hb8 (show (refsC y)[35]? = some (y.2.log : Value) from refs_g4 y)) (oS rfl (Yk.lenRG wr40_ty47 (RG.of (hml.keep hE) (vr y.2.log rfl)) (oS rfl (Yk.eqI (a := (i : Nat)) (b := ((y.1.log).length : Nat)) T5 rfl (k_lss _ _ _ _) (oZ (tN (hK35 _ _ ?_))))))))))))))
 refine wpF_cond ((i) < ((y.1.log).length)) (vr (.bool (decide ((i) < ((y.1.log).length)))) rfl) (fun hc1 => ?_) (fun hc1 => ?_)
 ·have hlt : i < y.1.log.length := hc1
  have hll := hL.log
  refine wpF_skip (tN (hK34 _ _ (sk fun K36 hK36 => (wpF_block (sk fun K37 hK37 => ?_)))))
  refine wpF_draw [Is (PQ n2 35), Is (y.2.log), Is (NI i), fun x w' => PR (entC ((y.1.log).getD (i) dEntry)) x w', Is (.agg (entC ((y.1.log).getD (i) dEntry)).toArray), Is (PQ n10 35), Is (z.2.log), Is (NI i), fun x w' => PR (entC ((y.1.log).getD (i) dEntry)) x w', Is (.agg (entC ((y.1.log).getD (i) dEntry)).toArray), Is (.bool (false))] (by kernel_rfl) [50, 51, 52, 53, 54, 55, 56, 57, 58, 59, 60] (by kernel_rfl) (by kernel_rfl) (si3 ⟨(fun _ _ _ h k => PR.keep h k), (si4 ⟨(fun _ _ _ h k => PR.keep h k), (si2 trivial)⟩)⟩) ?hs1006 ?hQ1006
  case hs1006 =>
   refine ⟨?_, ?_, ?_, ?_, ?_, ?_, ?_, ?_, ?_, ?_, ?_, trivial⟩
   ·refine stepN rfl fun σ w1 hC h => ?_
    have e2 := (eqo (h 2 (by decide))).trans T2
    exact Yk.fieldAt wr40_fo49_4 e2 ⟨Ext.refl _, rfl⟩
   ·refine stepN rfl fun σ w1 hC h => ?_
    have e50 := eqo (h 50 (by decide))
    exact Yk.cell1 wr40_ty47 rfl e50 (cellAt (eb hC hb8) (show (refsC y)[35]? = some (y.2.log : Value) from refs_g4 y)) ⟨Ext.refl _, rfl⟩
   ·refine stepN rfl fun σ w1 hC h => ?_
    have e5 := (eqo (h 5 (by decide))).trans T5
    exact Yk.move e5 ⟨Ext.refl _, rfl⟩
   ·refine stepN rfl fun σ w1 hC h => ?_
    have e51 := eqo (h 51 (by decide))
    have e52 := eqo (h 52 (by decide))
    exact Yk.atRG wr40_ty47 wr40_szg122 (by decide) dEntry (RG.of (hml.keep (hE.trans hC)) e51) e52 (by omega) fun v h => ⟨Ext.refl _, h⟩
   ·refine stepN rfl fun σ w1 hC h => ?_
    have e53 : (fun x w' => PR (entC ((y.1.log).getD (i) dEntry)) x w') (σ 53) w1 := h 53 (by decide)
    exact Yk.loadPR e53 (wr40_ty122).choose_spec rfl (by rw [ent_len]; exact wr40_isz122) ⟨Ext.refl _, rfl⟩
   ·refine stepN rfl fun σ w1 hC h => ?_
    have e3 := (eqo (h 3 (by decide))).trans T3
    exact Yk.fieldAt wr40_fo49_4 e3 ⟨Ext.refl _, rfl⟩
   ·refine stepN rfl fun σ w1 hC h => ?_
    have e55 := eqo (h 55 (by decide))
    exact Yk.cell1 wr40_ty47 rfl e55 (cellAt (eb hC hb20) (show (refsC z)[35]? = some (z.2.log : Value) from refs_g4 z)) ⟨Ext.refl _, rfl⟩
   ·refine stepN rfl fun σ w1 hC h => ?_
    have e5 := (eqo (h 5 (by decide))).trans T5
    exact Yk.move e5 ⟨Ext.refl _, rfl⟩
   ·refine stepN rfl fun σ w1 hC h => ?_
    have e56 := eqo (h 56 (by decide))
    have e57 := eqo (h 57 (by decide))
    exact Yk.atRG wr40_ty47 wr40_szg122 (by decide) dEntry (RG.of (hnl.keep (hE.trans hC)) e56) e57 (by omega) fun v h => ⟨Ext.refl _, h⟩
   ·refine stepN rfl fun σ w1 hC h => ?_
    have e58 : (fun x w' => PR (entC ((y.1.log).getD (i) dEntry)) x w') (σ 58) w1 := h 58 (by decide)
    exact Yk.loadPR e58 (wr40_ty122).choose_spec rfl (by rw [ent_len]; exact wr40_isz122) ⟨Ext.refl _, rfl⟩
   ·refine stepN rfl fun σ w1 hC h => ?_
    have e54 := eqo (h 54 (by decide))
    have e59 := eqo (h 59 (by decide))
    exact Yk.neStr wr40_eg122 e54 e59 (eqEnt _ (y.1.log.getD i dEntry)) ⟨Ext.refl _, rfl⟩
  intro ρ38 w39 hx40 he hf
  obtain ⟨-, -, -, -, -, -, -, -, -, -, k60, -⟩ := hf
  obtain ⟨T0, T1, T2, T3, T5, T42, -⟩ := he.hold [(0, _), (1, _), (2, _), (3, _), (5, _), (42, _)] ⟨T0, T1, T2, T3, T5, T42, trivial⟩ rfl
  clear he
  have hE := hE.trans hx40
  have hb8 := eb hx40 hb8
  have hA16 := hA16.trans hx40
  have hb20 := eb hx40 hb20
  have T60 : ρ38 60 = .bool (false) := k60
  clear k60
  refine tN (hK37 _ _ (wpF_false T60 (wpF_skip (bN (tN (hK36 _ _ (wt (oM rfl (oS rfl (Yk.bin (xv := NI i) (yv := NI 1) T5 rfl rfl (i64_add _ _ _ (by have := hL.log; omega)) (oA rfl (oL_ [(0, .agg (refsC y).toArray), (1, .agg (refsC z).toArray), (2, PQ n2 0), (3, PQ n10 0), (5, NI ((i) + (1))), (42, .bool (false)), (60, .bool (false))] ⟨T0, T1, T2, T3, rfl, T42, T60, trivial⟩ fun ρ41 ⟨T0, T1, T2, T3, T5, T42, T60, _⟩ => (tN (And.intro ⟨i + 1, T0, T1, T2, T3, T42, T5, hE, hb8, hA16, hb20, by omega, trivial⟩ ?_))))))))))))))
  show y.1.log.length - (intOf (ρ41 5)).toNat < y.1.log.length - (intOf (ρ32 5)).toNat
  rw [T5, q5]
  simp only [intOf, Int.toNat_natCast]; omega
 refine wpF_exit (thenF_exit (thenF_exit (inBlockF_hit (tN (hK29 _ _ (sk fun K42 hK42 => (wt (oA rfl (oZ (tN (hK42 _ _ (wpF_ret (postF_ret (fn := Tryd.f29) _ rfl [.bool (true)] (.bool (true)) rfl ⟨rfl, trivial⟩ ?_)))))))))))))
 exact ⟨rfl, hE⟩
open Go.RowKit
set_option maxRecDepth 100000
abbrev noteW : Bs := [110, 111, 116, 101]
theorem note_W : noteB noteW = true := note_ascii (by decide) (by decide)
theorem zeroR_lt : RefsLt zeroR := ⟨by decide, by decide, by decide, by decide, by decide, by decide⟩
theorem zeroR_few : zeroR.branches.length ≤ 80 ∧ zeroR.tags.length ≤ 80 ∧ zeroR.log.length ≤ 80 := by decide
theorem right_few {r : Refs} (h : rightF r = true) : r.branches.length ≤ 80 ∧ r.tags.length ≤ 80 ∧ r.log.length ≤ 80 := by
 obtain ⟨h1, h2⟩ := rightF_iff.1 h
 have h3 := (nlistB_iff.1 h1.br).2.2
 have h4 := (nlistB_iff.1 h1.tg).2.2
 omega
theorem right_lt {r : Refs} (h : rightF r = true) : RefsLt r := by
 obtain ⟨h1, h2⟩ := rightF_iff.1 h
 have h3 := nlistB_iff.1 h1.br
 have h4 := nlistB_iff.1 h1.tg
 refine ⟨by have := h3.2.2; omega, by have := h4.2.2; omega, by omega, fun u hu => by have := (nameB_len (h3.1 u hu).1).2; omega, fun u hu => by have := (nameB_len (h4.1 u hu).1).2; omega, ?_⟩
 have hh := h1.hd
 unfold rE2 at hh
 by_cases h0 : r.head = []
 ·rw [h0]; simp
 ·simp only [decide_eq_true h0, Bool.true_and, Bool.or_eq_false_iff, Bool.not_eq_false'] at hh
  have := (nameB_len hh.1.1).2
  omega
theorem seq_lt {note : Bs} {r : Refs} {l : List Upd} {i : Nat} (_hn : noteB note = true) (hL : RefsLt r) (_hj : ∀ j, j < i → (seqP note r l j).1 = 0) (h0 : (seqP note r l i).1 = 0) : RefsLt (seqP note r l i).2 := by
 cases i with
 | zero => exact hL
 | succ i => exact right_lt (apply_right h0)
section
variable {P : Program} {K : Value → World → Prop} {ρ : Slots} {w w0 : World} {d : Option Tmp} {ty : TypeId} {pos : String} {af : Array Edge} {gd : Option (Nat × Bool)} {α : Type} {k : Nat} {enc : α → List Value} {t e : TypeId}
theorem Yk.sliceOneW (ht : P.underlying t = some (.slice e)) (he : ∀ w' : World, (sizeOf e).run P w' = .ok k w') (dd : α) {x lo hi : Operand} {v : Value} {xs : List α} (hx : evalR ρ x = v) (h : RG k enc w0 v xs) {kd kd' : IntKind} {i : Nat} (hlo : evalR ρ lo = .int kd (i : Int)) (hhi : evalR ρ hi = .int kd' ((i + 1 : Nat) : Int)) (hl : i < xs.length)
  (hk : ∀ v', RG k enc w0 v' [xs.getD i dd] → K v' w) : Yk P K ((execOp (evalR ρ) ⟨d, .slice t x (some lo) (some hi) none, ty, pos, af, gd⟩).run P w) := by
 obtain ⟨ao, c, ⟨hrun, hb⟩, hR⟩ := run_reslice_readsW ht he h.2 (some (.int kd i)) (some (.int kd' ((i + 1 : Nat) : Int))) i (i + 1) (by omega) (by omega) (.inr ⟨kd, rfl⟩) (.inr ⟨kd', rfl⟩)
 have hR' := RG.cut h.1 (by omega) (by omega) hR
 rw [show i + 1 - i = 1 by omega, List.drop_eq_getElem_cons hl, show ((xs[i] :: xs.drop (i + 1)).take 1) = [xs.getD i dd] by rw [List.getD_eq_getElem?_getD, List.getElem?_eq_getElem hl]; rfl] at hR'
 refine Yk.value (v := .slice ao (i + 1 - i) c) (w' := w) ?_ (hk _ (by rw [show i + 1 - i = 1 by omega]; exact hR'))
 unfold execOp
 simp only [hx, hlo, hhi, Option.map_some, Option.map_none, hrun, Sem.run_bind, Sem.run_pure, Result.andThen_ok]
end
theorem wr39_ty49 : ∃ fs, Tryd.prog.underlying 49 = some (.struct fs) := struct_of (by kernel_rfl)
theorem wr39_isz49 : (Tryd.prog.info? 49).map (·.size) = some 36 := by kernel_rfl
theorem wr39_pl25 : Plain Tryd.prog 25 := fun _ _ => by kernel_rfl
theorem wr39_ty22 : Tryd.prog.underlying 22 = some (.slice 67) := by kernel_rfl
theorem wr39_pl27 : Plain Tryd.prog 27 := fun _ _ => by kernel_rfl
theorem wr39_pl26 : Plain Tryd.prog 26 := fun _ _ => by kernel_rfl
theorem wr39_al53 {d : Option Tmp} {ty : TypeId} {pos : String} {af : Array Edge} {gd : Option (Nat × Bool)} (σ : Operand → Value) (w : World) : (execOp σ ⟨d, .alloc 53, ty, pos, af, gd⟩).run Tryd.prog w = .ok (.value (PQ w.heap.size 0)) (w.alloc (.cells (refsC ((⟨[], [], [], zid, []⟩, ⟨.slice none 0 0, .slice none 0 0, .slice none 0 0⟩) : RefsV)).toArray 53)) := by kernel_rfl
theorem wr39_isz53 : (Tryd.prog.info? 53).map (·.size) = some 36 := by kernel_rfl
theorem wr39_ty53 : ∃ fs, Tryd.prog.underlying 53 = some (.struct fs) := struct_of (by kernel_rfl)
theorem wr39_szg67 : ∀ w' : World, (sizeOf 67).run Tryd.prog w' = .ok 66 w' := fun _ => by kernel_rfl
theorem wr39_pl30 : Plain Tryd.prog 30 := fun _ _ => by kernel_rfl
theorem wr39_pl29 : Plain Tryd.prog 29 := fun _ _ => by kernel_rfl
theorem wr39_pl35 : Plain Tryd.prog 35 := fun _ _ => by kernel_rfl
theorem wr39_pl31 : Plain Tryd.prog 31 := fun _ _ => by kernel_rfl
set_option maxHeartbeats 1600000
theorem refsWhole_walk (w : World) (y : RefsV) (hm : RefsAt w y) (hN : NamesLt y.1) (lv : Value) (l : List Upd) (hl : RG 66 updC w lv l) (hO : ∀ u ∈ l, u.name.length ≤ 9223372036854775807) :
  Calls Tryd.prog 8 #[.agg (refsC y).toArray, lv] w fun e w' => e = .returned (.bool true) ∧ Ext w w' := by
 have hmt := hm.branches
 have hmg := hm.tags
 have hml := hm.log
 refine calls_of_wpF (args := [.agg (refsC y).toArray, lv]) Tryd.func8 rfl 87 rfl (Nat.le_of_ble_eq_true rfl) ?_
 intro ρ0 hb
 have T0 : ρ0 0 = (.agg (refsC y).toArray : Value) := hb.get 0
 have T1 : ρ0 1 = (lv : Value) := hb.get 1
 clear hb
 have hE := Ext.refl w
 refine sk fun K1 hK1 => (wt (oS rfl (Yk.box (cs := (refsC y : List Value).toArray) T0 fun n2 w3 hn4 hb5 hx6 hs7 => ?_)))
 have hE := hE.trans hx6
 have hb8 := hb5; clear hb5
 have hl9 : n2 < w3.heap.size := by omega
 refine oA rfl (oZ (tN (hK1 _ _ (sk fun K10 hK10 => (sk fun K11 hK11 => (wt (oS rfl (Yk.loadAll (vr (PQ n2 0) rfl) hb8 (wr39_ty49).choose_spec rfl (st_isz (refs_len y) wr39_isz49) (oS rfl (Yk.callA1 wr39_pl25 (vr (.agg (refsC y).toArray) rfl) ((light20_any _ y (RefsAt.mk (hmt.keep hE) (hmg.keep hE) (hml.keep hE))).mono ?_)))))))))))
 rintro e w13 ⟨rfl, hx12⟩
 refine ⟨_, rfl, ?_⟩
 have hE := hE.trans hx12
 have hb8 := eb hx12 hb8
 refine oS rfl (Yk.notB (vr (.bool (lightR y.1)) rfl) (oM rfl (opsF_mayV (lv) rfl rfl (gF (vr (.bool (!(lightR y.1))) rfl)) (fun hG14 => Yk.move T1 ⟨rfl, rfl⟩) (opsF_mayV (NI l.length) rfl rfl (gF (vr (.bool (!(lightR y.1))) rfl)) (fun hG15 => Yk.lenRG wr39_ty22 (RG.of (hl.keep hE) (mayT (vr (cond (!(!(lightR y.1))) (lv) undef) rfl) hG15)) ⟨rfl, rfl⟩) (opsF_mayV (.bool (decide ((40) < (l.length)))) rfl rfl (gF (vr (.bool (!(lightR y.1))) rfl)) (fun hG16 => Yk.eqI (a := ((l.length : Nat) : Int)) (b := ((40 : Nat) : Int)) (mayT (vr (cond (!(!(lightR y.1))) (NI l.length) undef) rfl) hG16) (vr (NI 40) rfl) (k_gtr _ .i64 (l.length) (40)) ⟨rfl, rfl⟩) (oS rfl (Yk.pickOrN (vr (.bool (!(lightR y.1))) rfl) (vr (.bool (true)) rfl) (fun hA => (mayT (vr (cond (!(!(lightR y.1))) (.bool (decide ((40) < (l.length)))) undef) rfl) (not_i hA))) fun bb17 hbb18 => (oZ (tN (hK11 _ _ ?_))))))))))
 refine wpF_condB (bb17) (vr (.bool (bb17)) rfl) (fun hc0 => ?_) (fun hc0 => ?_)
 ·refine sk fun K19 hK19 => (wt (oA rfl (oZ (tN (hK19 _ _ (wpF_ret (thenF_ret (postF_ret (fn := Tryd.f8) _ rfl [.bool (true)] (.bool (true)) rfl ⟨rfl, trivial⟩ ?_))))))))
  exact ⟨rfl, hE⟩
 subst hbb18
 have h0 : lightR y.1 = true ∧ l.length ≤ 40 := by simpa using hc0
 have hc := lightR_few h0.1
 have hL : RefsLt y.1 := lt_of hN hc
 have hll := h0.2
 refine wpF_skip (tN (hK10 _ _ (sk fun K20 hK20 => (wt (oS rfl (Yk.loadAll (vr (PQ n2 0) rfl) hb8 (wr39_ty49).choose_spec rfl (st_isz (refs_len y) wr39_isz49) (oS rfl (Yk.callA1 wr39_pl27 (vr (.agg (refsC y).toArray) rfl) ((told20_any _ y (RefsAt.mk (hmt.keep hE) (hmg.keep hE) (hml.keep hE)) hc).mono ?_)))))))))
 rintro e w24 ⟨v21, rfl, hp22, hx23⟩
 refine ⟨_, rfl, ?_⟩
 have hE := hE.trans hx23
 have hb8 := eb hx23 hb8
 have hr25 : RG 33 nmdC w24 v21.branches y.1.branches := hp22.branches
 have hr26 : RG 33 nmdC w24 v21.tags y.1.tags := hp22.tags
 have hr27 : RG 67 entC w24 v21.log y.1.log := hp22.log
 refine oM rfl (oS rfl (Yk.callA3 wr39_pl26 (vr (.agg (refsC (y.1, v21)).toArray) rfl) T1 (vr (St (([110, 111, 116, 101] : List UInt8))) rfl) ((apply20_any _ (y.1, v21) hp22 hL lv l (hl.keep hE) (by omega) hO noteW).mono ?_)))
 rintro e w31 ⟨v28, rfl, hR29, hx30⟩
 refine ⟨_, rfl, ?_⟩
 have hE := hE.trans hx30
 have hb8 := eb hx30 hb8
 have hp22 := hp22.keep hx30
 have hr25 := hr25.keep hx30
 have hr26 := hr26.keep hx30
 have hr27 := hr27.keep hx30
 have ho32 : OG 0 70 33 nmdC w31 v28.branches (applyP y.1 l noteW).2.branches := OG.low hR29.br (Nat.zero_le _)
 have hap33 := OG.off ho32 hb8 (by decide)
 have ho34 : OG 0 70 33 nmdC w31 v28.tags (applyP y.1 l noteW).2.tags := OG.low hR29.tg (Nat.zero_le _)
 have hap35 := OG.off ho34 hb8 (by decide)
 have ho36 : OG 0 122 67 entC w31 v28.log (applyP y.1 l noteW).2.log := OG.low hR29.lg (Nat.zero_le _)
 have hap37 := OG.off ho36 hb8 (by decide)
 refine oM rfl (oS rfl (Yk.extract (vs := [.agg (refsC ((applyP y.1 l noteW).2, v28)).toArray, NI ((applyP y.1 l noteW).1)]) (vr (.tuple #[.agg (refsC ((applyP y.1 l noteW).2, v28)).toArray, NI ((applyP y.1 l noteW).1)]) rfl) (show _ = some (.agg (refsC ((applyP y.1 l noteW).2, v28)).toArray : Value) from rfl) (oS rfl (Yk.extract (vs := [.agg (refsC ((applyP y.1 l noteW).2, v28)).toArray, NI ((applyP y.1 l noteW).1)]) (vr (.tuple #[.agg (refsC ((applyP y.1 l noteW).2, v28)).toArray, NI ((applyP y.1 l noteW).1)]) rfl) (show _ = some (NI ((applyP y.1 l noteW).1) : Value) from rfl) (oS rfl (Yk.alloc (cs := (refsC ((⟨[], [], [], zid, []⟩, ⟨.slice none 0 0, .slice none 0 0, .slice none 0 0⟩) : RefsV)).toArray) wr39_al53 fun n38 w39 hn40 hb41 hx42 hs43 => ?_))))))
 have hA44 := Ext.refl w31
 have hea45 := hE
 have hz46 := hE.size
 have hlt47 := lte (bl hb8) hn40
 have hap48 : OB v28.branches n38 := own_newer ho32.2 (by omega)
 have hap49 : OB v28.tags n38 := own_newer ho34.2 (by omega)
 have hap50 : OB v28.log n38 := own_newer ho36.2 (by omega)
 have hE := hE.trans hx42
 have hb8 := eb hx42 hb8
 have ho32 := ho32.keep hx42
 have ho34 := ho34.keep hx42
 have ho36 := ho36.keep hx42
 have hA44 := hA44.trans hx42
 have hb51 := hb41; clear hb41
 have hl52 : n38 < w39.heap.size := by omega
 refine oS rfl (Yk.storeAll (vr (PQ n38 0) rfl) (vr (.agg (refsC ((applyP y.1 l noteW).2, v28)).toArray) rfl) hb51 (by simp only [List.size_toArray, refs_len]) (st_isz (refs_len _) wr39_isz53) (refs_one (x := ((applyP y.1 l noteW).2, v28)) (RG.one (RG.ofOwn ho32)).2 (RG.one (RG.ofOwn ho34)).2 (RG.one (RG.ofOwn ho36)).2) fun w53 hb54 hg55 hs56 => ?_)
 have hE := row_fresh hE hg55 (Nat.le_trans hz46 (by omega))
 have hb8 := kb hg55 hb8 (by omega)
 have ho32 := OG.kept ho32 hg55 hap48
 have ho34 := OG.kept ho34 hg55 hap49
 have ho36 := OG.kept ho36 hg55 hap50
 have hA44 := row_fresh hA44 hg55 (Nat.le_trans (Nat.le_refl _) (by omega))
 clear hb51
 have hb51 : w53.heap[n38]? = some (.cells (refsC ((applyP y.1 l noteW).2, v28)).toArray 53 (0, 0)) := hb54; clear hb54
 have hl57 := bl hb51
 refine oA rfl (oZ (tN (hK20 _ _ (sk fun K58 hK58 => (wt (oS rfl (Yk.loadAll (vr (PQ n2 0) rfl) hb8 (wr39_ty49).choose_spec rfl (st_isz (refs_len y) wr39_isz49) (oS rfl (Yk.callA1 wr39_pl27 (vr (.agg (refsC y).toArray) rfl) ((told20_any _ y (RefsAt.mk (hmt.keep hE) (hmg.keep hE) (hml.keep hE)) hc).mono ?_))))))))))
 rintro e w62 ⟨v59, rfl, hp60, hx61⟩
 refine ⟨_, rfl, ?_⟩
 have hE := hE.trans hx61
 have hb8 := eb hx61 hb8
 have ho32 := ho32.keep hx61
 have ho34 := ho34.keep hx61
 have ho36 := ho36.keep hx61
 have hA44 := hA44.trans hx61
 have hb51 := eb hx61 hb51
 have hr63 : RG 33 nmdC w62 v59.branches y.1.branches := hp60.branches
 have hr64 : RG 33 nmdC w62 v59.tags y.1.tags := hp60.tags
 have hr65 : RG 67 entC w62 v59.log y.1.log := hp60.log
 refine oS rfl (Yk.alloc (cs := (refsC ((⟨[], [], [], zid, []⟩, ⟨.slice none 0 0, .slice none 0 0, .slice none 0 0⟩) : RefsV)).toArray) wr39_al53 fun n66 w67 hn68 hb69 hx70 hs71 => ?_)
 have hA72 := Ext.refl w62
 have hea73 := hE
 have hea74 := hA44
 have hz75 := hE.size
 have hz76 := hA44.size
 have hlt77 := lte (bl hb8) hn68
 have hlt78 := lte (bl hb51) hn68
 have hap79 : OB v28.branches n66 := own_newer ho32.2 (by omega)
 have hap80 : OB v28.tags n66 := own_newer ho34.2 (by omega)
 have hap81 : OB v28.log n66 := own_newer ho36.2 (by omega)
 have hE := hE.trans hx70
 have hb8 := eb hx70 hb8
 have ho32 := ho32.keep hx70
 have ho34 := ho34.keep hx70
 have ho36 := ho36.keep hx70
 have hA44 := hA44.trans hx70
 have hb51 := eb hx70 hb51
 have hA72 := hA72.trans hx70
 have hb82 := hb69; clear hb69
 have hl83 : n66 < w67.heap.size := by omega
 refine oS rfl (Yk.storeAll (vr (PQ n66 0) rfl) (vr (.agg (refsC (y.1, v59)).toArray) rfl) hb82 (by simp only [List.size_toArray, refs_len]) (st_isz (refs_len _) wr39_isz53) (refs_one (x := (y.1, v59)) (RG.one (hr63.keep hA72)).2 (RG.one (hr64.keep hA72)).2 (RG.one (hr65.keep hA72)).2) fun w84 hb85 hg86 hs87 => ?_)
 have hE := row_fresh hE hg86 (Nat.le_trans hz75 (by omega))
 have hb8 := kb hg86 hb8 (by omega)
 have ho32 := OG.kept ho32 hg86 hap79
 have ho34 := OG.kept ho34 hg86 hap80
 have ho36 := OG.kept ho36 hg86 hap81
 have hA44 := row_fresh hA44 hg86 (Nat.le_trans hz76 (by omega))
 have hb51 := kb hg86 hb51 (by omega)
 have hA72 := row_fresh hA72 hg86 (Nat.le_trans (Nat.le_refl _) (by omega))
 clear hb82
 have hb82 : w84.heap[n66]? = some (.cells (refsC (y.1, v59)).toArray 53 (0, 0)) := hb85; clear hb85
 have hl88 := bl hb82
 refine oZ (tN (hK58 _ _ (sk fun K89 hK89 => (wt (oA rfl (oZ (tN (hK89 _ _ (sk fun K90 hK90 => (sk fun K91 hK91 => (wt (oA rfl (oL_ [(0, .agg (refsC y).toArray), (1, lv), (2, PQ n2 0), (4, .bool (false)), (5, PQ n38 0), (6, NI ((applyP y.1 l noteW).1)), (7, PQ n66 0), (8, NI 0), (9, NI 0)] ⟨T0, T1, rfl, rfl, rfl, rfl, rfl, rfl, rfl, trivial⟩ fun ρ92 ⟨T0, T1, T2, T4, T5, T6, T7, T8, T9, _⟩ => (tN (hK91 _ _ (wpF_block (wpF_loop (fun (ρ : Slots) (wz : World) => ∃ i : Nat, ∃ z : RefsV, ρ 0 = (.agg (refsC y).toArray : Value) ∧ ρ 1 = (lv : Value) ∧ ρ 2 = (PQ n2 0 : Value) ∧ ρ 4 = (.bool (false) : Value) ∧ ρ 5 = (PQ n38 0 : Value) ∧ ρ 6 = (NI ((applyP y.1 l noteW).1) : Value) ∧ ρ 7 = (PQ n66 0 : Value) ∧ ρ 8 = (NI ((seqP noteW y.1 l i).1) : Value) ∧ ρ 9 = (NI i : Value) ∧ Ext w wz ∧ wz.heap[n2]? = some (.cells (refsC y).toArray 49 (0, 0)) ∧ OG 0 70 33 nmdC wz v28.branches (applyP y.1 l noteW).2.branches ∧ OG 0 70 33 nmdC wz v28.tags (applyP y.1 l noteW).2.tags ∧ OG 0 122 67 entC wz v28.log (applyP y.1 l noteW).2.log ∧ Ext w31 wz ∧ wz.heap[n38]? = some (.cells (refsC ((applyP y.1 l noteW).2, v28)).toArray 53 (0, 0)) ∧ Ext w62 wz ∧ wz.heap[n66]? = some (.cells (refsC z).toArray 53 (0, 0)) ∧ RefsAt wz z ∧ (i ≤ l.length) ∧ (z.1 = (seqP noteW y.1 l i).2) ∧ (∀ j, j < i → (seqP noteW y.1 l j).1 = 0) ∧ True) (fun ρ _ => l.length - (intOf (ρ 9)).toNat) ⟨0, (y.1, v59), T0, T1, T2, T4, T5, T6, T7, T8, T9, hE, hb8, ho32, ho34, ho36, hA44, hb51, hA72, hb82, (hp60.keep hA72), Nat.zero_le _, rfl, fun j hj => absurd hj (Nat.not_lt_zero _), trivial⟩ ?_)))))))))))))))))
 clear hb82
 clear hE hb8 ho32 ho34 ho36 hA44 hb51 hA72
 rintro ρ93 w94 ⟨i, z, T0, T1, T2, T4, T5, T6, T7, T8, T9, hE, hb8, ho32, ho34, ho36, hA44, hb51, hA72, hb7, hz, hi, hz1, hj, -⟩
 have q9 := T9
 refine sk fun K95 hK95 => (sk fun K96 hK96 => (wt (oM rfl (oM rfl (oS rfl (Yk.lenRG wr39_ty22 (RG.of (hl.keep hE) T1) (oS rfl (Yk.eqI (a := (i : Nat)) (b := (l.length : Nat)) T9 rfl (k_lss _ _ _ _) (oM rfl (opsF_mayV (NI ((seqP noteW y.1 l i).1)) rfl rfl (gT (vr (.bool (decide ((i) < (l.length)))) rfl)) (fun hG97 => Yk.move T8 ⟨rfl, rfl⟩) (opsF_mayV (.bool (decide (((seqP noteW y.1 l i).1 : Nat) = (0)))) rfl rfl (gT (vr (.bool (decide ((i) < (l.length)))) rfl)) (fun hG98 => Yk.eqI (a := (((seqP noteW y.1 l i).1 : Nat) : Int)) (b := ((0 : Nat) : Int)) (mayT (vr (cond ((decide ((i) < (l.length)))) (NI ((seqP noteW y.1 l i).1)) undef) rfl) hG98) (vr (NI 0) rfl) (k_eql _ .i64 ((seqP noteW y.1 l i).1) (0)) ⟨rfl, rfl⟩) (oS rfl (Yk.pickAndN (vr (.bool (decide ((i) < (l.length)))) rfl) (fun hA => (mayT (vr (cond ((decide ((i) < (l.length)))) (.bool (decide (((seqP noteW y.1 l i).1 : Nat) = (0)))) undef) rfl) hA)) (vr (.bool (false)) rfl) fun bb99 hbb100 => (oZ (tN (hK96 _ _ ?_))))))))))))))))
 refine wpF_condB (bb99) (vr (.bool (bb99)) rfl) (fun hc1 => ?_) (fun hc1 => ?_)
 ·subst hbb100
  have hlt : i < l.length ∧ (seqP noteW y.1 l i).1 = 0 := by simpa using hc1
  have hLz : RefsLt z.1 := by rw [hz1]; exact seq_lt note_W hL hj hlt.2
  refine wpF_skip (tN (hK95 _ _ (sk fun K101 hK101 => (wpF_block ?_))))
  refine wpF_draw_late 9 10 [Is (.agg (refsC z).toArray), Is (lv), Is (NI i), Is (NI i), Is (NI ((i) + (1))), fun x _ => RG 66 updC w94 x [l.getD i dUpd], fun x w' => ∃ v, x = .tuple #[.agg (refsC ((applyP z.1 [l.getD i dUpd] noteW).2, v)).toArray, NI ((applyP z.1 [l.getD i dUpd] noteW).1)] ∧ RefsOw 0 w' ((applyP z.1 [l.getD i dUpd] noteW).2, v), fun x w' => ∃ v, x = .tuple #[.agg (refsC ((applyP z.1 [l.getD i dUpd] noteW).2, v)).toArray, NI ((applyP z.1 [l.getD i dUpd] noteW).1)] ∧ RefsOw 0 w' ((applyP z.1 [l.getD i dUpd] noteW).2, v), fun x w' => ∃ v, x = .agg (refsC ((applyP z.1 [l.getD i dUpd] noteW).2, v)).toArray ∧ RefsOw 0 w' ((applyP z.1 [l.getD i dUpd] noteW).2, v), Is (NI ((applyP z.1 [l.getD i dUpd] noteW).1))] (by kernel_rfl) [38, 39, 40, 41, 42, 43, 44, 37, 45, 46, 8] (by kernel_rfl) rfl (by kernel_rfl) (by kernel_rfl) (by kernel_rfl) (by kernel_rfl) (by kernel_rfl) (by kernel_rfl) rfl rfl (si5 ⟨(fun _ _ _ h _ => h), (fun _ _ _ ⟨v, h1, h2⟩ k => ⟨v, h1, h2.keep k⟩), (fun _ _ _ ⟨v, h1, h2⟩ k => ⟨v, h1, h2.keep k⟩), (fun _ _ _ ⟨v, h1, h2⟩ k => ⟨v, h1, h2.keep k⟩), Stab.is _, trivial⟩) (fun _ _ _ _ h => h) ?hs1009 ?hQ1009
  case hs1009 =>
   refine ⟨?_, ?_, ?_, ?_, ?_, ?_, ?_, ?_, ?_, ?_, ?_, ?_, trivial⟩
   ·refine stepFC (stepN rfl fun σ w1 hC h => ?_)
    have e7 := (eqo (h 7 (by decide))).trans T7
    exact Yk.loadAll e7 (eb hC hb7) (wr39_ty53).choose_spec rfl (st_isz (refs_len z) wr39_isz53) ⟨Ext.refl _, rfl⟩
   ·refine stepFC (stepN rfl fun σ w1 hC h => ?_)
    have e1 := (eqo (h 1 (by decide))).trans T1
    exact Yk.move e1 ⟨Ext.refl _, rfl⟩
   ·refine stepFC (stepN rfl fun σ w1 hC h => ?_)
    have e9 := (eqo (h 9 (by decide))).trans T9
    exact Yk.move e9 ⟨Ext.refl _, rfl⟩
   ·refine stepFC (stepN rfl fun σ w1 hC h => ?_)
    have e9 := (eqo (h 9 (by decide))).trans T9
    exact Yk.move e9 ⟨Ext.refl _, rfl⟩
   ·refine stepFC (stepN rfl fun σ w1 hC h => ?_)
    have e41 := eqo (h 41 (by decide))
    exact Yk.bin (xv := NI i) (yv := NI 1) e41 rfl rfl (i64_add _ _ _ (by omega)) ⟨Ext.refl _, rfl⟩
   ·refine stepFC (stepN rfl fun σ w1 hC h => ?_)
    have e39 := eqo (h 39 (by decide))
    have e40 := eqo (h 40 (by decide))
    have e42 := eqo (h 42 (by decide))
    exact Yk.sliceOneW wr39_ty22 wr39_szg67 dUpd e39 (hl.keep hE) e40 e42 hlt.1 fun v h => ⟨Ext.refl _, h⟩
   ·refine stepFC (stepN rfl fun σ w1 hC h => ?_)
    have e38 := eqo (h 38 (by decide))
    have e43 : (fun x _ => RG 66 updC w94 x [l.getD i dUpd]) (σ 43) w1 := h 43 (by decide)
    refine Yk.callA3 wr39_pl26 e38 rfl (vr (St (([110, 111, 116, 101] : List UInt8))) rfl) ((apply20_any _ z (hz.keep hC) hLz (σ 43) [l.getD i dUpd] (RG.keep (show RG 66 updC w94 (σ 43) [l.getD i dUpd] from e43) hC) (by simp) (fun x hx => by rw [List.mem_singleton.1 hx]; exact hO _ (getD_mem dUpd hlt.1)) noteW).mono ?_)
    rintro e w2 ⟨v, rfl, hR, hx⟩
    exact ⟨_, rfl, hx, v, rfl, hR.zero⟩
   ·refine stepFC (stepN rfl fun σ w1 hC h => ?_)
    have e44 : (fun x w' => ∃ v, x = .tuple #[.agg (refsC ((applyP z.1 [l.getD i dUpd] noteW).2, v)).toArray, NI ((applyP z.1 [l.getD i dUpd] noteW).1)] ∧ RefsOw 0 w' ((applyP z.1 [l.getD i dUpd] noteW).2, v)) (σ 44) w1 := h 44 (by decide)
    exact Yk.move rfl ⟨Ext.refl _, e44⟩
   ·refine stepFC (stepN rfl fun σ w1 hC h => ?_)
    have e37 : (fun x w' => ∃ v, x = .tuple #[.agg (refsC ((applyP z.1 [l.getD i dUpd] noteW).2, v)).toArray, NI ((applyP z.1 [l.getD i dUpd] noteW).1)] ∧ RefsOw 0 w' ((applyP z.1 [l.getD i dUpd] noteW).2, v)) (σ 37) w1 := h 37 (by decide)
    obtain ⟨v0, h1_, h2_⟩ := e37
    exact Yk.extract (vs := [.agg (refsC ((applyP z.1 [l.getD i dUpd] noteW).2, v0)).toArray, NI ((applyP z.1 [l.getD i dUpd] noteW).1)]) h1_ (show _ = some (Value.agg (refsC ((applyP z.1 [l.getD i dUpd] noteW).2, v0)).toArray) from rfl) ⟨Ext.refl _, v0, rfl, h2_⟩
   ·refine stepFC (stepN rfl fun σ w1 hC h => ?_)
    have e37 : (fun x w' => ∃ v, x = .tuple #[.agg (refsC ((applyP z.1 [l.getD i dUpd] noteW).2, v)).toArray, NI ((applyP z.1 [l.getD i dUpd] noteW).1)] ∧ RefsOw 0 w' ((applyP z.1 [l.getD i dUpd] noteW).2, v)) (σ 37) w1 := h 37 (by decide)
    obtain ⟨v0, h1_, h2_⟩ := e37
    exact Yk.extract (vs := [.agg (refsC ((applyP z.1 [l.getD i dUpd] noteW).2, v0)).toArray, NI ((applyP z.1 [l.getD i dUpd] noteW).1)]) h1_ (show _ = some (NI ((applyP z.1 [l.getD i dUpd] noteW).1) : Value) from rfl) ⟨Ext.refl _, rfl⟩
   ·exact trivial
   ·exact trivial
  intro ρ102 w103 hx104 he hf
  obtain ⟨-, -, -, -, -, -, -, -, k45, k46, -⟩ := hf
  obtain ⟨T0, T1, T2, T4, T5, T6, T7, T9, -⟩ := he.hold [(0, _), (1, _), (2, _), (4, _), (5, _), (6, _), (7, _), (9, _)] ⟨T0, T1, T2, T4, T5, T6, T7, T9, trivial⟩ rfl
  clear he
  have hE := hE.trans hx104
  have hb8 := eb hx104 hb8
  have ho32 := ho32.keep hx104
  have ho34 := ho34.keep hx104
  have ho36 := ho36.keep hx104
  have hA44 := hA44.trans hx104
  have hb51 := eb hx104 hb51
  have hA72 := hA72.trans hx104
  have hb7 := eb hx104 hb7
  have hz := hz.keep hx104
  have k45 : (fun x w' => ∃ v, x = .agg (refsC ((applyP z.1 [l.getD i dUpd] noteW).2, v)).toArray ∧ RefsOw 0 w' ((applyP z.1 [l.getD i dUpd] noteW).2, v)) (ρ102 45) w103 := k45
  obtain ⟨v105, T45⟩ : ∃ v, ρ102 45 = v := ⟨_, rfl⟩
  rw [T45] at k45
  have hk106 := k45; clear k45
  obtain ⟨v107, hq_, hR108⟩ := hk106
  rw [hq_] at T45; clear hq_
  have ho109 : OG 0 70 33 nmdC w103 v107.branches (applyP z.1 [l.getD i dUpd] noteW).2.branches := OG.low hR108.br (Nat.zero_le _)
  have hap110 := OG.off ho109 hb8 (by decide)
  have hap111 := OG.off ho109 hb51 (by decide)
  have hap112 := OG.off ho109 hb7 (by decide)
  have ho113 : OG 0 70 33 nmdC w103 v107.tags (applyP z.1 [l.getD i dUpd] noteW).2.tags := OG.low hR108.tg (Nat.zero_le _)
  have hap114 := OG.off ho113 hb8 (by decide)
  have hap115 := OG.off ho113 hb51 (by decide)
  have hap116 := OG.off ho113 hb7 (by decide)
  have ho117 : OG 0 122 67 entC w103 v107.log (applyP z.1 [l.getD i dUpd] noteW).2.log := OG.low hR108.lg (Nat.zero_le _)
  have hap118 := OG.off ho117 hb8 (by decide)
  have hap119 := OG.off ho117 hb51 (by decide)
  have hap120 := OG.off ho117 hb7 (by decide)
  have T46 : ρ102 46 = NI ((applyP z.1 [l.getD i dUpd] noteW).1) := k46
  clear k46
  refine oS rfl (Yk.storeAll T7 T45 hb7 (by simp only [List.size_toArray, refs_len]) (st_isz (refs_len _) wr39_isz53) (refs_one (x := ((applyP z.1 [l.getD i dUpd] noteW).2, v107)) (RG.one (RG.ofOwn ho109)).2 (RG.one (RG.ofOwn ho113)).2 (RG.one (RG.ofOwn ho117)).2) fun w121 hb122 hg123 hs124 => ?_)
  have hE := row_fresh hE hg123 (Nat.le_trans hz75 (by omega))
  have hb8 := kb hg123 hb8 (by omega)
  have ho32 := OG.kept ho32 hg123 hap79
  have ho34 := OG.kept ho34 hg123 hap80
  have ho36 := OG.kept ho36 hg123 hap81
  have hA44 := row_fresh hA44 hg123 (Nat.le_trans hz76 (by omega))
  have hb51 := kb hg123 hb51 (by omega)
  have hA72 := row_fresh hA72 hg123 (Nat.le_trans (Nat.le_refl _) (by omega))
  clear hz
  have ho109 := OG.kept ho109 hg123 hap112
  have ho113 := OG.kept ho113 hg123 hap116
  have ho117 := OG.kept ho117 hg123 hap120
  clear hb7
  have hb7 : w121.heap[n66]? = some (.cells (refsC ((applyP z.1 [l.getD i dUpd] noteW).2, v107)).toArray 53 (0, 0)) := hb122; clear hb122
  have hl125 := bl hb7
  refine oA rfl (oZ (bN (tN (hK101 _ _ (wt (oM rfl (oS rfl (Yk.bin (xv := NI i) (yv := NI 1) T9 rfl rfl (i64_add _ _ _ (by omega)) (oA rfl (oL_ [(0, .agg (refsC y).toArray), (1, lv), (2, PQ n2 0), (4, .bool (false)), (5, PQ n38 0), (6, NI ((applyP y.1 l noteW).1)), (7, PQ n66 0), (8, NI ((applyP z.1 [l.getD i dUpd] noteW).1)), (9, NI ((i) + (1)))] ⟨T0, T1, T2, T4, T5, T6, T7, T46, rfl, trivial⟩ fun ρ126 ⟨T0, T1, T2, T4, T5, T6, T7, T8, T9, _⟩ => (tN (And.intro ⟨i + 1, ((applyP z.1 [l.getD i dUpd] noteW).2, v107), T0, T1, T2, T4, T5, T6, T7, (by rw [T8, hz1]; rfl), T9, hE, hb8, ho32, ho34, ho36, hA44, hb51, hA72, hb7, (RefsAt.mk (RG.ofOwn ho109) (RG.ofOwn ho113) (RG.ofOwn ho117)), by omega, (by show (applyP z.1 [l.getD i dUpd] noteW).2 = _; rw [hz1]; rfl), (fun j hj2 => by rcases Nat.lt_succ_iff_lt_or_eq.1 hj2 with h_ | h_; exact hj j h_; rw [h_]; exact hlt.2), trivial⟩ ?_))))))))))))
  show l.length - (intOf (ρ126 9)).toNat < l.length - (intOf (ρ93 9)).toNat
  rw [T9, q9]
  simp only [intOf, Int.toNat_natCast]; omega
 subst hbb100
 have hend : i = l.length ∨ (seqP noteW y.1 l i).1 ≠ 0 := by by_cases h_ : i = l.length; exact .inl h_; right; intro h2_; simp [h2_] at hc1; omega
 obtain ⟨hwe, hwo⟩ := whole_ok note_W hi hj hend
 refine wpF_exit (thenF_exit (thenF_exit (inBlockF_hit (tN (hK90 _ _ (sk fun K127 hK127 => (sk fun K128 hK128 => (wt (oM rfl (oS rfl (Yk.eqI (a := ((applyP y.1 l noteW).1 : Nat)) (b := (0 : Nat)) T6 rfl (k_neq _ _ _ _) (oZ (tN (hK128 _ _ ?_))))))))))))))
 refine wpF_cond (((applyP y.1 l noteW).1 : Nat) ≠ (0)) (vr (.bool (decide (((applyP y.1 l noteW).1 : Nat) ≠ (0)))) rfl) (fun hc2 => ?_) (fun hc2 => ?_)
 ·have hE2 : (applyP y.1 l noteW).1 ≠ 0 := hc2
  have hz0 := applyP_zero hE2
  by_cases hfe : (seqP noteW y.1 l i).1 = (applyP y.1 l noteW).1
  ·refine sk fun K129 hK129 => (wt (oM rfl (oM rfl (oS rfl (Yk.eqI (a := ((seqP noteW y.1 l i).1 : Nat)) (b := ((applyP y.1 l noteW).1 : Nat)) T8 T6 (k_eql _ _ _ _) (oM rfl (oY (d := 52) rfl rfl (vr (.bool (true)) (congrArg Value.bool (decide_eq_true (hfe)))) (Yk.loadAll T5 hb51 (wr39_ty53).choose_spec rfl (st_isz (refs_len ((applyP y.1 l noteW).2, v28)) wr39_isz53) (oY (d := 52) rfl rfl (vr (.bool (true)) (congrArg Value.bool (decide_eq_true (hfe)))) (Yk.callA1 wr39_pl30 (vr (.agg (refsC ((applyP y.1 l noteW).2, v28)).toArray) rfl) ((of20_any _ ((applyP y.1 l noteW).2, v28) (RefsAt.mk (RG.ofOwn ho32) (RG.ofOwn ho34) (RG.ofOwn ho36)) (by rw [hz0]; exact zeroR_few)).mono ?_)))))))))))
   rintro e w133 ⟨v130, rfl, hp131, hx132⟩
   refine ⟨_, rfl, ?_⟩
   have hE := hE.trans hx132
   have hb8 := eb hx132 hb8
   have ho32 := ho32.keep hx132
   have ho34 := ho34.keep hx132
   have ho36 := ho36.keep hx132
   have hA44 := hA44.trans hx132
   have hb51 := eb hx132 hb51
   have hA72 := hA72.trans hx132
   have hb7 := eb hx132 hb7
   have hz := hz.keep hx132
   refine oY (d := 52) rfl rfl (vr (.bool (true)) (congrArg Value.bool (decide_eq_true (hfe)))) (Yk.run (v := .agg (refsC ((⟨[], [], [], zid, []⟩, ⟨.slice none 0 0, .slice none 0 0, .slice none 0 0⟩) : RefsV)).toArray) (by kernel_rfl) (oY (d := 52) rfl rfl (vr (.bool (true)) (congrArg Value.bool (decide_eq_true (hfe)))) (Yk.callA2 wr39_pl29 (vr (.agg (refsC ((applyP y.1 l noteW).2, v130)).toArray) rfl) (vr (.agg (refsC ((⟨[], [], [], zid, []⟩, ⟨.slice none 0 0, .slice none 0 0, .slice none 0 0⟩) : RefsV)).toArray) rfl) ((same20_true _ ((applyP y.1 l noteW).2, v130) ((⟨[], [], [], zid, []⟩, ⟨.slice none 0 0, .slice none 0 0, .slice none 0 0⟩) : RefsV) hp131 ⟨RG.nil _ _ _, RG.nil _ _ _, RG.nil _ _ _⟩ hz0.symm (by show RefsLt (applyP y.1 l noteW).2; rw [hz0]; exact zeroR_lt)).mono ?_))))
   rintro e w135 ⟨rfl, hx134⟩
   refine ⟨_, rfl, ?_⟩
   have hE := hE.trans hx134
   have hb8 := eb hx134 hb8
   have ho32 := ho32.keep hx134
   have ho34 := ho34.keep hx134
   have ho36 := ho36.keep hx134
   have hA44 := hA44.trans hx134
   have hb51 := eb hx134 hb51
   have hA72 := hA72.trans hx134
   have hb7 := eb hx134 hb7
   have hz := hz.keep hx134
   have hp131 := hp131.keep hx134
   refine oS rfl (Yk.pickT (vr (.bool (true)) (congrArg Value.bool (decide_eq_true (hfe)))) (vr (.bool (true)) rfl) (oM rfl (oN (d := 58) rfl rfl rfl (vr (.bool (true)) rfl) rfl (oN (d := 58) rfl rfl rfl (vr (.bool (true)) rfl) rfl (oN (d := 58) rfl rfl rfl (vr (.bool (true)) rfl) rfl (oN (d := 58) rfl rfl rfl (vr (.bool (true)) rfl) rfl (opsF_offU (d := 62) rfl rfl rfl (vr undef rfl) (oN (d := 58) rfl rfl rfl (vr (.bool (true)) rfl) rfl (oS rfl (Yk.pickT (vr (.bool (true)) rfl) (vr (.bool (true)) rfl) (oA rfl (oZ (tN (hK129 _ _ (wpF_ret (thenF_ret (postF_ret (fn := Tryd.f8) _ rfl [.bool (true)] (.bool (true)) rfl ⟨rfl, trivial⟩ ?_)))))))))))))))))
   exact ⟨rfl, hE⟩
  have hl0 : l.length = 0 := (hwe hE2).resolve_right hfe
  refine sk fun K136 hK136 => (wt (oM rfl (oM rfl (oS rfl (Yk.eqI (a := ((seqP noteW y.1 l i).1 : Nat)) (b := ((applyP y.1 l noteW).1 : Nat)) T8 T6 (k_eql _ _ _ _) (oM rfl (oN (d := 52) rfl rfl rfl (vr (.bool (false)) (congrArg Value.bool (decide_eq_false (hfe)))) rfl (oN (d := 52) rfl rfl rfl (vr (.bool (false)) (congrArg Value.bool (decide_eq_false (hfe)))) rfl (oN (d := 52) rfl rfl rfl (vr (.bool (false)) (congrArg Value.bool (decide_eq_false (hfe)))) rfl (oN (d := 52) rfl rfl rfl (vr (.bool (false)) (congrArg Value.bool (decide_eq_false (hfe)))) rfl (oS rfl (Yk.pickF (vr (.bool (false)) (congrArg Value.bool (decide_eq_false (hfe)))) (vr (.bool (false)) rfl) (oM rfl (oY (d := 58) rfl rfl (vr (.bool (false)) rfl) (Yk.move T1 (oY (d := 58) rfl rfl (vr (.bool (false)) rfl) (Yk.lenRG wr39_ty22 (RG.of (hl.keep hE) (vr lv rfl)) (oY (d := 58) rfl rfl (vr (.bool (false)) rfl) (Yk.eqI (a := (l.length : Nat)) (b := (0 : Nat)) rfl rfl (k_eql _ _ _ _) (oY (d := 58) rfl rfl (vr (.bool (false)) rfl) (Yk.move (vr (.bool (true)) (congrArg Value.bool (decide_eq_true (hl0)))) ?_)))))))))))))))))))))
  refine oY (d := 62) rfl rfl (vr (.bool (true)) rfl) (Yk.callA0 wr39_pl35  ((awake20 _).mono ?_))
  rintro e w138 ⟨rfl, hx137⟩
  refine ⟨_, rfl, ?_⟩
  have hE := hE.trans hx137
  have hb8 := eb hx137 hb8
  have ho32 := ho32.keep hx137
  have ho34 := ho34.keep hx137
  have ho36 := ho36.keep hx137
  have hA44 := hA44.trans hx137
  have hb51 := eb hx137 hb51
  have hA72 := hA72.trans hx137
  have hb7 := eb hx137 hb7
  have hz := hz.keep hx137
  refine oY (d := 58) rfl rfl (vr (.bool (false)) rfl) (Yk.pickT (vr (.bool (true)) rfl) (vr (.bool (true)) rfl) (oS rfl (Yk.pickF (vr (.bool (false)) rfl) (vr (.bool (true)) rfl) (oA rfl (oZ (tN (hK136 _ _ (wpF_ret (thenF_ret (postF_ret (fn := Tryd.f8) _ rfl [.bool (true)] (.bool (true)) rfl ⟨rfl, trivial⟩ ?_))))))))))
  exact ⟨rfl, hE⟩
 have hE0 : (applyP y.1 l noteW).1 = 0 := by simpa using hc2
 obtain ⟨hf0, hsame⟩ := hwo hE0
 have hrR := apply_right hE0
 have hLR := right_lt hrR
 have hcR := right_few hrR
 by_cases hl0 : l.length = 0
 ·refine wpF_skip (tN (hK127 _ _ (sk fun K139 hK139 => ?_)))
  refine wpF_draw_cut 15 [Is (NI ((seqP noteW y.1 l i).1)), Is (.bool (true)), Is (.bool (true)), Is (.agg (refsC ((applyP y.1 l noteW).2, v28)).toArray), Is (.bool (true)), Is (.bool (true)), Is (.bool (true)), Is (lv), Is (NI l.length), Is (.bool (true)), Is (.bool (true)), Is undef, Is undef, Is undef, Is undef] (by kernel_rfl) [66, 67, 68, 69, 70, 71, 72, 73, 74, 75, 76, 77, 78, 79, 80, 81, 82, 83, 84, 85, 86, 4] (by kernel_rfl) (by kernel_rfl) (by kernel_rfl) (by kernel_rfl) rfl rfl (si3 (si12 trivial)) ?hs2012 ?hQ2012
  case hs2012 =>
   refine ⟨?_, ?_, ?_, ?_, ?_, ?_, ?_, ?_, ?_, ?_, ?_, ?_, ?_, ?_, ?_, ?_, ?_, ?_, ?_, ?_, ?_, ?_, trivial⟩
   ·refine stepFC (stepN rfl fun σ w1 hC h => ?_)
    have e8 := (eqo (h 8 (by decide))).trans T8
    exact Yk.move e8 ⟨Ext.refl _, rfl⟩
   ·refine stepFC (stepN rfl fun σ w1 hC h => ?_)
    have e66 := eqo (h 66 (by decide))
    exact Yk.eqI (a := ((seqP noteW y.1 l i).1 : Nat)) (b := (0 : Nat)) e66 rfl (k_eql _ _ _ _) ⟨Ext.refl _, (congrArg Value.bool (decide_eq_true (hf0)))⟩
   ·refine stepFC (stepN rfl fun σ w1 hC h => ?_)
    have e67 := eqo (h 67 (by decide))
    exact Yk.move e67 ⟨Ext.refl _, rfl⟩
   ·refine stepFC (stepY 2 true 68 rfl rfl (fun _ _ h => h) fun σ w1 hC h => ?_)
    have e5 := (eqo (h 5 (by decide))).trans T5
    exact Yk.loadAll e5 (eb hC hb51) (wr39_ty53).choose_spec rfl (st_isz (refs_len ((applyP y.1 l noteW).2, v28)) wr39_isz53) ⟨Ext.refl _, rfl⟩
   ·refine stepFC (stepY 2 true 68 rfl rfl (fun _ _ h => h) fun σ w1 hC h => ?_)
    have e69 := eqo (h 69 (by decide))
    refine Yk.callA1 wr39_pl31 e69 (((show Calls _ _ _ _ (fun e w2 => e = .returned (.bool true) ∧ Ext w1 w2) from by have h_ := fright_any w1 ((applyP y.1 l noteW).2, v28) (RefsAt.mk (RG.ofOwn (ho32.keep hC)) (RG.ofOwn (ho34.keep hC)) (RG.ofOwn (ho36.keep hC))) hLR; rw [show rightF (((applyP y.1 l noteW).2, v28)).1 = true from hrR] at h_; exact h_)).mono ?_)
    rintro e w2 ⟨rfl, hx⟩
    exact ⟨_, rfl, hx, rfl⟩
   ·refine stepFC (stepN rfl fun σ w1 hC h => ?_)
    have e68 := eqo (h 68 (by decide))
    have e70 := eqo (h 70 (by decide))
    exact Yk.pickT e68 e70 ⟨Ext.refl _, rfl⟩
   ·refine stepFC (stepN rfl fun σ w1 hC h => ?_)
    have e71 := eqo (h 71 (by decide))
    exact Yk.move e71 ⟨Ext.refl _, rfl⟩
   ·refine stepFC (stepY 6 true 72 rfl rfl (fun _ _ h => h) fun σ w1 hC h => ?_)
    have e1 := (eqo (h 1 (by decide))).trans T1
    exact Yk.move e1 ⟨Ext.refl _, rfl⟩
   ·refine stepFC (stepY 6 true 72 rfl rfl (fun _ _ h => h) fun σ w1 hC h => ?_)
    have e73 := eqo (h 73 (by decide))
    exact Yk.lenRG wr39_ty22 (RG.of (hl.keep (hE.trans hC)) e73) ⟨Ext.refl _, rfl⟩
   ·refine stepFC (stepY 6 true 72 rfl rfl (fun _ _ h => h) fun σ w1 hC h => ?_)
    have e74 := eqo (h 74 (by decide))
    exact Yk.eqI (a := (l.length : Nat)) (b := (0 : Nat)) e74 rfl (k_eql _ _ _ _) ⟨Ext.refl _, (congrArg Value.bool (decide_eq_true (hl0)))⟩
   ·refine stepFC (stepY 6 true 72 rfl rfl (fun _ _ h => h) fun σ w1 hC h => ?_)
    have e75 := eqo (h 75 (by decide))
    exact Yk.move e75 ⟨Ext.refl _, rfl⟩
   ·refine stepFC (stepX 10 false 76 rfl rfl (fun x _ (h : x = .bool true) => by rw [h]; intro h; cases h) fun _ => rfl)
   ·refine stepFC (stepX 10 false 76 rfl rfl (fun x _ (h : x = .bool true) => by rw [h]; intro h; cases h) fun _ => rfl)
   ·refine stepFC (stepX 10 false 76 rfl rfl (fun x _ (h : x = .bool true) => by rw [h]; intro h; cases h) fun _ => rfl)
   ·refine stepFC (stepX 10 false 76 rfl rfl (fun x _ (h : x = .bool true) => by rw [h]; intro h; cases h) fun _ => rfl)
   ·exact trivial
   ·exact trivial
   ·exact trivial
   ·exact trivial
   ·exact trivial
   ·exact trivial
   ·exact trivial
  intro ρ140 w141 hx142 he hf
  obtain ⟨-, -, -, -, -, -, k72, -, -, -, k76, -, k78, -, k80, -⟩ := hf
  obtain ⟨T0, T1, T2, T5, T6, T7, T8, T9, -⟩ := he.hold [(0, _), (1, _), (2, _), (5, _), (6, _), (7, _), (8, _), (9, _)] ⟨T0, T1, T2, T5, T6, T7, T8, T9, trivial⟩ rfl
  clear he
  have hE := hE.trans hx142
  have hb8 := eb hx142 hb8
  have ho32 := ho32.keep hx142
  have ho34 := ho34.keep hx142
  have ho36 := ho36.keep hx142
  have hA44 := hA44.trans hx142
  have hb51 := eb hx142 hb51
  have hA72 := hA72.trans hx142
  have hb7 := eb hx142 hb7
  have hz := hz.keep hx142
  have T72 : ρ140 72 = .bool (true) := k72
  have T76 : ρ140 76 = .bool (true) := k76
  have T78 : ρ140 78 = undef := k78
  have T80 : ρ140 80 = undef := k80
  clear k72 k76 k78 k80
  refine oN (d := 76) rfl rfl rfl T76 rfl (oY (d := 72) rfl rfl T72 (Yk.pickT T76 (vr (.bool (true)) rfl) (oS rfl (Yk.pickT T72 (vr (.bool (true)) rfl) (oM rfl (oY (d := 84) rfl rfl (vr (.bool (true)) rfl) (Yk.callA0 wr39_pl35  ((awake20 _).mono ?_))))))))
  rintro e w144 ⟨rfl, hx143⟩
  refine ⟨_, rfl, ?_⟩
  have hE := hE.trans hx143
  have hb8 := eb hx143 hb8
  have ho32 := ho32.keep hx143
  have ho34 := ho34.keep hx143
  have ho36 := ho36.keep hx143
  have hA44 := hA44.trans hx143
  have hb51 := eb hx143 hb51
  have hA72 := hA72.trans hx143
  have hb7 := eb hx143 hb7
  have hz := hz.keep hx143
  refine oS rfl (Yk.pickT (vr (.bool (true)) rfl) (vr (.bool (true)) rfl) (oA rfl (oZ (tN (hK139 _ _ (wpF_ret (postF_ret (fn := Tryd.f8) _ rfl [.bool (true)] (.bool (true)) rfl ⟨rfl, trivial⟩ ?_)))))))
  exact ⟨rfl, hE⟩
 have hzR : z.1 = (applyP y.1 l noteW).2 := hz1.trans (hsame hl0)
 refine wpF_skip (tN (hK127 _ _ (sk fun K145 hK145 => ?_)))
 refine wpF_draw_cut 15 [Is (NI ((seqP noteW y.1 l i).1)), Is (.bool (true)), Is (.bool (true)), Is (.agg (refsC ((applyP y.1 l noteW).2, v28)).toArray), Is (.bool (true)), Is (.bool (true)), Is (.bool (true)), Is (lv), Is (NI l.length), Is (.bool (false)), Is (.bool (false)), Is (.agg (refsC z).toArray), fun x w' => ∃ v, x = .agg (refsC (z.1, v)).toArray ∧ RefsAt w' (z.1, v), Is (.agg (refsC ((applyP y.1 l noteW).2, v28)).toArray), fun x w' => ∃ v, x = .agg (refsC ((applyP y.1 l noteW).2, v)).toArray ∧ RefsAt w' ((applyP y.1 l noteW).2, v)] (by kernel_rfl) [66, 67, 68, 69, 70, 71, 72, 73, 74, 75, 76, 77, 78, 79, 80, 81, 82, 83, 84, 85, 86, 4] (by kernel_rfl) (by kernel_rfl) (by kernel_rfl) (by kernel_rfl) rfl rfl (si12 ⟨(fun _ _ _ ⟨v, h1, h2⟩ k => ⟨v, h1, h2.keep k⟩), Stab.is _, (fun _ _ _ ⟨v, h1, h2⟩ k => ⟨v, h1, h2.keep k⟩), trivial⟩) ?hs3012 ?hQ3012
 case hs3012 =>
  refine ⟨?_, ?_, ?_, ?_, ?_, ?_, ?_, ?_, ?_, ?_, ?_, ?_, ?_, ?_, ?_, ?_, ?_, ?_, ?_, ?_, ?_, ?_, trivial⟩
  ·refine stepFC (stepN rfl fun σ w1 hC h => ?_)
   have e8 := (eqo (h 8 (by decide))).trans T8
   exact Yk.move e8 ⟨Ext.refl _, rfl⟩
  ·refine stepFC (stepN rfl fun σ w1 hC h => ?_)
   have e66 := eqo (h 66 (by decide))
   exact Yk.eqI (a := ((seqP noteW y.1 l i).1 : Nat)) (b := (0 : Nat)) e66 rfl (k_eql _ _ _ _) ⟨Ext.refl _, (congrArg Value.bool (decide_eq_true (hf0)))⟩
  ·refine stepFC (stepN rfl fun σ w1 hC h => ?_)
   have e67 := eqo (h 67 (by decide))
   exact Yk.move e67 ⟨Ext.refl _, rfl⟩
  ·refine stepFC (stepY 2 true 68 rfl rfl (fun _ _ h => h) fun σ w1 hC h => ?_)
   have e5 := (eqo (h 5 (by decide))).trans T5
   exact Yk.loadAll e5 (eb hC hb51) (wr39_ty53).choose_spec rfl (st_isz (refs_len ((applyP y.1 l noteW).2, v28)) wr39_isz53) ⟨Ext.refl _, rfl⟩
  ·refine stepFC (stepY 2 true 68 rfl rfl (fun _ _ h => h) fun σ w1 hC h => ?_)
   have e69 := eqo (h 69 (by decide))
   refine Yk.callA1 wr39_pl31 e69 (((show Calls _ _ _ _ (fun e w2 => e = .returned (.bool true) ∧ Ext w1 w2) from by have h_ := fright_any w1 ((applyP y.1 l noteW).2, v28) (RefsAt.mk (RG.ofOwn (ho32.keep hC)) (RG.ofOwn (ho34.keep hC)) (RG.ofOwn (ho36.keep hC))) hLR; rw [show rightF (((applyP y.1 l noteW).2, v28)).1 = true from hrR] at h_; exact h_)).mono ?_)
   rintro e w2 ⟨rfl, hx⟩
   exact ⟨_, rfl, hx, rfl⟩
  ·refine stepFC (stepN rfl fun σ w1 hC h => ?_)
   have e68 := eqo (h 68 (by decide))
   have e70 := eqo (h 70 (by decide))
   exact Yk.pickT e68 e70 ⟨Ext.refl _, rfl⟩
  ·refine stepFC (stepN rfl fun σ w1 hC h => ?_)
   have e71 := eqo (h 71 (by decide))
   exact Yk.move e71 ⟨Ext.refl _, rfl⟩
  ·refine stepFC (stepY 6 true 72 rfl rfl (fun _ _ h => h) fun σ w1 hC h => ?_)
   have e1 := (eqo (h 1 (by decide))).trans T1
   exact Yk.move e1 ⟨Ext.refl _, rfl⟩
  ·refine stepFC (stepY 6 true 72 rfl rfl (fun _ _ h => h) fun σ w1 hC h => ?_)
   have e73 := eqo (h 73 (by decide))
   exact Yk.lenRG wr39_ty22 (RG.of (hl.keep (hE.trans hC)) e73) ⟨Ext.refl _, rfl⟩
  ·refine stepFC (stepY 6 true 72 rfl rfl (fun _ _ h => h) fun σ w1 hC h => ?_)
   have e74 := eqo (h 74 (by decide))
   exact Yk.eqI (a := (l.length : Nat)) (b := (0 : Nat)) e74 rfl (k_eql _ _ _ _) ⟨Ext.refl _, (congrArg Value.bool (decide_eq_false (hl0)))⟩
  ·refine stepFC (stepY 6 true 72 rfl rfl (fun _ _ h => h) fun σ w1 hC h => ?_)
   have e75 := eqo (h 75 (by decide))
   exact Yk.move e75 ⟨Ext.refl _, rfl⟩
  ·refine stepFC (stepY 10 false 76 rfl rfl (fun _ _ h => h) fun σ w1 hC h => ?_)
   have e7 := (eqo (h 7 (by decide))).trans T7
   exact Yk.loadAll e7 (eb hC hb7) (wr39_ty53).choose_spec rfl (st_isz (refs_len z) wr39_isz53) ⟨Ext.refl _, rfl⟩
  ·refine stepFC (stepY 10 false 76 rfl rfl (fun _ _ h => h) fun σ w1 hC h => ?_)
   have e77 := eqo (h 77 (by decide))
   refine Yk.callA1 wr39_pl30 e77 ((of20_any _ z (hz.keep hC) (by rw [hzR]; exact hcR)).mono ?_)
   rintro e w2 ⟨v, rfl, hR, hx⟩
   exact ⟨_, rfl, hx, v, rfl, hR⟩
  ·refine stepFC (stepY 10 false 76 rfl rfl (fun _ _ h => h) fun σ w1 hC h => ?_)
   have e5 := (eqo (h 5 (by decide))).trans T5
   exact Yk.loadAll e5 (eb hC hb51) (wr39_ty53).choose_spec rfl (st_isz (refs_len ((applyP y.1 l noteW).2, v28)) wr39_isz53) ⟨Ext.refl _, rfl⟩
  ·refine stepFC (stepY 10 false 76 rfl rfl (fun _ _ h => h) fun σ w1 hC h => ?_)
   have e79 := eqo (h 79 (by decide))
   refine Yk.callA1 wr39_pl30 e79 ((of20_any _ ((applyP y.1 l noteW).2, v28) (RefsAt.mk (RG.ofOwn (ho32.keep hC)) (RG.ofOwn (ho34.keep hC)) (RG.ofOwn (ho36.keep hC))) hcR).mono ?_)
   rintro e w2 ⟨v, rfl, hR, hx⟩
   exact ⟨_, rfl, hx, v, rfl, hR⟩
  ·exact trivial
  ·exact trivial
  ·exact trivial
  ·exact trivial
  ·exact trivial
  ·exact trivial
  ·exact trivial
 intro ρ146 w147 hx148 he hf
 obtain ⟨-, -, -, -, -, -, k72, -, -, -, k76, -, k78, -, k80, -⟩ := hf
 obtain ⟨T0, T1, T2, T5, T6, T7, T8, T9, -⟩ := he.hold [(0, _), (1, _), (2, _), (5, _), (6, _), (7, _), (8, _), (9, _)] ⟨T0, T1, T2, T5, T6, T7, T8, T9, trivial⟩ rfl
 clear he
 have hE := hE.trans hx148
 have hb8 := eb hx148 hb8
 have ho32 := ho32.keep hx148
 have ho34 := ho34.keep hx148
 have ho36 := ho36.keep hx148
 have hA44 := hA44.trans hx148
 have hb51 := eb hx148 hb51
 have hA72 := hA72.trans hx148
 have hb7 := eb hx148 hb7
 have hz := hz.keep hx148
 have T72 : ρ146 72 = .bool (true) := k72
 have T76 : ρ146 76 = .bool (false) := k76
 have k78 : (fun x w' => ∃ v, x = .agg (refsC (z.1, v)).toArray ∧ RefsAt w' (z.1, v)) (ρ146 78) w147 := k78
 obtain ⟨v149, T78⟩ : ∃ v, ρ146 78 = v := ⟨_, rfl⟩
 rw [T78] at k78
 have hk150 := k78; clear k78
 obtain ⟨v151, hq_, hR152⟩ := hk150
 rw [hq_] at T78; clear hq_
 have k80 : (fun x w' => ∃ v, x = .agg (refsC ((applyP y.1 l noteW).2, v)).toArray ∧ RefsAt w' ((applyP y.1 l noteW).2, v)) (ρ146 80) w147 := k80
 obtain ⟨v153, T80⟩ : ∃ v, ρ146 80 = v := ⟨_, rfl⟩
 rw [T80] at k80
 have hk154 := k80; clear k80
 obtain ⟨v155, hq_, hR156⟩ := hk154
 rw [hq_] at T80; clear hq_
 clear k72 k76
 refine oY (d := 76) rfl rfl T76 (Yk.callA2 wr39_pl29 T78 T80 ((same20_true _ (z.1, v151) ((applyP y.1 l noteW).2, v155) hR152 hR156 hzR.symm (by show RefsLt z.1; rw [hzR]; exact hLR)).mono ?_))
 rintro e w158 ⟨rfl, hx157⟩
 refine ⟨_, rfl, ?_⟩
 have hE := hE.trans hx157
 have hb8 := eb hx157 hb8
 have ho32 := ho32.keep hx157
 have ho34 := ho34.keep hx157
 have ho36 := ho36.keep hx157
 have hA44 := hA44.trans hx157
 have hb51 := eb hx157 hb51
 have hA72 := hA72.trans hx157
 have hb7 := eb hx157 hb7
 have hz := hz.keep hx157
 have hR152 := hR152.keep hx157
 have hR156 := hR156.keep hx157
 refine oY (d := 72) rfl rfl T72 (Yk.pickF T76 (vr (.bool (true)) rfl) (oS rfl (Yk.pickT T72 (vr (.bool (true)) rfl) (oM rfl (oY (d := 84) rfl rfl (vr (.bool (true)) rfl) (Yk.callA0 wr39_pl35  ((awake20 _).mono ?_)))))))
 rintro e w160 ⟨rfl, hx159⟩
 refine ⟨_, rfl, ?_⟩
 have hE := hE.trans hx159
 have hb8 := eb hx159 hb8
 have ho32 := ho32.keep hx159
 have ho34 := ho34.keep hx159
 have ho36 := ho36.keep hx159
 have hA44 := hA44.trans hx159
 have hb51 := eb hx159 hb51
 have hA72 := hA72.trans hx159
 have hb7 := eb hx159 hb7
 have hz := hz.keep hx159
 have hR152 := hR152.keep hx159
 have hR156 := hR156.keep hx159
 refine oS rfl (Yk.pickT (vr (.bool (true)) rfl) (vr (.bool (true)) rfl) (oA rfl (oZ (tN (hK145 _ _ (wpF_ret (postF_ret (fn := Tryd.f8) _ rfl [.bool (true)] (.bool (true)) rfl ⟨rfl, trivial⟩ ?_)))))))
 exact ⟨rfl, hE⟩
end Go.Proofs.YtmonlobfofkbdaaDoor
