/- Part 3 of what stands behind these statements: laws and walks of the functions that are reached. Conditions: those that each theorem names. -/
import Derived.Test.YtmonlobfofkbdaaDoorM2
set_option linter.unusedVariables false
set_option linter.unusedSimpArgs false
namespace Go.Proofs.YtmonlobfofkbdaaDoor
open Go.RowKit
set_option maxRecDepth 100000
theorem found_lt {l : List Nmd} {s : Bs} {p : Nat} (h : foundN l s p = true) : p < l.length := by
 unfold foundN at h
 simp only [Bool.and_eq_true, decide_eq_true_eq] at h
 exact h.1
theorem turnT {l : List Nmd} {p : Nat} {y : Upd} (hf : foundN l y.name p = true) : turnP l p y = if (l.getD p dNmd).id.1 ≠ y.old.1 then (15, []) else if zeroB y.new = true then (0, l.eraseIdx p) else (0, l.set p ⟨(l.getD p dNmd).name, y.new⟩) := by unfold turnP; rw [hf]; rfl
theorem turnF {l : List Nmd} {p : Nat} {y : Upd} (hf : foundN l y.name p = false) : turnP l p y = if List.replicate 32 0 ≠ y.old.1 then (15, []) else if zeroB y.new = true then (0, l) else if 64 ≤ l.length then (3, []) else (0, l.take p ++ ⟨y.name, y.new⟩ :: l.drop p) := by unfold turnP; rw [hf]; rfl
theorem wr33_fo67_1 : FieldOff Tryd.prog 67 1 1 := fun b o w => by simp [go_sem]
theorem wr33_ty9 : Tryd.prog.underlying 9 = some (.string) := by kernel_rfl
theorem wr33_pl88 : Plain Tryd.prog 88 := fun _ _ => by kernel_rfl
theorem wr33_al25 {d : Option Tmp} {ty : TypeId} {pos : String} {af : Array Edge} {gd : Option (Nat × Bool)} (σ : Operand → Value) (w : World) : (execOp σ ⟨d, .alloc 25, ty, pos, af, gd⟩).run Tryd.prog w = .ok (.value (PQ w.heap.size 0)) (w.alloc (.cells (Lib.byteCells (List.replicate 32 0)).toArray 25)) := by kernel_rfl
theorem wr33_ty51 : Tryd.prog.underlying 51 = some (.slice 70) := by kernel_rfl
theorem wr33_szg70 : ∀ w' : World, (sizeOf 70).run Tryd.prog w' = .ok 33 w' := fun _ => by kernel_rfl
theorem wr33_fo70_1 : FieldOff Tryd.prog 70 1 1 := fun b o w => by simp [go_sem]
theorem wr33_ty25 : Tryd.prog.underlying 25 = some (.array 32 5) := by kernel_rfl
theorem wr33_isz25 : (Tryd.prog.info? 25).map (·.size) = some 32 := by kernel_rfl
theorem wr33_fo67_2 : FieldOff Tryd.prog 67 2 2 := fun b o w => by simp [go_sem]
theorem wr33_eg25 : Tryd.prog.eqGuardType Tryd.prog.depth 25 = false := by kernel_rfl
theorem wr33_ty5 : Tryd.prog.underlying 5 = some (.int .u8) := by kernel_rfl
theorem wr33_sz5 : ∀ w' : World, (sizeOf 5).run Tryd.prog w' = .ok 1 w' := fun _ => by kernel_rfl
theorem wr33_pl74 : Plain Tryd.prog 74 := fun _ _ => by kernel_rfl
theorem wr33_fo67_3 : FieldOff Tryd.prog 67 3 34 := fun b o w => by simp [go_sem]
theorem wr33_pl83 : Plain Tryd.prog 83 := fun _ _ => by kernel_rfl
theorem wr33_pl163 : Plain Tryd.prog 163 := fun _ _ => by kernel_rfl
theorem wr33_bs70_0_1h (z0 : ByteArray) (c1_0 c1_1 c1_2 c1_3 c1_4 c1_5 c1_6 c1_7 c1_8 c1_9 c1_10 c1_11 c1_12 c1_13 c1_14 c1_15 c1_16 c1_17 c1_18 c1_19 c1_20 c1_21 c1_22 c1_23 c1_24 c1_25 c1_26 c1_27 c1_28 c1_29 c1_30 c1_31 : Value) (w : World) : (Instr.build 70 #[(0, .string z0), (1, .agg #[c1_0, c1_1, c1_2, c1_3, c1_4, c1_5, c1_6, c1_7, c1_8, c1_9, c1_10, c1_11, c1_12, c1_13, c1_14, c1_15, c1_16, c1_17, c1_18, c1_19, c1_20, c1_21, c1_22, c1_23, c1_24, c1_25, c1_26, c1_27, c1_28, c1_29, c1_30, c1_31])]).run Tryd.prog w = .ok (.agg #[.string z0, c1_0, c1_1, c1_2, c1_3, c1_4, c1_5, c1_6, c1_7, c1_8, c1_9, c1_10, c1_11, c1_12, c1_13, c1_14, c1_15, c1_16, c1_17, c1_18, c1_19, c1_20, c1_21, c1_22, c1_23, c1_24, c1_25, c1_26, c1_27, c1_28, c1_29, c1_30, c1_31]) w := by kernel_rfl
theorem wr33_bs70_0_1 (z0 : List UInt8) (z1 : Id32) (w : World) : (Instr.build 70 #[(0, St z0), (1, AB z1.1)]).run Tryd.prog w = .ok (.agg (St (z0) :: (Lib.byteCells z1.1)).toArray) w := by
 obtain ⟨z1, k1⟩ := z1
 obtain ⟨a1_0, a1_1, a1_2, a1_3, a1_4, a1_5, a1_6, a1_7, a1_8, a1_9, a1_10, a1_11, a1_12, a1_13, a1_14, a1_15, a1_16, a1_17, a1_18, a1_19, a1_20, a1_21, a1_22, a1_23, a1_24, a1_25, a1_26, a1_27, a1_28, a1_29, a1_30, a1_31, rfl⟩ := list32 k1
 exact wr33_bs70_0_1h _ _ _ _ _ _ _ _ _ _ _ _ _ _ _ _ _ _ _ _ _ _ _ _ _ _ _ _ _ _ _ _ _ w
theorem wr33_lh51 (c0 c1 c2 c3 c4 c5 c6 c7 c8 c9 c10 c11 c12 c13 c14 c15 c16 c17 c18 c19 c20 c21 c22 c23 c24 c25 c26 c27 c28 c29 c30 c31 c32 : Value) (w : World) : (Instr.buildSlice 51 1 #[(0, .agg #[c0, c1, c2, c3, c4, c5, c6, c7, c8, c9, c10, c11, c12, c13, c14, c15, c16, c17, c18, c19, c20, c21, c22, c23, c24, c25, c26, c27, c28, c29, c30, c31, c32])]).run Tryd.prog w = .ok (.slice (some ⟨w.heap.size, 0, none⟩) 1 1) (w.alloc (.cells #[c0, c1, c2, c3, c4, c5, c6, c7, c8, c9, c10, c11, c12, c13, c14, c15, c16, c17, c18, c19, c20, c21, c22, c23, c24, c25, c26, c27, c28, c29, c30, c31, c32] 70)) := by kernel_rfl
theorem wr33_lg51 : ∀ (cs : Array Value), cs.size = 33 → ∀ w : World, (Instr.buildSlice 51 1 #[(0, .agg cs)]).run Tryd.prog w = .ok (.slice (some ⟨w.heap.size, 0, none⟩) 1 1) (w.alloc (.cells cs 70))
 | ⟨c0 :: c1 :: c2 :: c3 :: c4 :: c5 :: c6 :: c7 :: c8 :: c9 :: c10 :: c11 :: c12 :: c13 :: c14 :: c15 :: c16 :: c17 :: c18 :: c19 :: c20 :: c21 :: c22 :: c23 :: c24 :: c25 :: c26 :: c27 :: c28 :: c29 :: c30 :: c31 :: c32 :: []⟩, _, w => wr33_lh51 c0 c1 c2 c3 c4 c5 c6 c7 c8 c9 c10 c11 c12 c13 c14 c15 c16 c17 c18 c19 c20 c21 c22 c23 c24 c25 c26 c27 c28 c29 c30 c31 c32 w
theorem wr33_pl164 : Plain Tryd.prog 164 := fun _ _ => by kernel_rfl
set_option maxHeartbeats 1600000
theorem turned_any (w : World) (v : Value) (l : List Nmd) (hr : RG 33 nmdC w v l) (hl : l.length ≤ 1000) (hs : sortN l) (y : Upd) :
  Calls Tryd.prog 149 #[v, .agg (updC y).toArray] w fun e w' => ∃ v', e = .returned (.tuple #[v', NI (turnQ l y).1]) ∧ OG w.heap.size 70 33 nmdC w' v' (turnQ l y).2 ∧ Ext w w' := by
 refine calls_of_wpF (args := [v, .agg (updC y).toArray]) Tryd.func149 rfl 68 rfl (Nat.le_of_ble_eq_true rfl) ?_
 intro ρ0 hb
 have T0 : ρ0 0 = (v : Value) := hb.get 0
 have T1 : ρ0 1 = (.agg (updC y).toArray : Value) := hb.get 1
 clear hb
 have hE := Ext.refl w
 refine sk fun K1 hK1 => (wt (oS rfl (Yk.box (cs := (updC y : List Value).toArray) T1 fun n2 w3 hn4 hb5 hx6 hs7 => ?_)))
 have hE := hE.trans hx6
 have hb8 := hb5; clear hb5
 have hl9 : n2 < w3.heap.size := by omega
 refine oA rfl (oA rfl (oZ (tN (hK1 _ _ (sk fun K10 hK10 => (wt (oM rfl (oS rfl (Yk.fieldAt wr33_fo67_1 (vr (PQ n2 0) rfl) (oS rfl (Yk.cell1 wr33_ty9 rfl (vr (PQ n2 1) rfl) (cellAt hb8 (show (updC y)[1]? = some (St (y.name) : Value) from upd_g1 y)) (oS rfl (Yk.callA2 wr33_pl88 T0 (vr (St (y.name)) rfl) ((place_any _ v l (hr.keep hE) hl hs y.name).mono ?_))))))))))))))
 rintro e w12 ⟨⟨p, rfl, hp⟩, hx11⟩
 refine ⟨_, rfl, ?_⟩
 have hE := hE.trans hx11
 have hb8 := eb hx11 hb8
 refine oM rfl (oS rfl (Yk.extract (vs := [NI p, .bool (foundN l y.name p)]) (vr (.tuple #[NI p, .bool (foundN l y.name p)]) rfl) (show _ = some (NI p : Value) from rfl) (oS rfl (Yk.extract (vs := [NI p, .bool (foundN l y.name p)]) (vr (.tuple #[NI p, .bool (foundN l y.name p)]) rfl) (show _ = some (.bool (foundN l y.name p) : Value) from rfl) (oA rfl (oA rfl (oZ ?_)))))))
 by_cases hf : foundN l y.name p = true
 ·have hlt : p < l.length := found_lt hf
  refine tN (hK10 _ _ (sk fun K13 hK13 => (wt (oS rfl (Yk.run (v := AB (List.replicate 32 0)) (by kernel_rfl) (oS rfl (Yk.alloc (cs := (Lib.byteCells (List.replicate 32 0)).toArray) wr33_al25 fun n14 w15 hn16 hb17 hx18 hs19 => ?_)))))))
  have hA20 := Ext.refl w12
  have hea21 := hE
  have hz22 := hE.size
  have hlt23 := lte (bl hb8) hn16
  have hE := hE.trans hx18
  have hb8 := eb hx18 hb8
  have hA20 := hA20.trans hx18
  have hb24 := hb17; clear hb17
  have hl25 : n14 < w15.heap.size := by omega
  refine oS rfl (Yk.storeAll (vr (PQ n14 0) rfl) (vr (AB (List.replicate 32 0)) rfl) hb24 (by exact idsize List.length_replicate List.length_replicate) (by exact sizeId_of List.length_replicate) (byteCells_one _) fun w26 hb27 hg28 hs29 => ?_)
  have hE := row_fresh hE hg28 (Nat.le_trans hz22 (by omega))
  have hb8 := kb hg28 hb8 (by omega)
  have hA20 := row_fresh hA20 hg28 (Nat.le_trans (Nat.le_refl _) (by omega))
  clear hb24
  have hb24 := hb27; clear hb27
  have hl30 := bl hb24
  refine oZ (tN (hK13 _ _ (sk fun K31 hK31 => (sk fun K32 hK32 => (wt (oM rfl (oZ (tN (hK32 _ _ (wpF_true (vr (.bool (true)) ((show _ = Value.bool (foundN l y.name p) from rfl).trans (congrArg Value.bool hf))) (wt (oM rfl (oM rfl ?_)))))))))))))
  have hl35 : (nmdC (l.getD (p) dNmd)).length = 33 := (RG.elem (hr.keep hE) dNmd (by omega))
  refine oS rfl (Yk.atRG wr33_ty51 wr33_szg70 (by decide) dNmd (RG.of (hr.keep hE) T0) (vr (NI p) rfl) (by omega) fun v33 hp34 => ?_)
  have hl38 : (Lib.byteCells (l.getD (p) dNmd).id.1).length = 32 := by rw [Lib.byteCells_length, (l.getD (p) dNmd).id.2]
  refine oS rfl (Yk.fieldPR (n := 32) wr33_fo70_1 (PR.of hp34 (vr v33 rfl)) fun v36 hp37 => ?_)
  have hp37 : PR (Lib.byteCells (l.getD (p) dNmd).id.1) v36 w26 := (nmd_f1 (l.getD (p) dNmd)) ▸ hp37
  refine oS rfl (Yk.loadPR (PR.of hp37 (vr v36 rfl)) wr33_ty25 rfl (by rw [hl38]; exact wr33_isz25) (oS rfl (Yk.storeAll (vr (PQ n14 0) rfl) (vr (AB ((l.getD (p) dNmd).id.1)) rfl) hb24 (by exact idsize (bytes_len32 (hl38)) List.length_replicate) (by exact sizeId_of (bytes_len32 (hl38))) (byteCells_one _) fun w39 hb40 hg41 hs42 => ?_)))
  have hE := row_fresh hE hg41 (Nat.le_trans hz22 (by omega))
  have hb8 := kb hg41 hb8 (by omega)
  have hA20 := row_fresh hA20 hg41 (Nat.le_trans (Nat.le_refl _) (by omega))
  clear hp34
  clear hp37
  clear hb24
  have hb24 := hb40; clear hb40
  have hl43 := bl hb24
  refine oZ (tN (hK31 _ _ (sk fun K44 hK44 => (sk fun K45 hK45 => (wt (oS rfl (Yk.loadAll (vr (PQ n14 0) rfl) hb24 wr33_ty25 rfl (by exact sizeId_of (bytes_len32 (hl38))) (oS rfl (Yk.fieldAt wr33_fo67_2 (vr (PQ n2 0) rfl) (oS rfl (Yk.loadPR (PR.blk hb8 (upd_m2 y) (upd_n2 y) (vr (PQ n2 2) rfl)) wr33_ty25 rfl (sizeId_of y.old.2) (oS rfl (Yk.neArr (l1 := ((l.getD (p) dNmd).id.1)) (l2 := y.old.1) wr33_ty25 wr33_ty5 wr33_sz5 wr33_eg25 (vr (AB ((l.getD (p) dNmd).id.1)) rfl) (vr (AB y.old.1) rfl) ((bytes_len32 (hl38))) (y.old.2) (oZ (tN (hK45 _ _ ?_))))))))))))))))
  refine wpF_cond (((l.getD (p) dNmd).id.1) ≠ y.old.1) (vr (.bool (decide (((l.getD (p) dNmd).id.1) ≠ y.old.1))) rfl) (fun hc1 => ?_) (fun hc1 => ?_)
  ·have hmv := hc1
   refine sk fun K46 hK46 => (wt (oA rfl (oA rfl (oZ (tN (hK46 _ _ (wpF_ret (thenF_ret (postF_ret (fn := Tryd.f149) _ rfl [(Value.slice none 0 0), NI 15] (.tuple #[(Value.slice none 0 0), NI 15]) rfl ⟨rfl, rfl, trivial⟩ ?_)))))))))
   have hT : turnP l p y = (15, []) := by rw [turnT hf, if_pos hmv]
   rw [show turnP l p y = turnQ l y by unfold turnQ; rw [← place_uniq hp]] at hT
   exact ⟨_, by rw [hT], by rw [hT]; exact (OG.nil _ _ _ _ _), hE⟩
  have hmv := hc1
  refine wpF_skip (tN (hK44 _ _ (sk fun K47 hK47 => (wt (oM rfl ?_)))))
  have hA51 := Ext.refl w39
  have hea52 := hE
  have hea53 := hA20
  have hz54 := hE.size
  have hz55 := hA20.size
  refine oS rfl (Yk.callA1 wr33_pl74 T0 ((cloneNmd_any _ v l (hr.keep hE) (by omega)).mono ?_))
  rintro e w56 ⟨v48, rfl, ho49, hx50⟩
  refine ⟨_, rfl, ?_⟩
  have hap57 : OB v48 n2 := own_older ho49.2 (bl hb8)
  have hap58 : OB v48 n14 := own_older ho49.2 (bl hb24)
  have hE := hE.trans hx50
  have hb8 := eb hx50 hb8
  have hA20 := hA20.trans hx50
  have hb24 := eb hx50 hb24
  have hA51 := hA51.trans hx50
  refine oA rfl (oZ (tN (hK47 _ _ (sk fun K59 hK59 => (wpF_block (sk fun K60 hK60 => (wt (oS rfl (Yk.fieldAt wr33_fo67_3 (vr (PQ n2 0) rfl) (oS rfl (Yk.loadPR (PR.blk hb8 (upd_m3 y) (upd_n3 y) (vr (PQ n2 34) rfl)) wr33_ty25 rfl (sizeId_of y.new.2) (oS rfl (Yk.callA1 wr33_pl83 (vr (AB y.new.1) rfl) ((fzero_any _ y.new).mono ?_))))))))))))))
  rintro e w62 ⟨rfl, hx61⟩
  refine ⟨_, rfl, ?_⟩
  have hE := hE.trans hx61
  have hb8 := eb hx61 hb8
  have hA20 := hA20.trans hx61
  have hb24 := eb hx61 hb24
  have hA51 := hA51.trans hx61
  have ho49 := ho49.keep hx61
  refine oM rfl (opsF_mayV (.bool (true)) rfl rfl (gT (vr (.bool (zeroB y.new)) rfl)) (fun hG63 => Yk.move (vr (.bool (true)) ((show _ = Value.bool (foundN l y.name p) from rfl).trans (congrArg Value.bool hf))) ⟨rfl, rfl⟩) (oS rfl (Yk.pickAndN (vr (.bool (zeroB y.new)) rfl) (fun hA => (mayT (vr (cond ((zeroB y.new)) (.bool (true)) undef) rfl) hA)) (vr (.bool (false)) rfl) fun bb64 hbb65 => (oA rfl (oL_ [(0, v), (1, .agg (updC y).toArray), (3, PQ n2 0), (4, (Value.slice none 0 0)), (5, NI 0), (6, NI p), (7, .bool (true)), (8, PQ n14 0), (9, v48), (18, .bool (true)), (39, .bool (bb64))] ⟨T0, T1, rfl, rfl, rfl, rfl, ((show _ = Value.bool (foundN l y.name p) from rfl).trans (congrArg Value.bool hf)), rfl, rfl, ((show _ = Value.bool (foundN l y.name p) from rfl).trans (congrArg Value.bool hf)), rfl, trivial⟩ fun ρ66 ⟨T0, T1, T3, T4, T5, T6, T7, T8, T9, T18, T39, _⟩ => (tN (hK60 _ _ ?_)))))))
  refine wpF_condB (bb64) T39 (fun hc2 => ?_) (fun hc2 => ?_)
  ·subst hbb65
   have hz : zeroB y.new = true := by simpa using hc2
   refine wt (oM rfl (oM rfl (oM rfl (oS rfl (Yk.bin (xv := NI p) (yv := NI 1) T6 rfl rfl (i64_add _ _ _ (by omega)) (oS rfl (Yk.callA3 wr33_pl163 T9 T6 (vr (NI ((p) + (1))) rfl) ((delete_og w39 _ v48 l p hA51 ho49 hlt).mono ?_))))))))
   rintro e w70 ⟨v67, rfl, ho68, hx69⟩
   refine ⟨_, rfl, ?_⟩
   have hE := hea52.trans hx69
   clear hb8
   have hA20 := hea53.trans hx69
   clear hb24
   have hA51 := hx69
   clear ho49
   refine oA rfl (oZ (bN (tN (hK59 _ _ (sk fun K71 hK71 => (wt (oM rfl (oA rfl (oA rfl (oZ (tN (hK71 _ _ (wpF_ret (postF_ret (fn := Tryd.f149) _ rfl [v67, NI 0] (.tuple #[v67, NI 0]) rfl ⟨rfl, rfl, trivial⟩ ?_))))))))))))))
   have hT : turnP l p y = (0, l.eraseIdx p) := by rw [turnT hf, if_neg hmv, if_pos hz]
   rw [show turnP l p y = turnQ l y by unfold turnQ; rw [← place_uniq hp]] at hT
   exact ⟨_, by rw [hT], by rw [hT]; exact (OG.low ho68 hz54), hE⟩
  subst hbb65
  have hz : zeroB y.new = false := by simpa using hc2
  refine sk fun K72 hK72 => (wt (oS rfl (Yk.fieldAt wr33_fo67_3 T3 (oS rfl (Yk.loadPR (PR.blk hb8 (upd_m3 y) (upd_n3 y) (vr (PQ n2 34) rfl)) wr33_ty25 rfl (sizeId_of y.new.2) (oS rfl (Yk.callA1 wr33_pl83 (vr (AB y.new.1) rfl) ((fzero_any _ y.new).mono ?_))))))))
  rintro e w74 ⟨rfl, hx73⟩
  refine ⟨_, rfl, ?_⟩
  have hE := hE.trans hx73
  have hb8 := eb hx73 hb8
  have hA20 := hA20.trans hx73
  have hb24 := eb hx73 hb24
  have hA51 := hA51.trans hx73
  have ho49 := ho49.keep hx73
  refine oA rfl (oL_ [(0, v), (1, .agg (updC y).toArray), (3, PQ n2 0), (4, (Value.slice none 0 0)), (5, NI 0), (6, NI p), (7, .bool (true)), (8, PQ n14 0), (9, v48), (18, .bool (true)), (51, .bool (zeroB y.new))] ⟨T0, T1, T3, T4, T5, T6, T7, T8, T9, T18, rfl, trivial⟩ fun ρ75 ⟨T0, T1, T3, T4, T5, T6, T7, T8, T9, T18, T51, _⟩ => (tN (hK72 _ _ (wpF_false (show _ = Value.bool false from (T51).trans (congrArg Value.bool (hz))) (sk fun K76 hK76 => (wt (oM rfl (oA rfl (oZ ?_)))))))))
  obtain ⟨g, hg⟩ := OG.block ho49 hlt
  refine tN (hK76 _ _ (wpF_true T7 (wt (oM rfl (oM rfl (oS rfl (Yk.fieldAt wr33_fo67_3 T3 (oS rfl (Yk.loadPR (PR.blk hb8 (upd_m3 y) (upd_n3 y) (vr (PQ n2 34) rfl)) wr33_ty25 rfl (sizeId_of y.new.2) (oS rfl (Yk.atOwnK (k := 33) (i := p) wr33_ty51 wr33_szg70 T9 ho49.2 hg T6 (hlt) (oS rfl (Yk.fieldAt wr33_fo70_1 (vr (.pointer (some ⟨g, p * 33, none⟩)) rfl) (oS rfl (Yk.storeNmdId (p := p) (i := y.new) (vr (.pointer (some ⟨g, p * 33 + 1, none⟩)) rfl) (vr (AB y.new.1) rfl) ho49 hg hlt wr33_isz25 fun w77 ho78 hg79 => ?_)))))))))))))))
  have hE := ext_grew hE hg79 ho49.2 hz54
  have hb8 := blk_grew hb8 hg79 hap57
  have hA20 := ext_grew hA20 hg79 ho49.2 hz55
  have hb24 := blk_grew hb24 hg79 hap58
  have hA51 := ext_grew hA51 hg79 ho49.2 (Nat.le_refl _)
  clear ho49
  refine oZ (bN (tN (hK59 _ _ (sk fun K80 hK80 => (wt (oM rfl (oA rfl (oA rfl (oZ (tN (hK80 _ _ (wpF_ret (postF_ret (fn := Tryd.f149) _ rfl [v48, NI 0] (.tuple #[v48, NI 0]) rfl ⟨T9, rfl, trivial⟩ ?_)))))))))))))
  have hT : turnP l p y = (0, l.set p ⟨(l.getD p dNmd).name, y.new⟩) := by rw [turnT hf, if_neg hmv, if_neg (by rw [hz]; decide)]
  rw [show turnP l p y = turnQ l y by unfold turnQ; rw [← place_uniq hp]] at hT
  exact ⟨_, by rw [hT], by rw [hT]; exact (OG.low ho78 hz54), hE⟩
 replace hf : foundN l y.name p = false := by simpa using hf
 refine tN (hK10 _ _ (sk fun K81 hK81 => (wt (oS rfl (Yk.run (v := AB (List.replicate 32 0)) (by kernel_rfl) (oS rfl (Yk.alloc (cs := (Lib.byteCells (List.replicate 32 0)).toArray) wr33_al25 fun n82 w83 hn84 hb85 hx86 hs87 => ?_)))))))
 have hA88 := Ext.refl w12
 have hea89 := hE
 have hz90 := hE.size
 have hlt91 := lte (bl hb8) hn84
 have hE := hE.trans hx86
 have hb8 := eb hx86 hb8
 have hA88 := hA88.trans hx86
 have hb92 := hb85; clear hb85
 have hl93 : n82 < w83.heap.size := by omega
 refine oS rfl (Yk.storeAll (vr (PQ n82 0) rfl) (vr (AB (List.replicate 32 0)) rfl) hb92 (by exact idsize List.length_replicate List.length_replicate) (by exact sizeId_of List.length_replicate) (byteCells_one _) fun w94 hb95 hg96 hs97 => ?_)
 have hE := row_fresh hE hg96 (Nat.le_trans hz90 (by omega))
 have hb8 := kb hg96 hb8 (by omega)
 have hA88 := row_fresh hA88 hg96 (Nat.le_trans (Nat.le_refl _) (by omega))
 clear hb92
 have hb92 := hb95; clear hb95
 have hl98 := bl hb92
 refine oZ (tN (hK81 _ _ (sk fun K99 hK99 => (sk fun K100 hK100 => (wt (oM rfl (oZ (tN (hK100 _ _ (wpF_false (vr (.bool (false)) ((show _ = Value.bool (foundN l y.name p) from rfl).trans (congrArg Value.bool hf))) (wpF_skip (tN (hK99 _ _ (sk fun K101 hK101 => (sk fun K102 hK102 => (wt (oS rfl (Yk.loadAll (vr (PQ n82 0) rfl) hb92 wr33_ty25 rfl (by exact sizeId_of List.length_replicate) (oS rfl (Yk.fieldAt wr33_fo67_2 (vr (PQ n2 0) rfl) ?_))))))))))))))))))))
 refine oS rfl (Yk.loadPR (PR.blk hb8 (upd_m2 y) (upd_n2 y) (vr (PQ n2 2) rfl)) wr33_ty25 rfl (sizeId_of y.old.2) (oS rfl (Yk.neArr (l1 := (List.replicate 32 0)) (l2 := y.old.1) wr33_ty25 wr33_ty5 wr33_sz5 wr33_eg25 (vr (AB (List.replicate 32 0)) rfl) (vr (AB y.old.1) rfl) (List.length_replicate) (y.old.2) (oZ (tN (hK102 _ _ ?_))))))
 refine wpF_cond ((List.replicate 32 0) ≠ y.old.1) (vr (.bool (decide ((List.replicate 32 0) ≠ y.old.1))) rfl) (fun hc1 => ?_) (fun hc1 => ?_)
 ·have hmv := hc1
  refine sk fun K103 hK103 => (wt (oA rfl (oA rfl (oZ (tN (hK103 _ _ (wpF_ret (thenF_ret (postF_ret (fn := Tryd.f149) _ rfl [(Value.slice none 0 0), NI 15] (.tuple #[(Value.slice none 0 0), NI 15]) rfl ⟨rfl, rfl, trivial⟩ ?_)))))))))
  have hT : turnP l p y = (15, []) := by rw [turnF hf, if_pos hmv]
  rw [show turnP l p y = turnQ l y by unfold turnQ; rw [← place_uniq hp]] at hT
  exact ⟨_, by rw [hT], by rw [hT]; exact (OG.nil _ _ _ _ _), hE⟩
 have hmv := hc1
 refine wpF_skip (tN (hK101 _ _ (sk fun K104 hK104 => (wt (oM rfl ?_)))))
 have hA108 := Ext.refl w94
 have hea109 := hE
 have hea110 := hA88
 have hz111 := hE.size
 have hz112 := hA88.size
 refine oS rfl (Yk.callA1 wr33_pl74 T0 ((cloneNmd_any _ v l (hr.keep hE) (by omega)).mono ?_))
 rintro e w113 ⟨v105, rfl, ho106, hx107⟩
 refine ⟨_, rfl, ?_⟩
 have hap114 : OB v105 n2 := own_older ho106.2 (bl hb8)
 have hap115 : OB v105 n82 := own_older ho106.2 (bl hb92)
 have hE := hE.trans hx107
 have hb8 := eb hx107 hb8
 have hA88 := hA88.trans hx107
 have hb92 := eb hx107 hb92
 have hA108 := hA108.trans hx107
 refine oA rfl (oZ (tN (hK104 _ _ (sk fun K116 hK116 => (wpF_block (sk fun K117 hK117 => (wt (oS rfl (Yk.fieldAt wr33_fo67_3 (vr (PQ n2 0) rfl) (oS rfl (Yk.loadPR (PR.blk hb8 (upd_m3 y) (upd_n3 y) (vr (PQ n2 34) rfl)) wr33_ty25 rfl (sizeId_of y.new.2) (oS rfl (Yk.callA1 wr33_pl83 (vr (AB y.new.1) rfl) ((fzero_any _ y.new).mono ?_))))))))))))))
 rintro e w119 ⟨rfl, hx118⟩
 refine ⟨_, rfl, ?_⟩
 have hE := hE.trans hx118
 have hb8 := eb hx118 hb8
 have hA88 := hA88.trans hx118
 have hb92 := eb hx118 hb92
 have hA108 := hA108.trans hx118
 have ho106 := ho106.keep hx118
 refine oM rfl (opsF_mayV (.bool (false)) rfl rfl (gT (vr (.bool (zeroB y.new)) rfl)) (fun hG120 => Yk.move (vr (.bool (false)) ((show _ = Value.bool (foundN l y.name p) from rfl).trans (congrArg Value.bool hf))) ⟨rfl, rfl⟩) (oS rfl (Yk.pickAndN (vr (.bool (zeroB y.new)) rfl) (fun hA => (mayT (vr (cond ((zeroB y.new)) (.bool (false)) undef) rfl) hA)) (vr (.bool (false)) rfl) fun bb121 hbb122 => (oA rfl (oL_ [(0, v), (1, .agg (updC y).toArray), (3, PQ n2 0), (4, (Value.slice none 0 0)), (5, NI 0), (6, NI p), (7, .bool (false)), (8, PQ n82 0), (9, v105), (18, .bool (false)), (39, .bool (bb121))] ⟨T0, T1, rfl, rfl, rfl, rfl, ((show _ = Value.bool (foundN l y.name p) from rfl).trans (congrArg Value.bool hf)), rfl, rfl, ((show _ = Value.bool (foundN l y.name p) from rfl).trans (congrArg Value.bool hf)), rfl, trivial⟩ fun ρ123 ⟨T0, T1, T3, T4, T5, T6, T7, T8, T9, T18, T39, _⟩ => (tN (hK117 _ _ ?_)))))))
 refine wpF_condB (bb121) T39 (fun hc2 => ?_) (fun hc2 => ?_)
 ·(subst hbb122; simp at hc2)
 subst hbb122
 refine sk fun K124 hK124 => (wt (oS rfl (Yk.fieldAt wr33_fo67_3 T3 (oS rfl (Yk.loadPR (PR.blk hb8 (upd_m3 y) (upd_n3 y) (vr (PQ n2 34) rfl)) wr33_ty25 rfl (sizeId_of y.new.2) (oS rfl (Yk.callA1 wr33_pl83 (vr (AB y.new.1) rfl) ((fzero_any _ y.new).mono ?_))))))))
 rintro e w126 ⟨rfl, hx125⟩
 refine ⟨_, rfl, ?_⟩
 have hE := hE.trans hx125
 have hb8 := eb hx125 hb8
 have hA88 := hA88.trans hx125
 have hb92 := eb hx125 hb92
 have hA108 := hA108.trans hx125
 have ho106 := ho106.keep hx125
 refine oA rfl (oL_ [(0, v), (1, .agg (updC y).toArray), (3, PQ n2 0), (4, (Value.slice none 0 0)), (5, NI 0), (6, NI p), (7, .bool (false)), (8, PQ n82 0), (9, v105), (18, .bool (false)), (51, .bool (zeroB y.new))] ⟨T0, T1, T3, T4, T5, T6, T7, T8, T9, T18, rfl, trivial⟩ fun ρ127 ⟨T0, T1, T3, T4, T5, T6, T7, T8, T9, T18, T51, _⟩ => (tN (hK124 _ _ ?_)))
 refine wpF_condB (zeroB y.new) T51 (fun hc3 => ?_) (fun hc3 => ?_)
 ·have hz := hc3
  refine wpF_skip (bN (tN (hK116 _ _ (sk fun K128 hK128 => (wt (oM rfl (oA rfl (oA rfl (oZ (tN (hK128 _ _ (wpF_ret (postF_ret (fn := Tryd.f149) _ rfl [v105, NI 0] (.tuple #[v105, NI 0]) rfl ⟨T9, rfl, trivial⟩ ?_)))))))))))))
  have hT : turnP l p y = (0, l) := by rw [turnF hf, if_neg hmv, if_pos hz]
  rw [show turnP l p y = turnQ l y by unfold turnQ; rw [← place_uniq hp]] at hT
  exact ⟨_, by rw [hT], by rw [hT]; exact (OG.low ho106 hz111), hE⟩
 have hz := hc3
 refine sk fun K129 hK129 => (wt (oM rfl (oA rfl (oZ (tN (hK129 _ _ (wpF_false T7 (sk fun K130 hK130 => (wt (oM rfl (oS rfl (Yk.lenRG wr33_ty51 (RG.of (hr.keep hE) T0) (oS rfl (Yk.eqI (a := (l.length : Nat)) (b := (64 : Nat)) rfl rfl (k_geq _ _ _ _) (oA rfl (oZ (tN (hK130 _ _ ?_))))))))))))))))))
 refine wpF_cond ((64) ≤ (l.length)) (vr (.bool (decide ((64) ≤ (l.length)))) rfl) (fun hc5 => ?_) (fun hc5 => ?_)
 ·have hfu : 64 ≤ l.length := by omega
  refine sk fun K131 hK131 => (wt (oA rfl (oA rfl (oZ (tN (hK131 _ _ (wpF_ret (inBlockF_ret (thenF_ret (postF_ret (fn := Tryd.f149) _ rfl [(Value.slice none 0 0), NI 3] (.tuple #[(Value.slice none 0 0), NI 3]) rfl ⟨rfl, rfl, trivial⟩ ?_))))))))))
  have hT : turnP l p y = (3, []) := by rw [turnF hf, if_neg hmv, if_neg (by rw [hz]; decide), if_pos hfu]
  rw [show turnP l p y = turnQ l y by unfold turnQ; rw [← place_uniq hp]] at hT
  exact ⟨_, by rw [hT], by rw [hT]; exact (OG.nil _ _ _ _ _), hE⟩
 have hfu : ¬ 64 ≤ l.length := by omega
 refine wt (oM rfl (oM rfl (oS rfl (Yk.fieldAt wr33_fo67_1 T3 (oS rfl (Yk.cell1 wr33_ty9 rfl (vr (PQ n2 1) rfl) (cellAt hb8 (show (updC y)[1]? = some (St (y.name) : Value) from upd_g1 y)) (oS rfl (Yk.fieldAt wr33_fo67_3 T3 (oS rfl (Yk.loadPR (PR.blk hb8 (upd_m3 y) (upd_n3 y) (vr (PQ n2 34) rfl)) wr33_ty25 rfl (sizeId_of y.new.2) (oS rfl (Yk.build2 (vr (St (y.name)) rfl) (vr (AB y.new.1) rfl) (fun w => wr33_bs70_0_1 y.name y.new w) (oS rfl (Yk.lit1B (enc := nmdC) (a := (⟨y.name, y.new⟩ : Nmd)) (vr (.agg (nmdC (⟨y.name, y.new⟩ : Nmd)).toArray) rfl) (nmd_len _) wr33_lg51 fun n132 w133 hn134 hb135 hx136 hs137 => ?_))))))))))))))
 have hap138 : OB v105 n132 := own_newer ho106.2 (by omega)
 have hE := hE.trans hx136
 have hb8 := eb hx136 hb8
 have hA88 := hA88.trans hx136
 have hb92 := eb hx136 hb92
 have hA108 := hA108.trans hx136
 have ho106 := ho106.keep hx136
 refine oS rfl (Yk.callA3 wr33_pl164 T9 T6 (vr (.slice (some ⟨n132, 0, none⟩) 1 1) rfl) ((insert_og w94 _ v105 _ l p n132 (⟨y.name, y.new⟩ : Nmd) _ hA108 ho106 hp.1 (by omega) rfl hb135 hap138).mono ?_))
 rintro e w142 ⟨v139, rfl, ho140, hx141⟩
 refine ⟨_, rfl, ?_⟩
 have hE := hea109.trans hx141
 clear hb8
 have hA88 := hea110.trans hx141
 clear hb92
 have hA108 := hx141
 clear hb135
 clear ho106
 refine oA rfl (oZ (bN (tN (hK116 _ _ (sk fun K143 hK143 => (wt (oM rfl (oA rfl (oA rfl (oZ (tN (hK143 _ _ (wpF_ret (postF_ret (fn := Tryd.f149) _ rfl [v139, NI 0] (.tuple #[v139, NI 0]) rfl ⟨rfl, rfl, trivial⟩ ?_))))))))))))))
 have hT : turnP l p y = (0, l.take p ++ ⟨y.name, y.new⟩ :: l.drop p) := by rw [turnF hf, if_neg hmv, if_neg (by rw [hz]; decide), if_neg hfu]
 rw [show turnP l p y = turnQ l y by unfold turnQ; rw [← place_uniq hp]] at hT
 exact ⟨_, by rw [hT], by rw [hT]; exact (OG.low ho140 hz111), hE⟩
open Go.RowKit
set_option maxRecDepth 100000
abbrev beginV : RefsV := (⟨[], [], [109, 97, 105, 110], zid, []⟩, ⟨.slice none 0 0, .slice none 0 0, .slice none 0 0⟩)
theorem ent_upd (e : Ent) : ((entC e).drop 0).take 66 = updC ⟨e.kind, e.name, e.old, e.new⟩ := by
 rw [List.drop_zero, show entC e = updC ⟨e.kind, e.name, e.old, e.new⟩ ++ [St e.note] by simp [entC, updC]]
 exact List.take_left' (upd_len _)
def heavyE (l : List Ent) (i : Nat) : Bool := decide (100 < (l.getD i dEntry).name.length) || decide (400 < (l.getD i dEntry).note.length)
open Classical in
noncomputable def lightR (r : Refs) : Bool := (!((decide (80 < r.branches.length) || decide (80 < r.tags.length)) || decide (80 < r.log.length))) && decide (∀ j, j < r.log.length → heavyE r.log j = false)
theorem lightR_many {r : Refs} (h : ((decide (80 < r.branches.length) || decide (80 < r.tags.length)) || decide (80 < r.log.length)) = true) : lightR r = false := by unfold lightR; rw [h]; rfl
theorem lightR_bad {r : Refs} {i : Nat} (hi : i < r.log.length) (h : heavyE r.log i = true) : lightR r = false := by
 classical
 unfold lightR
 rw [decide_eq_false (p := ∀ j, j < r.log.length → heavyE r.log j = false) (fun k => by have := k i hi; rw [h] at this; cases this), Bool.and_false]
theorem lightR_all {r : Refs} {i : Nat} (h0 : ((decide (80 < r.branches.length) || decide (80 < r.tags.length)) || decide (80 < r.log.length)) = false) (hi : r.log.length ≤ i) (h : ∀ j, j < i → heavyE r.log j = false) : lightR r = true := by
 classical
 unfold lightR
 rw [h0, decide_eq_true (p := ∀ j, j < r.log.length → heavyE r.log j = false) (fun j hj => h j (by omega))]; rfl
theorem wr31_fo49_0 : FieldOff Tryd.prog 49 0 0 := fun b o w => by simp [go_sem]
theorem wr31_ty46 : Tryd.prog.underlying 46 = some (.slice 69) := by kernel_rfl
theorem wr31_fo49_1 : FieldOff Tryd.prog 49 1 1 := fun b o w => by simp [go_sem]
theorem wr31_fo49_4 : FieldOff Tryd.prog 49 4 35 := fun b o w => by simp [go_sem]
theorem wr31_ty47 : Tryd.prog.underlying 47 = some (.slice 122) := by kernel_rfl
theorem wr31_szg122 : ∀ w' : World, (sizeOf 122).run Tryd.prog w' = .ok 67 w' := fun _ => by kernel_rfl
theorem wr31_fo122_0 : FieldOff Tryd.prog 122 0 0 := fun b o w => by simp [go_sem]
theorem wr31_fo67_1 : FieldOff Tryd.prog 67 1 1 := fun b o w => by simp [go_sem]
theorem wr31_ty9 : Tryd.prog.underlying 9 = some (.string) := by kernel_rfl
theorem wr31_fo122_1 : FieldOff Tryd.prog 122 1 66 := fun b o w => by simp [go_sem]
theorem wr31_al53 {d : Option Tmp} {ty : TypeId} {pos : String} {af : Array Edge} {gd : Option (Nat × Bool)} (σ : Operand → Value) (w : World) : (execOp σ ⟨d, .alloc 53, ty, pos, af, gd⟩).run Tryd.prog w = .ok (.value (PQ w.heap.size 0)) (w.alloc (.cells (refsC ((⟨[], [], [], zid, []⟩, ⟨.slice none 0 0, .slice none 0 0, .slice none 0 0⟩) : RefsV)).toArray 53)) := by kernel_rfl
theorem wr31_bs53_2h (z2 : ByteArray) (w : World) : (Instr.build 53 #[(2, .string z2)]).run Tryd.prog w = .ok (.agg #[.slice none 0 0, .slice none 0 0, .string z2, .int .u8 0, .int .u8 0, .int .u8 0, .int .u8 0, .int .u8 0, .int .u8 0, .int .u8 0, .int .u8 0, .int .u8 0, .int .u8 0, .int .u8 0, .int .u8 0, .int .u8 0, .int .u8 0, .int .u8 0, .int .u8 0, .int .u8 0, .int .u8 0, .int .u8 0, .int .u8 0, .int .u8 0, .int .u8 0, .int .u8 0, .int .u8 0, .int .u8 0, .int .u8 0, .int .u8 0, .int .u8 0, .int .u8 0, .int .u8 0, .int .u8 0, .int .u8 0, .slice none 0 0]) w := by kernel_rfl
theorem wr31_bs53_2 (z2 : List UInt8) (w : World) : (Instr.build 53 #[(2, St z2)]).run Tryd.prog w = .ok (.agg ((Value.slice none 0 0) :: ((Value.slice none 0 0) :: (St (z2) :: (Lib.byteCells zid.1 ++ ((Value.slice none 0 0) :: ([])))))).toArray) w := by
 exact wr31_bs53_2h _ w
theorem wr31_isz53 : (Tryd.prog.info? 53).map (·.size) = some 36 := by kernel_rfl
theorem wr31_ty53 : ∃ fs, Tryd.prog.underlying 53 = some (.struct fs) := struct_of (by kernel_rfl)
set_option maxHeartbeats 1600000
theorem light20_any (w : World) (y : RefsV) (hm : RefsAt w y) :
  Calls Tryd.prog 25 #[.agg (refsC y).toArray] w fun e w' => e = .returned (.bool (lightR y.1)) ∧ Ext w w' := by
 have hmt := hm.branches
 have hmg := hm.tags
 have hml := hm.log
 refine calls_of_wpF (args := [.agg (refsC y).toArray]) Tryd.func25 rfl 46 rfl (Nat.le_of_ble_eq_true rfl) ?_
 intro ρ0 hb
 have T0 : ρ0 0 = (.agg (refsC y).toArray : Value) := hb.get 0
 clear hb
 have hE := Ext.refl w
 refine sk fun K1 hK1 => (wt (oS rfl (Yk.box (cs := (refsC y : List Value).toArray) T0 fun n2 w3 hn4 hb5 hx6 hs7 => ?_)))
 have hE := hE.trans hx6
 have hb8 := hb5; clear hb5
 have hl9 : n2 < w3.heap.size := by omega
 refine oA rfl (oZ (tN (hK1 _ _ (sk fun K10 hK10 => (sk fun K11 hK11 => (wt (oS rfl (Yk.fieldAt wr31_fo49_0 (vr (PQ n2 0) rfl) (oS rfl (Yk.cell1 wr31_ty46 rfl (vr (PQ n2 0) rfl) (cellAt hb8 (show (refsC y)[0]? = some (y.2.branches : Value) from refs_g0 y)) (oS rfl (Yk.lenRG wr31_ty46 (RG.of (hmt.keep hE) (vr y.2.branches rfl)) (oS rfl (Yk.eqI (a := ((y.1.branches).length : Nat)) (b := (80 : Nat)) rfl rfl (k_gtr _ _ _ _) (oM rfl (opsF_mayV (PQ n2 1) rfl rfl (gF (vr (.bool (decide ((80) < ((y.1.branches).length)))) rfl)) (fun hG12 => Yk.fieldAt wr31_fo49_1 (vr (PQ n2 0) rfl) ⟨rfl, rfl⟩) (opsF_mayV (y.2.tags) rfl rfl (gF (vr (.bool (decide ((80) < ((y.1.branches).length)))) rfl)) (fun hG13 => Yk.cell1 wr31_ty46 rfl (mayT (vr (cond (!(decide ((80) < ((y.1.branches).length)))) (PQ n2 1) undef) rfl) hG13) (cellAt hb8 (show (refsC y)[1]? = some (y.2.tags : Value) from refs_g1 y)) ⟨rfl, rfl⟩) (opsF_mayV (NI ((y.1.tags).length)) rfl rfl (gF (vr (.bool (decide ((80) < ((y.1.branches).length)))) rfl)) (fun hG14 => Yk.lenRG wr31_ty46 (RG.of (hmg.keep hE) (mayT (vr (cond (!(decide ((80) < ((y.1.branches).length)))) (y.2.tags) undef) rfl) hG14)) ⟨rfl, rfl⟩) (opsF_mayV (.bool (decide ((80) < ((y.1.tags).length)))) rfl rfl (gF (vr (.bool (decide ((80) < ((y.1.branches).length)))) rfl)) (fun hG15 => Yk.eqI (a := (((y.1.tags).length : Nat) : Int)) (b := ((80 : Nat) : Int)) (mayT (vr (cond (!(decide ((80) < ((y.1.branches).length)))) (NI ((y.1.tags).length)) undef) rfl) hG15) (vr (NI 80) rfl) (k_gtr _ .i64 ((y.1.tags).length) (80)) ⟨rfl, rfl⟩) (oS rfl (Yk.pickOrN (vr (.bool (decide ((80) < ((y.1.branches).length)))) rfl) (vr (.bool (true)) rfl) (fun hA => (mayT (vr (cond (!(decide ((80) < ((y.1.branches).length)))) (.bool (decide ((80) < ((y.1.tags).length)))) undef) rfl) (not_i hA))) fun bb16 hbb17 => ?_)))))))))))))))))))))
 refine oM rfl (opsF_mayV (PQ n2 35) rfl rfl (gF (vr (.bool (bb16)) rfl)) (fun hG18 => Yk.fieldAt wr31_fo49_4 (vr (PQ n2 0) rfl) ⟨rfl, rfl⟩) (opsF_mayV (y.2.log) rfl rfl (gF (vr (.bool (bb16)) rfl)) (fun hG19 => Yk.cell1 wr31_ty47 rfl (mayT (vr (cond (!bb16) (PQ n2 35) undef) rfl) hG19) (cellAt hb8 (show (refsC y)[35]? = some (y.2.log : Value) from refs_g4 y)) ⟨rfl, rfl⟩) (opsF_mayV (NI ((y.1.log).length)) rfl rfl (gF (vr (.bool (bb16)) rfl)) (fun hG20 => Yk.lenRG wr31_ty47 (RG.of (hml.keep hE) (mayT (vr (cond (!bb16) (y.2.log) undef) rfl) hG20)) ⟨rfl, rfl⟩) (opsF_mayV (.bool (decide ((80) < ((y.1.log).length)))) rfl rfl (gF (vr (.bool (bb16)) rfl)) (fun hG21 => Yk.eqI (a := (((y.1.log).length : Nat) : Int)) (b := ((80 : Nat) : Int)) (mayT (vr (cond (!bb16) (NI ((y.1.log).length)) undef) rfl) hG21) (vr (NI 80) rfl) (k_gtr _ .i64 ((y.1.log).length) (80)) ⟨rfl, rfl⟩) (oS rfl (Yk.pickOrN (vr (.bool (bb16)) rfl) (vr (.bool (true)) rfl) (fun hA => (mayT (vr (cond (!bb16) (.bool (decide ((80) < ((y.1.log).length)))) undef) rfl) (not_i hA))) fun bb22 hbb23 => (oZ (tN (hK11 _ _ ?_)))))))))
 refine wpF_condB (bb22) (vr (.bool (bb22)) rfl) (fun hc0 => ?_) (fun hc0 => ?_)
 ·subst hbb17 hbb23
  have h0c : ((decide (80 < y.1.branches.length) || decide (80 < y.1.tags.length)) || decide (80 < y.1.log.length)) = true := hc0
  refine sk fun K24 hK24 => (wt (oA rfl (oZ (tN (hK24 _ _ (wpF_ret (thenF_ret (postF_ret (fn := Tryd.f25) _ rfl [.bool (false)] (.bool (false)) rfl ⟨rfl, trivial⟩ ?_))))))))
  exact ⟨by rw [lightR_many h0c], hE⟩
 subst hbb17 hbb23
 have h0c : ((decide (80 < y.1.branches.length) || decide (80 < y.1.tags.length)) || decide (80 < y.1.log.length)) = false := hc0
 have hc := few_of h0c
 refine wpF_skip (tN (hK10 _ _ (sk fun K25 hK25 => (sk fun K26 hK26 => (wt (oA rfl (oL_ [(0, .agg (refsC y).toArray), (1, PQ n2 0), (2, .bool (false)), (3, NI 0)] ⟨T0, rfl, rfl, rfl, trivial⟩ fun ρ27 ⟨T0, T1, T2, T3, _⟩ => (tN (hK26 _ _ (wpF_block (wpF_loop (fun (ρ : Slots) (wz : World) => ∃ i : Nat, ρ 0 = (.agg (refsC y).toArray : Value) ∧ ρ 1 = (PQ n2 0 : Value) ∧ ρ 3 = (NI i : Value) ∧ Ext w wz ∧ wz.heap[n2]? = some (.cells (refsC y).toArray 49 (0, 0)) ∧ (i ≤ y.1.log.length) ∧ (∀ j, j < i → heavyE y.1.log j = false) ∧ True) (fun ρ _ => y.1.log.length - (intOf (ρ 3)).toNat) ⟨0, T0, T1, T3, hE, hb8, Nat.zero_le _, fun j hj => absurd hj (Nat.not_lt_zero _), trivial⟩ ?_)))))))))))
 clear hE hb8
 rintro ρ28 w29 ⟨i, T0, T1, T3, hE, hb8, hi, hn, -⟩
 have q3 := T3
 refine sk fun K30 hK30 => (sk fun K31 hK31 => (wt (oM rfl (oS rfl (Yk.fieldAt wr31_fo49_4 T1 (oS rfl (Yk.cell1 wr31_ty47 rfl (vr (PQ n2 35) rfl) (cellAt hb8 (show (refsC y)[35]? = some (y.2.log : Value) from refs_g4 y)) (oS rfl (Yk.lenRG wr31_ty47 (RG.of (hml.keep hE) (vr y.2.log rfl)) (oS rfl (Yk.eqI (a := (i : Nat)) (b := ((y.1.log).length : Nat)) T3 rfl (k_lss _ _ _ _) (oZ (tN (hK31 _ _ ?_))))))))))))))
 refine wpF_cond ((i) < ((y.1.log).length)) (vr (.bool (decide ((i) < ((y.1.log).length)))) rfl) (fun hc1 => ?_) (fun hc1 => ?_)
 ·have hlt : i < y.1.log.length := hc1
  refine wpF_skip (tN (hK30 _ _ (sk fun K32 hK32 => (wpF_block (sk fun K33 hK33 => (wt (oS rfl (Yk.fieldAt wr31_fo49_4 T1 (oS rfl (Yk.cell1 wr31_ty47 rfl (vr (PQ n2 35) rfl) (cellAt hb8 (show (refsC y)[35]? = some (y.2.log : Value) from refs_g4 y)) (oM rfl ?_)))))))))))
  have hl36 : (entC ((y.1.log).getD (i) dEntry)).length = 67 := (RG.elem (hml.keep hE) dEntry (by omega))
  refine oS rfl (Yk.atRG wr31_ty47 wr31_szg122 (by decide) dEntry (RG.of (hml.keep hE) (vr y.2.log rfl)) T3 (by omega) fun v34 hp35 => (oS rfl (Yk.fieldPR (n := 66) wr31_fo122_0 (PR.of hp35 (vr v34 rfl)) fun v37 hp38 => ?_)))
  have hp38 : PR (updC (⟨((y.1.log).getD (i) dEntry).kind, ((y.1.log).getD (i) dEntry).name, ((y.1.log).getD (i) dEntry).old, ((y.1.log).getD (i) dEntry).new⟩ : Upd)) v37 w29 := (ent_upd ((y.1.log).getD (i) dEntry)) ▸ hp38
  refine oS rfl (Yk.fieldPR (n := 1) wr31_fo67_1 (PR.of hp38 (vr v37 rfl)) fun v39 hp40 => ?_)
  have hp40 : PCell (St (((⟨((y.1.log).getD (i) dEntry).kind, ((y.1.log).getD (i) dEntry).name, ((y.1.log).getD (i) dEntry).old, ((y.1.log).getD (i) dEntry).new⟩ : Upd)).name)) v39 w29 := PR.pcell ((upd_f1 (⟨((y.1.log).getD (i) dEntry).kind, ((y.1.log).getD (i) dEntry).name, ((y.1.log).getD (i) dEntry).old, ((y.1.log).getD (i) dEntry).new⟩ : Upd)) ▸ hp40)
  refine oS rfl (Yk.loadC wr31_ty9 rfl (PCell.of hp40 (vr v39 rfl)) (oS rfl (Yk.lenSt (l := ((⟨((y.1.log).getD (i) dEntry).kind, ((y.1.log).getD (i) dEntry).name, ((y.1.log).getD (i) dEntry).old, ((y.1.log).getD (i) dEntry).new⟩ : Upd)).name) wr31_ty9 (vr (St (((⟨((y.1.log).getD (i) dEntry).kind, ((y.1.log).getD (i) dEntry).name, ((y.1.log).getD (i) dEntry).old, ((y.1.log).getD (i) dEntry).new⟩ : Upd)).name)) rfl) (oS rfl (Yk.eqI (a := ((((⟨((y.1.log).getD (i) dEntry).kind, ((y.1.log).getD (i) dEntry).name, ((y.1.log).getD (i) dEntry).old, ((y.1.log).getD (i) dEntry).new⟩ : Upd)).name : List UInt8).length : Nat)) (b := (100 : Nat)) rfl rfl (k_gtr _ _ _ _) (oM rfl (opsF_mayV (PQ n2 35) rfl rfl (gF (vr (.bool (decide ((100) < ((((⟨((y.1.log).getD (i) dEntry).kind, ((y.1.log).getD (i) dEntry).name, ((y.1.log).getD (i) dEntry).old, ((y.1.log).getD (i) dEntry).new⟩ : Upd)).name : List UInt8).length)))) rfl)) (fun hG41 => Yk.fieldAt wr31_fo49_4 T1 ⟨rfl, rfl⟩) (opsF_mayV (y.2.log) rfl rfl (gF (vr (.bool (decide ((100) < ((((⟨((y.1.log).getD (i) dEntry).kind, ((y.1.log).getD (i) dEntry).name, ((y.1.log).getD (i) dEntry).old, ((y.1.log).getD (i) dEntry).new⟩ : Upd)).name : List UInt8).length)))) rfl)) (fun hG42 => Yk.cell1 wr31_ty47 rfl (mayT (vr (cond (!(decide ((100) < ((((⟨((y.1.log).getD (i) dEntry).kind, ((y.1.log).getD (i) dEntry).name, ((y.1.log).getD (i) dEntry).old, ((y.1.log).getD (i) dEntry).new⟩ : Upd)).name : List UInt8).length)))) (PQ n2 35) undef) rfl) hG42) (cellAt hb8 (show (refsC y)[35]? = some (y.2.log : Value) from refs_g4 y)) ⟨rfl, rfl⟩) (opsF_mayV (NI i) rfl rfl (gF (vr (.bool (decide ((100) < ((((⟨((y.1.log).getD (i) dEntry).kind, ((y.1.log).getD (i) dEntry).name, ((y.1.log).getD (i) dEntry).old, ((y.1.log).getD (i) dEntry).new⟩ : Upd)).name : List UInt8).length)))) rfl)) (fun hG43 => Yk.move T3 ⟨rfl, rfl⟩) ?_)))))))))
  have hl47 : (!(decide ((100) < ((((⟨((y.1.log).getD (i) dEntry).kind, ((y.1.log).getD (i) dEntry).name, ((y.1.log).getD (i) dEntry).old, ((y.1.log).getD (i) dEntry).new⟩ : Upd)).name : List UInt8).length)))) = true → (entC ((y.1.log).getD (i) dEntry)).length = 67 := fun hG44 => (RG.elem (hml.keep hE) dEntry (by simp only [gA, gB, gC, gD, gE] at hG44; omega))
  refine opsF_mayX (fun v45 => PR (entC ((y.1.log).getD (i) dEntry)) v45 w29) rfl rfl (gF (vr (.bool (decide ((100) < ((((⟨((y.1.log).getD (i) dEntry).kind, ((y.1.log).getD (i) dEntry).name, ((y.1.log).getD (i) dEntry).old, ((y.1.log).getD (i) dEntry).new⟩ : Upd)).name : List UInt8).length)))) rfl)) (fun hG44 => Yk.atRG wr31_ty47 wr31_szg122 (by decide) dEntry (RG.of (hml.keep hE) (mayT (vr (cond (!(decide ((100) < ((((⟨((y.1.log).getD (i) dEntry).kind, ((y.1.log).getD (i) dEntry).name, ((y.1.log).getD (i) dEntry).old, ((y.1.log).getD (i) dEntry).new⟩ : Upd)).name : List UInt8).length)))) (y.2.log) undef) rfl) hG44)) (mayT (vr (cond (!(decide ((100) < ((((⟨((y.1.log).getD (i) dEntry).kind, ((y.1.log).getD (i) dEntry).name, ((y.1.log).getD (i) dEntry).old, ((y.1.log).getD (i) dEntry).new⟩ : Upd)).name : List UInt8).length)))) (NI i) undef) rfl) hG44) (by simp only [gA, gB, gC, gD, gE] at hG44; omega) fun _ h => ⟨h, rfl⟩) fun v45 hp46 => ?_
  refine opsF_mayX (fun v49 => PCell (St (((y.1.log).getD (i) dEntry).note)) v49 w29) rfl rfl (gF (vr (.bool (decide ((100) < ((((⟨((y.1.log).getD (i) dEntry).kind, ((y.1.log).getD (i) dEntry).name, ((y.1.log).getD (i) dEntry).old, ((y.1.log).getD (i) dEntry).new⟩ : Upd)).name : List UInt8).length)))) rfl)) (fun hG48 => ?_) fun v49 hp50 => ?_
  ·refine Yk.fieldPR (n := 1) wr31_fo122_1 (PR.of (hp46 hG48) (vr v45 rfl)) fun v49 hp50 => ?_
   have hp50 : PCell (St (((y.1.log).getD (i) dEntry).note)) v49 w29 := PR.pcell ((ent_f4 ((y.1.log).getD (i) dEntry)) ▸ hp50)
   exact ⟨hp50, rfl⟩
  refine opsF_mayV (St (((y.1.log).getD (i) dEntry).note)) rfl rfl (gF (vr (.bool (decide ((100) < ((((⟨((y.1.log).getD (i) dEntry).kind, ((y.1.log).getD (i) dEntry).name, ((y.1.log).getD (i) dEntry).old, ((y.1.log).getD (i) dEntry).new⟩ : Upd)).name : List UInt8).length)))) rfl)) (fun hG51 => Yk.loadC wr31_ty9 rfl (PCell.of (hp50 hG51) (vr v49 rfl)) ⟨rfl, rfl⟩) (opsF_mayV (NI ((((y.1.log).getD (i) dEntry).note : List UInt8).length)) rfl rfl (gF (vr (.bool (decide ((100) < ((((⟨((y.1.log).getD (i) dEntry).kind, ((y.1.log).getD (i) dEntry).name, ((y.1.log).getD (i) dEntry).old, ((y.1.log).getD (i) dEntry).new⟩ : Upd)).name : List UInt8).length)))) rfl)) (fun hG52 => Yk.lenSt (l := ((y.1.log).getD (i) dEntry).note) wr31_ty9 (mayT (vr (cond (!(decide ((100) < ((((⟨((y.1.log).getD (i) dEntry).kind, ((y.1.log).getD (i) dEntry).name, ((y.1.log).getD (i) dEntry).old, ((y.1.log).getD (i) dEntry).new⟩ : Upd)).name : List UInt8).length)))) (St (((y.1.log).getD (i) dEntry).note)) undef) rfl) hG52) ⟨rfl, rfl⟩) (opsF_mayV (.bool (decide ((400) < ((((y.1.log).getD (i) dEntry).note : List UInt8).length)))) rfl rfl (gF (vr (.bool (decide ((100) < ((((⟨((y.1.log).getD (i) dEntry).kind, ((y.1.log).getD (i) dEntry).name, ((y.1.log).getD (i) dEntry).old, ((y.1.log).getD (i) dEntry).new⟩ : Upd)).name : List UInt8).length)))) rfl)) (fun hG53 => Yk.eqI (a := (((((y.1.log).getD (i) dEntry).note : List UInt8).length : Nat) : Int)) (b := ((400 : Nat) : Int)) (mayT (vr (cond (!(decide ((100) < ((((⟨((y.1.log).getD (i) dEntry).kind, ((y.1.log).getD (i) dEntry).name, ((y.1.log).getD (i) dEntry).old, ((y.1.log).getD (i) dEntry).new⟩ : Upd)).name : List UInt8).length)))) (NI ((((y.1.log).getD (i) dEntry).note : List UInt8).length)) undef) rfl) hG53) (vr (NI 400) rfl) (k_gtr _ .i64 ((((y.1.log).getD (i) dEntry).note : List UInt8).length) (400)) ⟨rfl, rfl⟩) (oS rfl (Yk.pickOrN (vr (.bool (decide ((100) < ((((⟨((y.1.log).getD (i) dEntry).kind, ((y.1.log).getD (i) dEntry).name, ((y.1.log).getD (i) dEntry).old, ((y.1.log).getD (i) dEntry).new⟩ : Upd)).name : List UInt8).length)))) rfl) (vr (.bool (true)) rfl) (fun hA => (mayT (vr (cond (!(decide ((100) < ((((⟨((y.1.log).getD (i) dEntry).kind, ((y.1.log).getD (i) dEntry).name, ((y.1.log).getD (i) dEntry).old, ((y.1.log).getD (i) dEntry).new⟩ : Upd)).name : List UInt8).length)))) (.bool (decide ((400) < ((((y.1.log).getD (i) dEntry).note : List UInt8).length)))) undef) rfl) (not_i hA))) fun bb54 hbb55 => (oZ ?_)))))
  clear hp35
  clear hp38
  clear hp40
  clear hp46
  clear hp50
  refine tN (hK33 _ _ ?_)
  refine wpF_condB (bb54) (vr (.bool (bb54)) rfl) (fun hc2 => ?_) (fun hc2 => ?_)
  ·subst hbb55
   have hbad : heavyE y.1.log i = true := hc2
   refine sk fun K56 hK56 => (wt (oA rfl (oZ (tN (hK56 _ _ (wpF_ret (inBlockF_ret (thenF_ret (thenF_ret (inBlockF_ret (thenF_ret (postF_ret (fn := Tryd.f25) _ rfl [.bool (false)] (.bool (false)) rfl ⟨rfl, trivial⟩ ?_))))))))))))
   exact ⟨by rw [lightR_bad hlt hbad], hE⟩
  subst hbb55
  have hbad : heavyE y.1.log i = false := hc2
  refine wpF_skip (bN (tN (hK32 _ _ (wt (oM rfl (oS rfl (Yk.bin (xv := NI i) (yv := NI 1) T3 rfl rfl (i64_add _ _ _ (by omega)) (oA rfl (oL_ [(0, .agg (refsC y).toArray), (1, PQ n2 0), (3, NI ((i) + (1)))] ⟨T0, T1, rfl, trivial⟩ fun ρ57 ⟨T0, T1, T3, _⟩ => (tN (And.intro ⟨i + 1, T0, T1, T3, hE, hb8, by omega, to_step hn hbad, trivial⟩ ?_)))))))))))
  show y.1.log.length - (intOf (ρ57 3)).toNat < y.1.log.length - (intOf (ρ28 3)).toNat
  rw [T3, q3]
  simp only [intOf, Int.toNat_natCast]; omega
 refine wpF_exit (thenF_exit (thenF_exit (inBlockF_hit (tN (hK25 _ _ (sk fun K58 hK58 => (wt (oA rfl (oZ (tN (hK58 _ _ (wpF_ret (postF_ret (fn := Tryd.f25) _ rfl [.bool (true)] (.bool (true)) rfl ⟨rfl, trivial⟩ ?_)))))))))))))
 exact ⟨by rw [lightR_all h0c (show y.1.log.length ≤ i by omega) hn], hE⟩

theorem begin_any (w : World) :
  Calls Tryd.prog 33 #[] w fun e w' => e = .returned (.agg (refsC beginV).toArray) ∧ Ext w w' := by
 refine calls_of_wpF (args := []) Tryd.func33 rfl 2 rfl (Nat.le_of_ble_eq_true rfl) ?_
 intro ρ0 hb
 clear hb
 have hE := Ext.refl w
 refine sk fun K1 hK1 => (wt (oS rfl (Yk.alloc (cs := (refsC ((⟨[], [], [], zid, []⟩, ⟨.slice none 0 0, .slice none 0 0, .slice none 0 0⟩) : RefsV)).toArray) wr31_al53 fun n2 w3 hn4 hb5 hx6 hs7 => ?_)))
 have hE := hE.trans hx6
 have hb8 := hb5; clear hb5
 have hl9 : n2 < w3.heap.size := by omega
 refine oZ (tN (hK1 _ _ (sk fun K10 hK10 => (wt (oS rfl (Yk.build1 (vr (St (([109, 97, 105, 110] : List UInt8))) rfl) (fun w => wr31_bs53_2 ([109, 97, 105, 110] : List UInt8) w) (oS rfl (Yk.storeAll (vr (PQ n2 0) rfl) (vr (.agg (refsC ((⟨[], [], ([109, 97, 105, 110] : List UInt8), zid, []⟩, ⟨(Value.slice none 0 0), (Value.slice none 0 0), (Value.slice none 0 0)⟩) : RefsV)).toArray) rfl) hb8 (by simp only [List.size_toArray, refs_len]) (st_isz (refs_len _) wr31_isz53) (refs_one (x := ((⟨[], [], ([109, 97, 105, 110] : List UInt8), zid, []⟩, ⟨(Value.slice none 0 0), (Value.slice none 0 0), (Value.slice none 0 0)⟩) : RefsV)) rfl rfl rfl) fun w11 hb12 hg13 hs14 => ?_))))))))
 have hE := row_fresh hE hg13 (Nat.le_trans (Nat.le_refl _) (by omega))
 clear hb8
 have hb8 : w11.heap[n2]? = some (.cells (refsC ((⟨[], [], ([109, 97, 105, 110] : List UInt8), zid, []⟩, ⟨(Value.slice none 0 0), (Value.slice none 0 0), (Value.slice none 0 0)⟩) : RefsV)).toArray 53 (0, 0)) := hb12; clear hb12
 have hl15 := bl hb8
 refine oZ (tN (hK10 _ _ (wpF_ret (postF_ret (fn := Tryd.f33) _ rfl [.agg (refsC ((⟨[], [], ([109, 97, 105, 110] : List UInt8), zid, []⟩, ⟨(Value.slice none 0 0), (Value.slice none 0 0), (Value.slice none 0 0)⟩) : RefsV)).toArray] (.agg (refsC ((⟨[], [], ([109, 97, 105, 110] : List UInt8), zid, []⟩, ⟨(Value.slice none 0 0), (Value.slice none 0 0), (Value.slice none 0 0)⟩) : RefsV)).toArray) rfl ⟨ResF.row rfl hb8 (wr31_ty53).choose_spec rfl (st_isz (refs_len _) wr31_isz53), trivial⟩ ?_))))
 exact ⟨rfl, hE⟩

open Go.RowKit
def hdlost (r : Refs) (y : Upd) : Bool := ((decide ((turnQ r.branches y).1 = 0) && zeroB y.new) && (!zeroB y.old)) && decide (r.head = y.name)
def branchP (r : Refs) (y : Upd) : Nat × Refs := if hdlost r y = true then (16, r) else if (turnQ r.branches y).1 = 0 then (0, ⟨(turnQ r.branches y).2, r.tags, r.head, r.at_, r.log⟩) else ((turnQ r.branches y).1, r)
def tagP (r : Refs) (y : Upd) : Nat × Refs := if (turnQ r.tags y).1 = 0 then (0, ⟨r.branches, (turnQ r.tags y).2, r.head, r.at_, r.log⟩) else ((turnQ r.tags y).1, r)
def headP (r : Refs) (y : Upd) : Nat × Refs := (0, ⟨r.branches, r.tags, y.name, y.new, r.log⟩)
def doP (r : Refs) (y : Upd) : Nat × Refs := if y.kind.toNat = 1 then branchP r y else if y.kind.toNat = 2 then tagP r y else headP r y
structure AppAt (w0 w : World) (g : Nat) (z : RefsV) : Prop where
  ext : Ext w0 w
  g0 : w0.heap.size ≤ g
  blk : w.heap[g]? = some (.cells (refsC z).toArray 53 (0, 0))
  br : OG w0.heap.size 70 33 nmdC w z.2.branches z.1.branches
  tg : OG w0.heap.size 70 33 nmdC w z.2.tags z.1.tags
  lg : OG w0.heap.size 122 67 entC w z.2.log z.1.log
  ab : z.2.branches.ownBlock ≠ some g
  at_ : z.2.tags.ownBlock ≠ some g
  al : z.2.log.ownBlock ≠ some g
  lb : ApartV z.2.log z.2.branches
  lt : ApartV z.2.log z.2.tags
theorem AppAt.keep {w0 w w' : World} {g : Nat} {z : RefsV} (h : AppAt w0 w g z) (k : Ext w w') : AppAt w0 w' g z := ⟨h.ext.trans k, h.g0, Ext.blk' k h.blk, h.br.keep k, h.tg.keep k, h.lg.keep k, h.ab, h.at_, h.al, h.lb, h.lt⟩
structure Sorted (r : Refs) : Prop where
  br : sortN r.branches
  tg : sortN r.tags
  bl : r.branches.length ≤ 64
  tl : r.tags.length ≤ 64
open Go.RowKit
set_option maxRecDepth 100000
def NewOG (t : TypeId) (w0 wb w : World) (v : Value) (l : List Nmd) : Prop := OG w0.heap.size t 33 nmdC w v l ∧ ∀ k, v.ownBlock = some k → wb.heap.size ≤ k
theorem NewOG.keep {t : TypeId} {w0 wb w w' : World} {v : Value} {l : List Nmd} (h : NewOG t w0 wb w v l) (k : Ext w w') : NewOG t w0 wb w' v l := ⟨h.1.keep k, h.2⟩
theorem NewOG.of {t : TypeId} {w0 wb w1 w : World} {v : Value} {l : List Nmd} (h : OG w1.heap.size t 33 nmdC w v l) (h0 : w0.heap.size ≤ wb.heap.size) (h1 : wb.heap.size ≤ w1.heap.size) : NewOG t w0 wb w v l := ⟨h.low (Nat.le_trans h0 h1), fun k hk => Nat.le_trans h1 (h.2.lt k hk).1⟩
theorem NewOG.apart {t : TypeId} {w0 wb w : World} {v : Value} {l : List Nmd} {g : Nat} (h : NewOG t w0 wb w v l) (hg : g < wb.heap.size) : v.ownBlock ≠ some g := fun e => by have := h.2 g e; omega
theorem NewOG.apartv {α : Type} {t t' : TypeId} {w0 wb w wa : World} {v u : Value} {l : List Nmd} {b k : Nat} {enc : α → List Value} {m : List α} (h : NewOG t w0 wb w v l) (hu : OG b t' k enc wa u m) (hle : wa.heap.size ≤ wb.heap.size) : ApartV u v := fun i h1 h2 => by
 have := (hu.2.lt i h1).2
 have := h.2 i h2
 omega
abbrev fnV (f : Nat) : Value := .func (.func f) #[] #[]
def doG : UInt8 → Option Nat := updM (updM (updM (fun _ => none) 1 (some 122)) 2 (some 123)) 3 (some 124)
theorem zeroFn : ∀ u : World, (zeroValue 128).run Tryd.prog u = .ok Value.nilFunc u := fun _ => by kernel_rfl
theorem wr34_fo53_0 : FieldOff Tryd.prog 53 0 0 := fun b o w => by simp [go_sem]
theorem wr34_ty51 : Tryd.prog.underlying 51 = some (.slice 70) := by kernel_rfl
theorem wr34_ty67 : ∃ fs, Tryd.prog.underlying 67 = some (.struct fs) := struct_of (by kernel_rfl)
theorem wr34_isz67 : (Tryd.prog.info? 67).map (·.size) = some 66 := by kernel_rfl
theorem wr34_pl149 : Plain Tryd.prog 149 := fun _ _ => by kernel_rfl
theorem wr34_fo67_3 : FieldOff Tryd.prog 67 3 34 := fun b o w => by simp [go_sem]
theorem wr34_ty25 : Tryd.prog.underlying 25 = some (.array 32 5) := by kernel_rfl
theorem wr34_pl83 : Plain Tryd.prog 83 := fun _ _ => by kernel_rfl
theorem wr34_fo67_2 : FieldOff Tryd.prog 67 2 2 := fun b o w => by simp [go_sem]
theorem wr34_fo53_2 : FieldOff Tryd.prog 53 2 2 := fun b o w => by simp [go_sem]
theorem wr34_ty9 : Tryd.prog.underlying 9 = some (.string) := by kernel_rfl
theorem wr34_fo67_1 : FieldOff Tryd.prog 67 1 1 := fun b o w => by simp [go_sem]
theorem wr34_isz51 : (Tryd.prog.info? 51).map (·.size) = some 1 := by kernel_rfl
theorem wr34_fo53_1 : FieldOff Tryd.prog 53 1 1 := fun b o w => by simp [go_sem]
theorem wr34_isz9 : (Tryd.prog.info? 9).map (·.size) = some 1 := by kernel_rfl
theorem wr34_fo53_3 : FieldOff Tryd.prog 53 3 3 := fun b o w => by simp [go_sem]
theorem wr34_isz25 : (Tryd.prog.info? 25).map (·.size) = some 32 := by kernel_rfl
theorem wr34_ty125 : Tryd.prog.underlying 125 = some (.map 5 128) := by kernel_rfl
set_option maxHeartbeats 1600000
theorem branch_any (w0 w : World) (g : Nat) (z : RefsV) (hA : AppAt w0 w g z) (hS : Sorted z.1) (y : Upd) :
  Calls Tryd.prog 122 #[PQ g 0, .agg (updC y).toArray] w fun e w' => ∃ z', (e = .returned (NI (branchP z.1 y).1) ∧ z'.1 = (branchP z.1 y).2) ∧ AppAt w0 w' g z' ∧ z'.2.log = z.2.log ∧ w.grownBy w' (some g) := by
 have hgr := World.grownBy.refl w (some g)
 have hE0 := hA.ext
 have hg0 := hA.g0
 have hblk := hA.blk
 have hbr := hA.br
 have htg := hA.tg
 have hlg := hA.lg
 have hab := hA.ab
 have hat := hA.at_
 have hal := hA.al
 have hlb := hA.lb
 have hlt := hA.lt
 have hlg0 := hA.lg
 have hgl := (bl hblk)
 refine calls_of_wpF (args := [PQ g 0, .agg (updC y).toArray]) Tryd.func122 rfl 45 rfl (Nat.le_of_ble_eq_true rfl) ?_
 intro ρ0 hb
 have T0 : ρ0 0 = (PQ g 0 : Value) := hb.get 0
 have T1 : ρ0 1 = (.agg (updC y).toArray : Value) := hb.get 1
 clear hb
 have hE := Ext.refl w
 refine sk fun K1 hK1 => (wt (oS rfl (Yk.box (cs := (updC y : List Value).toArray) T1 fun n2 w3 hn4 hb5 hx6 hs7 => ?_)))
 have hA8 := Ext.refl w
 have hea9 := hE
 have hea10 := hE0
 have hz11 := hE.size
 have hz12 := hE0.size
 have hlt13 := lte (bl hblk) hn4
 have hap14 : OB z.2.branches n2 := own_newer hbr.2 (by omega)
 have hap15 : OB z.2.tags n2 := own_newer htg.2 (by omega)
 have hap16 : OB z.2.log n2 := own_newer hlg.2 (by omega)
 have hblk := eb hx6 hblk
 have hbr := hbr.keep hx6
 have htg := htg.keep hx6
 have hlg := hlg.keep hx6
 have hgr : w.grownBy w3 (some g) := grownBy_trans hgr hx6.grown (fun _ e => by cases e)
 have hE := hE.trans hx6
 have hE0 := hE0.trans hx6
 have hA8 := hA8.trans hx6
 have hb17 := hb5; clear hb5
 have hl18 : n2 < w3.heap.size := by omega
 refine oA rfl (oZ (tN (hK1 _ _ (sk fun K19 hK19 => ?_))))
 refine wpF_draw [Is (PQ g 0), Is (PQ g 0), Is (PQ g 0), Is (z.2.branches), Is (.agg (updC y).toArray), fun x w' => ∃ v, x = .tuple #[v, NI (turnQ z.1.branches y).1] ∧ NewOG 70 w0 w3 w' v ((turnQ z.1.branches y).2), fun x w' => ∃ v, x = .tuple #[v, NI (turnQ z.1.branches y).1] ∧ NewOG 70 w0 w3 w' v ((turnQ z.1.branches y).2), fun x w' => NewOG 70 w0 w3 w' x ((turnQ z.1.branches y).2), Is (NI ((turnQ z.1.branches y).1)), fun x w' => NewOG 70 w0 w3 w' x ((turnQ z.1.branches y).2), Is (NI ((turnQ z.1.branches y).1))] (by kernel_rfl) [8, 9, 10, 11, 12, 13, 7, 14, 15, 5, 6] (by kernel_rfl) (by kernel_rfl) (si5 ⟨(fun _ _ _ ⟨v, h1, h2⟩ k => ⟨v, h1, h2.keep k⟩), (fun _ _ _ ⟨v, h1, h2⟩ k => ⟨v, h1, h2.keep k⟩), (fun _ _ _ h k => NewOG.keep h k), Stab.is _, (fun _ _ _ h k => NewOG.keep h k), Stab.is _, trivial⟩) ?hs1001 ?hQ1001
 case hs1001 =>
  refine ⟨?_, ?_, ?_, ?_, ?_, ?_, ?_, ?_, ?_, ?_, ?_, trivial⟩
  ·refine stepN rfl fun σ w1 hC h => ?_
   have e0 := (eqo (h 0 (by decide))).trans T0
   exact Yk.move e0 ⟨Ext.refl _, rfl⟩
  ·refine stepN rfl fun σ w1 hC h => ?_
   have e8 := eqo (h 8 (by decide))
   exact Yk.nilCheck e8 ⟨Ext.refl _, rfl⟩
  ·refine stepN rfl fun σ w1 hC h => ?_
   have e9 := eqo (h 9 (by decide))
   exact Yk.fieldAt wr34_fo53_0 e9 ⟨Ext.refl _, rfl⟩
  ·refine stepN rfl fun σ w1 hC h => ?_
   have e10 := eqo (h 10 (by decide))
   exact Yk.cell1 wr34_ty51 rfl e10 (cellAt (eb hC hblk) (show (refsC z)[0]? = some (z.2.branches : Value) from refs_g0 z)) ⟨Ext.refl _, rfl⟩
  ·refine stepN rfl fun σ w1 hC h => ?_
   have e3 : σ 3 = PQ n2 0 := (eqo (h 3 (by decide))).trans rfl
   exact Yk.loadAll e3 (eb hC hb17) (wr34_ty67).choose_spec rfl (st_isz (upd_len y) wr34_isz67) ⟨Ext.refl _, rfl⟩
  ·refine stepN rfl fun σ w1 hC h => ?_
   have e11 := eqo (h 11 (by decide))
   have e12 := eqo (h 12 (by decide))
   refine Yk.callA2 wr34_pl149 e11 e12 ((turned_any _ z.2.branches z.1.branches (RG.ofOwn (hbr.keep hC)) (by have := hS.bl; omega) hS.br y).mono ?_)
   rintro e w2 ⟨v, rfl, ho, hx⟩
   exact ⟨_, rfl, hx, v, rfl, NewOG.of ho hE0.size hC.size⟩
  ·refine stepN rfl fun σ w1 hC h => ?_
   have e13 : (fun x w' => ∃ v, x = .tuple #[v, NI (turnQ z.1.branches y).1] ∧ NewOG 70 w0 w3 w' v ((turnQ z.1.branches y).2)) (σ 13) w1 := h 13 (by decide)
   exact Yk.move rfl ⟨Ext.refl _, e13⟩
  ·refine stepN rfl fun σ w1 hC h => ?_
   have e7 : (fun x w' => ∃ v, x = .tuple #[v, NI (turnQ z.1.branches y).1] ∧ NewOG 70 w0 w3 w' v ((turnQ z.1.branches y).2)) (σ 7) w1 := h 7 (by decide)
   obtain ⟨v0, h1_, h2_⟩ := e7
   exact Yk.extract (vs := [v0, _]) h1_ (show _ = some v0 from rfl) ⟨Ext.refl _, h2_⟩
  ·refine stepN rfl fun σ w1 hC h => ?_
   have e7 : (fun x w' => ∃ v, x = .tuple #[v, NI (turnQ z.1.branches y).1] ∧ NewOG 70 w0 w3 w' v ((turnQ z.1.branches y).2)) (σ 7) w1 := h 7 (by decide)
   obtain ⟨v0, h1_, h2_⟩ := e7
   exact Yk.extract (vs := [v0, NI (turnQ z.1.branches y).1]) h1_ (show _ = some (NI (turnQ z.1.branches y).1 : Value) from rfl) ⟨Ext.refl _, rfl⟩
  ·refine stepN rfl fun σ w1 hC h => ?_
   have e14 : (fun x w' => NewOG 70 w0 w3 w' x ((turnQ z.1.branches y).2)) (σ 14) w1 := h 14 (by decide)
   exact Yk.assign rfl ⟨Ext.refl _, e14⟩
  ·refine stepN rfl fun σ w1 hC h => ?_
   have e15 := eqo (h 15 (by decide))
   exact Yk.assign e15 ⟨Ext.refl _, rfl⟩
 intro ρ20 w21 hx22 he hf
 obtain ⟨-, -, -, -, -, -, -, -, -, k5, k6, -⟩ := hf
 obtain ⟨T0, T1, T3, T4, -⟩ := he.hold [(0, _), (1, _), (3, PQ n2 0), (4, NI 0)] ⟨T0, T1, rfl, rfl, trivial⟩ rfl
 clear he
 have hblk := eb hx22 hblk
 have hbr := hbr.keep hx22
 have htg := htg.keep hx22
 have hlg := hlg.keep hx22
 have hgr : w.grownBy w21 (some g) := grownBy_trans hgr hx22.grown (fun _ e => by cases e)
 have hE := hE.trans hx22
 have hE0 := hE0.trans hx22
 have hA8 := hA8.trans hx22
 have hb17 := eb hx22 hb17
 have k5 : (fun x w' => NewOG 70 w0 w3 w' x ((turnQ z.1.branches y).2)) (ρ20 5) w21 := k5
 obtain ⟨v23, T5⟩ : ∃ v, ρ20 5 = v := ⟨_, rfl⟩
 rw [T5] at k5
 have hk24 := k5; clear k5
 have hap25 : OB v23 g := NewOG.apart hk24 (by omega)
 have hap26 : OB v23 n2 := NewOG.apart hk24 (by omega)
 have hap27 : ApartV z.2.log v23 := NewOG.apartv hk24 hlg0 (by omega)
 have ho28 := hk24.1; clear hk24
 have T6 : ρ20 6 = NI ((turnQ z.1.branches y).1) := k6
 clear k6
 refine tN (hK19 _ _ (sk fun K29 hK29 => (sk fun K30 hK30 => ?_)))
 refine wpF_draw [Is (NI ((turnQ z.1.branches y).1)), Is (.bool (decide (((turnQ z.1.branches y).1 : Nat) = (0)))), Is (.bool (decide (((turnQ z.1.branches y).1 : Nat) = (0)))), Is (cond ((decide (((turnQ z.1.branches y).1 : Nat) = (0)))) (PQ n2 34) undef), Is (cond ((decide (((turnQ z.1.branches y).1 : Nat) = (0)))) (AB y.new.1) undef), Is (cond ((decide (((turnQ z.1.branches y).1 : Nat) = (0)))) (.bool (zeroB y.new)) undef), Is (.bool ((decide (((turnQ z.1.branches y).1 : Nat) = (0))) && (zeroB y.new))), Is (.bool ((decide (((turnQ z.1.branches y).1 : Nat) = (0))) && (zeroB y.new))), Is (cond ((decide (((turnQ z.1.branches y).1 : Nat) = (0))) && (zeroB y.new)) (PQ n2 2) undef), Is (cond ((decide (((turnQ z.1.branches y).1 : Nat) = (0))) && (zeroB y.new)) (AB y.old.1) undef), Is (cond ((decide (((turnQ z.1.branches y).1 : Nat) = (0))) && (zeroB y.new)) (.bool (zeroB y.old)) undef), Is (cond ((decide (((turnQ z.1.branches y).1 : Nat) = (0))) && (zeroB y.new)) (.bool (!(zeroB y.old))) undef), Is (.bool (((decide (((turnQ z.1.branches y).1 : Nat) = (0))) && (zeroB y.new)) && (!(zeroB y.old)))), Is (.bool (((decide (((turnQ z.1.branches y).1 : Nat) = (0))) && (zeroB y.new)) && (!(zeroB y.old)))), Is (cond (((decide (((turnQ z.1.branches y).1 : Nat) = (0))) && (zeroB y.new)) && (!(zeroB y.old))) (PQ g 0) undef), Is (cond (((decide (((turnQ z.1.branches y).1 : Nat) = (0))) && (zeroB y.new)) && (!(zeroB y.old))) (PQ g 0) undef), Is (cond (((decide (((turnQ z.1.branches y).1 : Nat) = (0))) && (zeroB y.new)) && (!(zeroB y.old))) (PQ g 2) undef), Is (cond (((decide (((turnQ z.1.branches y).1 : Nat) = (0))) && (zeroB y.new)) && (!(zeroB y.old))) (St (z.1.head)) undef), Is (cond (((decide (((turnQ z.1.branches y).1 : Nat) = (0))) && (zeroB y.new)) && (!(zeroB y.old))) (PQ n2 1) undef), Is (cond (((decide (((turnQ z.1.branches y).1 : Nat) = (0))) && (zeroB y.new)) && (!(zeroB y.old))) (St (y.name)) undef), Is (cond (((decide (((turnQ z.1.branches y).1 : Nat) = (0))) && (zeroB y.new)) && (!(zeroB y.old))) (.bool (decide ((z.1.head : List UInt8) = (y.name : List UInt8)))) undef), Is (.bool ((((decide (((turnQ z.1.branches y).1 : Nat) = (0))) && (zeroB y.new)) && (!(zeroB y.old))) && (decide ((z.1.head : List UInt8) = (y.name : List UInt8)))))] (by kernel_rfl) [16, 17, 18, 19, 20, 21, 22, 23, 24, 25, 26, 27, 28, 29, 30, 31, 32, 33, 34, 35, 36, 37] (by kernel_rfl) (by kernel_rfl) (si10 (si12 trivial)) ?hs2002 ?hQ2002
 case hs2002 =>
  refine ⟨?_, ?_, ?_, ?_, ?_, ?_, ?_, ?_, ?_, ?_, ?_, ?_, ?_, ?_, ?_, ?_, ?_, ?_, ?_, ?_, ?_, ?_, trivial⟩
  ·refine stepN rfl fun σ w1 hC h => ?_
   have e6 := (eqo (h 6 (by decide))).trans T6
   exact Yk.move e6 ⟨Ext.refl _, rfl⟩
  ·refine stepN rfl fun σ w1 hC h => ?_
   have e16 := eqo (h 16 (by decide))
   exact Yk.eqI (a := ((turnQ z.1.branches y).1 : Nat)) (b := (0 : Nat)) e16 rfl (k_eql _ _ _ _) ⟨Ext.refl _, rfl⟩
  ·refine stepN rfl fun σ w1 hC h => ?_
   have e17 := eqo (h 17 (by decide))
   exact Yk.move e17 ⟨Ext.refl _, rfl⟩
  ·refine stepM 2 true 18 (G := (decide (((turnQ z.1.branches y).1 : Nat) = (0)))) rfl rfl (fun x _ (h : x = .bool (decide (((turnQ z.1.branches y).1 : Nat) = (0)))) => gT h) (fun hu_ _ => mayU hu_) fun hG σ w1 hC h => ?_
   have e3 := (eqo (h 3 (by decide))).trans T3
   exact Yk.fieldAt wr34_fo67_3 e3 ⟨Ext.refl _, mayI hG⟩
  ·refine stepM 2 true 18 (G := (decide (((turnQ z.1.branches y).1 : Nat) = (0)))) rfl rfl (fun x _ (h : x = .bool (decide (((turnQ z.1.branches y).1 : Nat) = (0)))) => gT h) (fun hu_ _ => mayU hu_) fun hG σ w1 hC h => ?_
   have e19 := eqo (h 19 (by decide))
   exact Yk.loadPR (PR.blk (eb hC hb17) (upd_m3 y) (upd_n3 y) (mayT e19 hG)) wr34_ty25 rfl (sizeId_of y.new.2) ⟨Ext.refl _, mayI hG⟩
  ·refine stepM 2 true 18 (G := (decide (((turnQ z.1.branches y).1 : Nat) = (0)))) rfl rfl (fun x _ (h : x = .bool (decide (((turnQ z.1.branches y).1 : Nat) = (0)))) => gT h) (fun hu_ _ => mayU hu_) fun hG σ w1 hC h => ?_
   have e20 := eqo (h 20 (by decide))
   refine Yk.callA1 wr34_pl83 (mayT e20 hG) ((fzero_any _ y.new).mono ?_)
   rintro e w2 ⟨rfl, hx⟩
   exact ⟨_, rfl, hx, mayI hG⟩
  ·refine stepN rfl fun σ w1 hC h => ?_
   have e18 := eqo (h 18 (by decide))
   have e21 := eqo (h 21 (by decide))
   exact Yk.pickAnd e18 (fun hA => (mayT e21 hA)) (vr (.bool (false)) rfl) ⟨Ext.refl _, rfl⟩
  ·refine stepN rfl fun σ w1 hC h => ?_
   have e22 := eqo (h 22 (by decide))
   exact Yk.move e22 ⟨Ext.refl _, rfl⟩
  ·refine stepM 7 true 23 (G := (decide (((turnQ z.1.branches y).1 : Nat) = (0))) && (zeroB y.new)) rfl rfl (fun x _ (h : x = .bool ((decide (((turnQ z.1.branches y).1 : Nat) = (0))) && (zeroB y.new))) => gT h) (fun hu_ _ => mayU hu_) fun hG σ w1 hC h => ?_
   have e3 := (eqo (h 3 (by decide))).trans T3
   exact Yk.fieldAt wr34_fo67_2 e3 ⟨Ext.refl _, mayI hG⟩
  ·refine stepM 7 true 23 (G := (decide (((turnQ z.1.branches y).1 : Nat) = (0))) && (zeroB y.new)) rfl rfl (fun x _ (h : x = .bool ((decide (((turnQ z.1.branches y).1 : Nat) = (0))) && (zeroB y.new))) => gT h) (fun hu_ _ => mayU hu_) fun hG σ w1 hC h => ?_
   have e24 := eqo (h 24 (by decide))
   exact Yk.loadPR (PR.blk (eb hC hb17) (upd_m2 y) (upd_n2 y) (mayT e24 hG)) wr34_ty25 rfl (sizeId_of y.old.2) ⟨Ext.refl _, mayI hG⟩
  ·refine stepM 7 true 23 (G := (decide (((turnQ z.1.branches y).1 : Nat) = (0))) && (zeroB y.new)) rfl rfl (fun x _ (h : x = .bool ((decide (((turnQ z.1.branches y).1 : Nat) = (0))) && (zeroB y.new))) => gT h) (fun hu_ _ => mayU hu_) fun hG σ w1 hC h => ?_
   have e25 := eqo (h 25 (by decide))
   refine Yk.callA1 wr34_pl83 (mayT e25 hG) ((fzero_any _ y.old).mono ?_)
   rintro e w2 ⟨rfl, hx⟩
   exact ⟨_, rfl, hx, mayI hG⟩
  ·refine stepM 7 true 23 (G := (decide (((turnQ z.1.branches y).1 : Nat) = (0))) && (zeroB y.new)) rfl rfl (fun x _ (h : x = .bool ((decide (((turnQ z.1.branches y).1 : Nat) = (0))) && (zeroB y.new))) => gT h) (fun hu_ _ => mayU hu_) fun hG σ w1 hC h => ?_
   have e26 := eqo (h 26 (by decide))
   exact Yk.notB (mayT e26 hG) ⟨Ext.refl _, mayI hG⟩
  ·refine stepN rfl fun σ w1 hC h => ?_
   have e23 := eqo (h 23 (by decide))
   have e27 := eqo (h 27 (by decide))
   exact Yk.pickAnd e23 (fun hA => (mayT e27 hA)) (vr (.bool (false)) rfl) ⟨Ext.refl _, rfl⟩
  ·refine stepN rfl fun σ w1 hC h => ?_
   have e28 := eqo (h 28 (by decide))
   exact Yk.move e28 ⟨Ext.refl _, rfl⟩
  ·refine stepM 13 true 29 (G := ((decide (((turnQ z.1.branches y).1 : Nat) = (0))) && (zeroB y.new)) && (!(zeroB y.old))) rfl rfl (fun x _ (h : x = .bool (((decide (((turnQ z.1.branches y).1 : Nat) = (0))) && (zeroB y.new)) && (!(zeroB y.old)))) => gT h) (fun hu_ _ => mayU hu_) fun hG σ w1 hC h => ?_
   have e0 := (eqo (h 0 (by decide))).trans T0
   exact Yk.move e0 ⟨Ext.refl _, mayI hG⟩
  ·refine stepM 13 true 29 (G := ((decide (((turnQ z.1.branches y).1 : Nat) = (0))) && (zeroB y.new)) && (!(zeroB y.old))) rfl rfl (fun x _ (h : x = .bool (((decide (((turnQ z.1.branches y).1 : Nat) = (0))) && (zeroB y.new)) && (!(zeroB y.old)))) => gT h) (fun hu_ _ => mayU hu_) fun hG σ w1 hC h => ?_
   have e30 := eqo (h 30 (by decide))
   exact Yk.nilCheck (mayT e30 hG) ⟨Ext.refl _, mayI hG⟩
  ·refine stepM 13 true 29 (G := ((decide (((turnQ z.1.branches y).1 : Nat) = (0))) && (zeroB y.new)) && (!(zeroB y.old))) rfl rfl (fun x _ (h : x = .bool (((decide (((turnQ z.1.branches y).1 : Nat) = (0))) && (zeroB y.new)) && (!(zeroB y.old)))) => gT h) (fun hu_ _ => mayU hu_) fun hG σ w1 hC h => ?_
   have e31 := eqo (h 31 (by decide))
   exact Yk.fieldAt wr34_fo53_2 (mayT e31 hG) ⟨Ext.refl _, mayI hG⟩
  ·refine stepM 13 true 29 (G := ((decide (((turnQ z.1.branches y).1 : Nat) = (0))) && (zeroB y.new)) && (!(zeroB y.old))) rfl rfl (fun x _ (h : x = .bool (((decide (((turnQ z.1.branches y).1 : Nat) = (0))) && (zeroB y.new)) && (!(zeroB y.old)))) => gT h) (fun hu_ _ => mayU hu_) fun hG σ w1 hC h => ?_
   have e32 := eqo (h 32 (by decide))
   exact Yk.cell1 wr34_ty9 rfl (mayT e32 hG) (cellAt (eb hC hblk) (show (refsC z)[2]? = some (St (z.1.head) : Value) from refs_g2 z)) ⟨Ext.refl _, mayI hG⟩
  ·refine stepM 13 true 29 (G := ((decide (((turnQ z.1.branches y).1 : Nat) = (0))) && (zeroB y.new)) && (!(zeroB y.old))) rfl rfl (fun x _ (h : x = .bool (((decide (((turnQ z.1.branches y).1 : Nat) = (0))) && (zeroB y.new)) && (!(zeroB y.old)))) => gT h) (fun hu_ _ => mayU hu_) fun hG σ w1 hC h => ?_
   have e3 := (eqo (h 3 (by decide))).trans T3
   exact Yk.fieldAt wr34_fo67_1 e3 ⟨Ext.refl _, mayI hG⟩
  ·refine stepM 13 true 29 (G := ((decide (((turnQ z.1.branches y).1 : Nat) = (0))) && (zeroB y.new)) && (!(zeroB y.old))) rfl rfl (fun x _ (h : x = .bool (((decide (((turnQ z.1.branches y).1 : Nat) = (0))) && (zeroB y.new)) && (!(zeroB y.old)))) => gT h) (fun hu_ _ => mayU hu_) fun hG σ w1 hC h => ?_
   have e34 := eqo (h 34 (by decide))
   exact Yk.cell1 wr34_ty9 rfl (mayT e34 hG) (cellAt (eb hC hb17) (show (updC y)[1]? = some (St (y.name) : Value) from upd_g1 y)) ⟨Ext.refl _, mayI hG⟩
  ·refine stepM 13 true 29 (G := ((decide (((turnQ z.1.branches y).1 : Nat) = (0))) && (zeroB y.new)) && (!(zeroB y.old))) rfl rfl (fun x _ (h : x = .bool (((decide (((turnQ z.1.branches y).1 : Nat) = (0))) && (zeroB y.new)) && (!(zeroB y.old)))) => gT h) (fun hu_ _ => mayU hu_) fun hG σ w1 hC h => ?_
   have e33 := eqo (h 33 (by decide))
   have e35 := eqo (h 35 (by decide))
   exact Yk.eqSt (l := z.1.head) (m := y.name) (.inl rfl) (mayT e33 hG) (mayT e35 hG) (decide ((z.1.head : List UInt8) = (y.name : List UInt8))) rfl ⟨Ext.refl _, mayI hG⟩
  ·refine stepN rfl fun σ w1 hC h => ?_
   have e29 := eqo (h 29 (by decide))
   have e36 := eqo (h 36 (by decide))
   exact Yk.pickAnd e29 (fun hA => (mayT e36 hA)) (vr (.bool (false)) rfl) ⟨Ext.refl _, rfl⟩
 intro ρ31 w32 hx33 he hf
 obtain ⟨-, -, -, -, -, -, -, -, -, -, -, -, -, -, -, -, -, -, -, -, -, k37, -⟩ := hf
 obtain ⟨T0, T1, T3, T4, T5, T6, -⟩ := he.hold [(0, _), (1, _), (3, _), (4, _), (5, _), (6, _)] ⟨T0, T1, T3, T4, T5, T6, trivial⟩ rfl
 clear he
 have hblk := eb hx33 hblk
 have hbr := hbr.keep hx33
 have htg := htg.keep hx33
 have hlg := hlg.keep hx33
 have hgr : w.grownBy w32 (some g) := grownBy_trans hgr hx33.grown (fun _ e => by cases e)
 have hE := hE.trans hx33
 have hE0 := hE0.trans hx33
 have hA8 := hA8.trans hx33
 have hb17 := eb hx33 hb17
 have ho28 := ho28.keep hx33
 have T37 : ρ31 37 = .bool ((((decide (((turnQ z.1.branches y).1 : Nat) = (0))) && (zeroB y.new)) && (!(zeroB y.old))) && (decide ((z.1.head : List UInt8) = (y.name : List UInt8)))) := k37
 clear k37
 refine tN (hK30 _ _ ?_)
 refine wpF_condB ((((decide (((turnQ z.1.branches y).1 : Nat) = (0))) && (zeroB y.new)) && (!(zeroB y.old))) && (decide ((z.1.head : List UInt8) = (y.name : List UInt8)))) T37 (fun hc0 => ?_) (fun hc0 => ?_)
 ·have h0c : hdlost z.1 y = true := hc0
  refine sk fun K34 hK34 => (wt (oA rfl (oZ (tN (hK34 _ _ (wpF_ret (thenF_ret (postF_ret (fn := Tryd.f122) _ rfl [NI 16] (NI 16) rfl ⟨rfl, trivial⟩ ?_))))))))
  exact ⟨z, ⟨by unfold branchP; rw [if_pos h0c], by unfold branchP; rw [if_pos h0c]⟩, ⟨hE0, hg0, hblk, hbr, htg, hlg, hab, hat, hal, hlb, hlt⟩, rfl, hgr⟩
 have h0c : hdlost z.1 y = false := hc0
 refine wpF_skip (tN (hK29 _ _ (sk fun K35 hK35 => (sk fun K36 hK36 => (wt (oM rfl (oS rfl (Yk.eqI (a := ((turnQ z.1.branches y).1 : Nat)) (b := (0 : Nat)) T6 rfl (k_eql _ _ _ _) (oZ (tN (hK36 _ _ ?_)))))))))))
 refine wpF_cond (((turnQ z.1.branches y).1 : Nat) = (0)) (vr (.bool (decide (((turnQ z.1.branches y).1 : Nat) = (0)))) rfl) (fun hc1 => ?_) (fun hc1 => ?_)
 ·have h1c := hc1
  refine wt (oM rfl (oM rfl (oS rfl (Yk.nilCheck T0 (oS rfl (Yk.fieldAt wr34_fo53_0 (vr (PQ g 0) rfl) (oS rfl (Yk.storeC (i := 0) (v := v23) (vr (PQ g 0) rfl) T5 hblk (by rw [refs_len]; decide) wr34_isz51 (RG.one (RG.ofOwn ho28)).1 (RG.one (RG.ofOwn ho28)).2 fun w37 hb38 hg39 hs40 => ?_))))))))
  have hbr := OG.kept hbr hg39 hab
  have htg := OG.kept htg hg39 hat
  have hlg := OG.kept hlg hg39 hal
  have hgr : w.grownBy w37 (some g) := grownBy_trans hgr hg39 (fun _ e => .inl e)
  clear hE
  have hE0 := row_fresh hE0 hg39 (Nat.le_trans (Nat.le_refl _) (by omega))
  clear hA8
  have hb17 := kb hg39 hb17 (by omega)
  have ho28 := OG.kept ho28 hg39 hap25
  clear hblk
  have hblk : w37.heap[g]? = some (.cells (refsC ((⟨(turnQ z.1.branches y).2, z.1.tags, z.1.head, z.1.at_, z.1.log⟩, ⟨v23, z.2.tags, z.2.log⟩) : RefsV)).toArray 53 (0, 0)) := blk_eq hb38 (refs_s0 z v23 ((turnQ z.1.branches y).2)); clear hb38
  have hl41 := bl hblk
  refine oZ (tN (hK35 _ _ (sk fun K42 hK42 => (wt (oM rfl (oA rfl (oZ (tN (hK42 _ _ (wpF_ret (postF_ret (fn := Tryd.f122) _ rfl [NI ((turnQ z.1.branches y).1)] (NI ((turnQ z.1.branches y).1)) rfl ⟨T6, trivial⟩ ?_)))))))))))
  exact ⟨((⟨(turnQ z.1.branches y).2, z.1.tags, z.1.head, z.1.at_, z.1.log⟩, ⟨v23, z.2.tags, z.2.log⟩) : RefsV), ⟨by unfold branchP; rw [if_neg (by rw [h0c]; decide), if_pos h1c, h1c], by unfold branchP; rw [if_neg (by rw [h0c]; decide), if_pos h1c]⟩, ⟨hE0, hg0, hblk, ho28, htg, hlg, hap25, hat, hal, hap27, hlt⟩, rfl, hgr⟩
 have h1c := hc1
 refine wpF_skip (tN (hK35 _ _ (sk fun K43 hK43 => (wt (oM rfl (oA rfl (oZ (tN (hK43 _ _ (wpF_ret (postF_ret (fn := Tryd.f122) _ rfl [NI ((turnQ z.1.branches y).1)] (NI ((turnQ z.1.branches y).1)) rfl ⟨T6, trivial⟩ ?_)))))))))))
 exact ⟨z, ⟨by unfold branchP; rw [if_neg (by rw [h0c]; decide), if_neg h1c], by unfold branchP; rw [if_neg (by rw [h0c]; decide), if_neg h1c]⟩, ⟨hE0, hg0, hblk, hbr, htg, hlg, hab, hat, hal, hlb, hlt⟩, rfl, hgr⟩

theorem tag_any (w0 w : World) (g : Nat) (z : RefsV) (hA : AppAt w0 w g z) (hS : Sorted z.1) (y : Upd) :
  Calls Tryd.prog 123 #[PQ g 0, .agg (updC y).toArray] w fun e w' => ∃ z', (e = .returned (NI (tagP z.1 y).1) ∧ z'.1 = (tagP z.1 y).2) ∧ AppAt w0 w' g z' ∧ z'.2.log = z.2.log ∧ w.grownBy w' (some g) := by
 have hgr := World.grownBy.refl w (some g)
 have hE0 := hA.ext
 have hg0 := hA.g0
 have hblk := hA.blk
 have hbr := hA.br
 have htg := hA.tg
 have hlg := hA.lg
 have hab := hA.ab
 have hat := hA.at_
 have hal := hA.al
 have hlb := hA.lb
 have hlt := hA.lt
 have hlg0 := hA.lg
 have hgl := (bl hblk)
 refine calls_of_wpF (args := [PQ g 0, .agg (updC y).toArray]) Tryd.func123 rfl 23 rfl (Nat.le_of_ble_eq_true rfl) ?_
 intro ρ0 hb
 have T0 : ρ0 0 = (PQ g 0 : Value) := hb.get 0
 have T1 : ρ0 1 = (.agg (updC y).toArray : Value) := hb.get 1
 clear hb
 have hE := Ext.refl w
 refine sk fun K1 hK1 => (wt (oS rfl (Yk.box (cs := (updC y : List Value).toArray) T1 fun n2 w3 hn4 hb5 hx6 hs7 => ?_)))
 have hA8 := Ext.refl w
 have hea9 := hE
 have hea10 := hE0
 have hz11 := hE.size
 have hz12 := hE0.size
 have hlt13 := lte (bl hblk) hn4
 have hap14 : OB z.2.branches n2 := own_newer hbr.2 (by omega)
 have hap15 : OB z.2.tags n2 := own_newer htg.2 (by omega)
 have hap16 : OB z.2.log n2 := own_newer hlg.2 (by omega)
 have hblk := eb hx6 hblk
 have hbr := hbr.keep hx6
 have htg := htg.keep hx6
 have hlg := hlg.keep hx6
 have hgr : w.grownBy w3 (some g) := grownBy_trans hgr hx6.grown (fun _ e => by cases e)
 have hE := hE.trans hx6
 have hE0 := hE0.trans hx6
 have hA8 := hA8.trans hx6
 have hb17 := hb5; clear hb5
 have hl18 : n2 < w3.heap.size := by omega
 refine oA rfl (oZ (tN (hK1 _ _ (sk fun K19 hK19 => ?_))))
 refine wpF_draw [Is (PQ g 0), Is (PQ g 0), Is (PQ g 1), Is (z.2.tags), Is (.agg (updC y).toArray), fun x w' => ∃ v, x = .tuple #[v, NI (turnQ z.1.tags y).1] ∧ NewOG 70 w0 w3 w' v ((turnQ z.1.tags y).2), fun x w' => ∃ v, x = .tuple #[v, NI (turnQ z.1.tags y).1] ∧ NewOG 70 w0 w3 w' v ((turnQ z.1.tags y).2), fun x w' => NewOG 70 w0 w3 w' x ((turnQ z.1.tags y).2), Is (NI ((turnQ z.1.tags y).1)), fun x w' => NewOG 70 w0 w3 w' x ((turnQ z.1.tags y).2), Is (NI ((turnQ z.1.tags y).1))] (by kernel_rfl) [8, 9, 10, 11, 12, 13, 7, 14, 15, 5, 6] (by kernel_rfl) (by kernel_rfl) (si5 ⟨(fun _ _ _ ⟨v, h1, h2⟩ k => ⟨v, h1, h2.keep k⟩), (fun _ _ _ ⟨v, h1, h2⟩ k => ⟨v, h1, h2.keep k⟩), (fun _ _ _ h k => NewOG.keep h k), Stab.is _, (fun _ _ _ h k => NewOG.keep h k), Stab.is _, trivial⟩) ?hs1001 ?hQ1001
 case hs1001 =>
  refine ⟨?_, ?_, ?_, ?_, ?_, ?_, ?_, ?_, ?_, ?_, ?_, trivial⟩
  ·refine stepN rfl fun σ w1 hC h => ?_
   have e0 := (eqo (h 0 (by decide))).trans T0
   exact Yk.move e0 ⟨Ext.refl _, rfl⟩
  ·refine stepN rfl fun σ w1 hC h => ?_
   have e8 := eqo (h 8 (by decide))
   exact Yk.nilCheck e8 ⟨Ext.refl _, rfl⟩
  ·refine stepN rfl fun σ w1 hC h => ?_
   have e9 := eqo (h 9 (by decide))
   exact Yk.fieldAt wr34_fo53_1 e9 ⟨Ext.refl _, rfl⟩
  ·refine stepN rfl fun σ w1 hC h => ?_
   have e10 := eqo (h 10 (by decide))
   exact Yk.cell1 wr34_ty51 rfl e10 (cellAt (eb hC hblk) (show (refsC z)[1]? = some (z.2.tags : Value) from refs_g1 z)) ⟨Ext.refl _, rfl⟩
  ·refine stepN rfl fun σ w1 hC h => ?_
   have e3 : σ 3 = PQ n2 0 := (eqo (h 3 (by decide))).trans rfl
   exact Yk.loadAll e3 (eb hC hb17) (wr34_ty67).choose_spec rfl (st_isz (upd_len y) wr34_isz67) ⟨Ext.refl _, rfl⟩
  ·refine stepN rfl fun σ w1 hC h => ?_
   have e11 := eqo (h 11 (by decide))
   have e12 := eqo (h 12 (by decide))
   refine Yk.callA2 wr34_pl149 e11 e12 ((turned_any _ z.2.tags z.1.tags (RG.ofOwn (htg.keep hC)) (by have := hS.tl; omega) hS.tg y).mono ?_)
   rintro e w2 ⟨v, rfl, ho, hx⟩
   exact ⟨_, rfl, hx, v, rfl, NewOG.of ho hE0.size hC.size⟩
  ·refine stepN rfl fun σ w1 hC h => ?_
   have e13 : (fun x w' => ∃ v, x = .tuple #[v, NI (turnQ z.1.tags y).1] ∧ NewOG 70 w0 w3 w' v ((turnQ z.1.tags y).2)) (σ 13) w1 := h 13 (by decide)
   exact Yk.move rfl ⟨Ext.refl _, e13⟩
  ·refine stepN rfl fun σ w1 hC h => ?_
   have e7 : (fun x w' => ∃ v, x = .tuple #[v, NI (turnQ z.1.tags y).1] ∧ NewOG 70 w0 w3 w' v ((turnQ z.1.tags y).2)) (σ 7) w1 := h 7 (by decide)
   obtain ⟨v0, h1_, h2_⟩ := e7
   exact Yk.extract (vs := [v0, _]) h1_ (show _ = some v0 from rfl) ⟨Ext.refl _, h2_⟩
  ·refine stepN rfl fun σ w1 hC h => ?_
   have e7 : (fun x w' => ∃ v, x = .tuple #[v, NI (turnQ z.1.tags y).1] ∧ NewOG 70 w0 w3 w' v ((turnQ z.1.tags y).2)) (σ 7) w1 := h 7 (by decide)
   obtain ⟨v0, h1_, h2_⟩ := e7
   exact Yk.extract (vs := [v0, NI (turnQ z.1.tags y).1]) h1_ (show _ = some (NI (turnQ z.1.tags y).1 : Value) from rfl) ⟨Ext.refl _, rfl⟩
  ·refine stepN rfl fun σ w1 hC h => ?_
   have e14 : (fun x w' => NewOG 70 w0 w3 w' x ((turnQ z.1.tags y).2)) (σ 14) w1 := h 14 (by decide)
   exact Yk.assign rfl ⟨Ext.refl _, e14⟩
  ·refine stepN rfl fun σ w1 hC h => ?_
   have e15 := eqo (h 15 (by decide))
   exact Yk.assign e15 ⟨Ext.refl _, rfl⟩
 intro ρ20 w21 hx22 he hf
 obtain ⟨-, -, -, -, -, -, -, -, -, k5, k6, -⟩ := hf
 obtain ⟨T0, T1, T3, T4, -⟩ := he.hold [(0, _), (1, _), (3, PQ n2 0), (4, NI 0)] ⟨T0, T1, rfl, rfl, trivial⟩ rfl
 clear he
 have hblk := eb hx22 hblk
 have hbr := hbr.keep hx22
 have htg := htg.keep hx22
 have hlg := hlg.keep hx22
 have hgr : w.grownBy w21 (some g) := grownBy_trans hgr hx22.grown (fun _ e => by cases e)
 have hE := hE.trans hx22
 have hE0 := hE0.trans hx22
 have hA8 := hA8.trans hx22
 have hb17 := eb hx22 hb17
 have k5 : (fun x w' => NewOG 70 w0 w3 w' x ((turnQ z.1.tags y).2)) (ρ20 5) w21 := k5
 obtain ⟨v23, T5⟩ : ∃ v, ρ20 5 = v := ⟨_, rfl⟩
 rw [T5] at k5
 have hk24 := k5; clear k5
 have hap25 : OB v23 g := NewOG.apart hk24 (by omega)
 have hap26 : OB v23 n2 := NewOG.apart hk24 (by omega)
 have hap27 : ApartV z.2.log v23 := NewOG.apartv hk24 hlg0 (by omega)
 have ho28 := hk24.1; clear hk24
 have T6 : ρ20 6 = NI ((turnQ z.1.tags y).1) := k6
 clear k6
 refine tN (hK19 _ _ (sk fun K29 hK29 => (sk fun K30 hK30 => (wt (oM rfl (oS rfl (Yk.eqI (a := ((turnQ z.1.tags y).1 : Nat)) (b := (0 : Nat)) T6 rfl (k_eql _ _ _ _) (oZ (tN (hK30 _ _ ?_))))))))))
 refine wpF_cond (((turnQ z.1.tags y).1 : Nat) = (0)) (vr (.bool (decide (((turnQ z.1.tags y).1 : Nat) = (0)))) rfl) (fun hc0 => ?_) (fun hc0 => ?_)
 ·have h1c := hc0
  refine wt (oM rfl (oM rfl (oS rfl (Yk.nilCheck T0 (oS rfl (Yk.fieldAt wr34_fo53_1 (vr (PQ g 0) rfl) (oS rfl (Yk.storeC (i := 1) (v := v23) (vr (PQ g 1) rfl) T5 hblk (by rw [refs_len]; decide) wr34_isz51 (RG.one (RG.ofOwn ho28)).1 (RG.one (RG.ofOwn ho28)).2 fun w31 hb32 hg33 hs34 => ?_))))))))
  have hbr := OG.kept hbr hg33 hab
  have htg := OG.kept htg hg33 hat
  have hlg := OG.kept hlg hg33 hal
  have hgr : w.grownBy w31 (some g) := grownBy_trans hgr hg33 (fun _ e => .inl e)
  clear hE
  have hE0 := row_fresh hE0 hg33 (Nat.le_trans (Nat.le_refl _) (by omega))
  clear hA8
  have hb17 := kb hg33 hb17 (by omega)
  have ho28 := OG.kept ho28 hg33 hap25
  clear hblk
  have hblk : w31.heap[g]? = some (.cells (refsC ((⟨z.1.branches, (turnQ z.1.tags y).2, z.1.head, z.1.at_, z.1.log⟩, ⟨z.2.branches, v23, z.2.log⟩) : RefsV)).toArray 53 (0, 0)) := blk_eq hb32 (refs_s1 z v23 ((turnQ z.1.tags y).2)); clear hb32
  have hl35 := bl hblk
  refine oZ (tN (hK29 _ _ (sk fun K36 hK36 => (wt (oM rfl (oA rfl (oZ (tN (hK36 _ _ (wpF_ret (postF_ret (fn := Tryd.f123) _ rfl [NI ((turnQ z.1.tags y).1)] (NI ((turnQ z.1.tags y).1)) rfl ⟨T6, trivial⟩ ?_)))))))))))
  exact ⟨((⟨z.1.branches, (turnQ z.1.tags y).2, z.1.head, z.1.at_, z.1.log⟩, ⟨z.2.branches, v23, z.2.log⟩) : RefsV), ⟨by unfold tagP; rw [if_pos h1c, h1c], by unfold tagP; rw [if_pos h1c]⟩, ⟨hE0, hg0, hblk, hbr, ho28, hlg, hab, hap25, hal, hlb, hap27⟩, rfl, hgr⟩
 have h1c := hc0
 refine wpF_skip (tN (hK29 _ _ (sk fun K37 hK37 => (wt (oM rfl (oA rfl (oZ (tN (hK37 _ _ (wpF_ret (postF_ret (fn := Tryd.f123) _ rfl [NI ((turnQ z.1.tags y).1)] (NI ((turnQ z.1.tags y).1)) rfl ⟨T6, trivial⟩ ?_)))))))))))
 exact ⟨z, ⟨by unfold tagP; rw [if_neg h1c], by unfold tagP; rw [if_neg h1c]⟩, ⟨hE0, hg0, hblk, hbr, htg, hlg, hab, hat, hal, hlb, hlt⟩, rfl, hgr⟩

theorem head_any (w0 w : World) (g : Nat) (z : RefsV) (hA : AppAt w0 w g z) (hS : Sorted z.1) (y : Upd) :
  Calls Tryd.prog 124 #[PQ g 0, .agg (updC y).toArray] w fun e w' => ∃ z', (e = .returned (NI (headP z.1 y).1) ∧ z'.1 = (headP z.1 y).2) ∧ AppAt w0 w' g z' ∧ z'.2.log = z.2.log ∧ w.grownBy w' (some g) := by
 have hgr := World.grownBy.refl w (some g)
 have hE0 := hA.ext
 have hg0 := hA.g0
 have hblk := hA.blk
 have hbr := hA.br
 have htg := hA.tg
 have hlg := hA.lg
 have hab := hA.ab
 have hat := hA.at_
 have hal := hA.al
 have hlb := hA.lb
 have hlt := hA.lt
 have hlg0 := hA.lg
 have hgl := (bl hblk)
 refine calls_of_wpF (args := [PQ g 0, .agg (updC y).toArray]) Tryd.func124 rfl 15 rfl (Nat.le_of_ble_eq_true rfl) ?_
 intro ρ0 hb
 have T0 : ρ0 0 = (PQ g 0 : Value) := hb.get 0
 have T1 : ρ0 1 = (.agg (updC y).toArray : Value) := hb.get 1
 clear hb
 have hE := Ext.refl w
 refine sk fun K1 hK1 => (wt (oS rfl (Yk.box (cs := (updC y : List Value).toArray) T1 fun n2 w3 hn4 hb5 hx6 hs7 => ?_)))
 have hA8 := Ext.refl w
 have hea9 := hE
 have hea10 := hE0
 have hz11 := hE.size
 have hz12 := hE0.size
 have hlt13 := lte (bl hblk) hn4
 have hap14 : OB z.2.branches n2 := own_newer hbr.2 (by omega)
 have hap15 : OB z.2.tags n2 := own_newer htg.2 (by omega)
 have hap16 : OB z.2.log n2 := own_newer hlg.2 (by omega)
 have hblk := eb hx6 hblk
 have hbr := hbr.keep hx6
 have htg := htg.keep hx6
 have hlg := hlg.keep hx6
 have hgr : w.grownBy w3 (some g) := grownBy_trans hgr hx6.grown (fun _ e => by cases e)
 have hE := hE.trans hx6
 have hE0 := hE0.trans hx6
 have hA8 := hA8.trans hx6
 have hb17 := hb5; clear hb5
 have hl18 : n2 < w3.heap.size := by omega
 refine oA rfl (oZ (tN (hK1 _ _ (sk fun K19 hK19 => ?_))))
 have hx20 : Ext w3 (World.drew w3) := (Below.refl _ _).drew
 have hblk := eb hx20 hblk
 have hbr := hbr.keep hx20
 have htg := htg.keep hx20
 have hlg := hlg.keep hx20
 have hgr : w.grownBy (World.drew w3) (some g) := grownBy_trans hgr hx20.grown (fun _ e => by cases e)
 have hE := hE.trans hx20
 have hE0 := hE0.trans hx20
 have hA8 := hA8.trans hx20
 have hb17 := eb hx20 hb17
 refine wpF_float [(0, 5, PQ g 0), (1, 6, PQ g 0), (2, 7, PQ n2 1), (3, 8, St (y.name)), (4, 9, PQ n2 34), (5, 10, AB y.new.1)] [6, 7, 8, 9, 10, 11] (fun wz => Ext w0 wz ∧ wz.heap[n2]? = some (.cells (updC y).toArray 67 (0, 0)) ∧ True) (by kernel_rfl) (by kernel_rfl) (by kernel_rfl) ⟨hE0, hb17, trivial⟩ ⟨fun w21 ⟨hE0, hb17, _⟩ => Yk.move T0 ⟨rfl, rfl⟩, fun w21 ⟨hE0, hb17, _⟩ => Yk.move T0 ⟨rfl, rfl⟩, fun w21 ⟨hE0, hb17, _⟩ => Yk.fieldAt wr34_fo67_1 (vr (PQ n2 0) rfl) ⟨rfl, rfl⟩, fun w21 ⟨hE0, hb17, _⟩ => Yk.cell1 wr34_ty9 rfl (vr (PQ n2 1) rfl) (cellAt hb17 (show (updC y)[1]? = some (St (y.name) : Value) from upd_g1 y)) ⟨rfl, rfl⟩, fun w21 ⟨hE0, hb17, _⟩ => Yk.fieldAt wr34_fo67_3 (vr (PQ n2 0) rfl) ⟨rfl, rfl⟩, fun w21 ⟨hE0, hb17, _⟩ => Yk.loadPR (PR.blk hb17 (upd_m3 y) (upd_n3 y) (vr (PQ n2 34) rfl)) wr34_ty25 rfl (sizeId_of y.new.2) ⟨rfl, rfl⟩, trivial⟩ (chF_step rfl (Yk.nilCheck (vr (PQ g 0) rfl) ?_))
 refine ⟨.inr ⟨hE0, hb17, trivial⟩, ?_⟩
 refine chF_step rfl (Yk.fieldAt wr34_fo53_2 (vr (PQ g 0) rfl) ?_)
 refine ⟨.inr ⟨hE0, hb17, trivial⟩, ?_⟩
 refine chF_step rfl (Yk.storeC (i := 2) (v := St (y.name)) (vr (PQ g 2) rfl) (vr (St (y.name)) rfl) hblk (by rw [refs_len]; decide) wr34_isz9 rfl rfl fun w22 hb23 hg24 hs25 => ?_)
 have hbr := OG.kept hbr hg24 hab
 have htg := OG.kept htg hg24 hat
 have hlg := OG.kept hlg hg24 hal
 have hgr : w.grownBy w22 (some g) := grownBy_trans hgr hg24 (fun _ e => .inl e)
 clear hE
 have hE0 := row_fresh hE0 hg24 (Nat.le_trans (Nat.le_refl _) (by omega))
 clear hA8
 have hb17 := kb hg24 hb17 (by omega)
 clear hblk
 have hblk : w22.heap[g]? = some (.cells (refsC ((⟨z.1.branches, z.1.tags, y.name, z.1.at_, z.1.log⟩, ⟨z.2.branches, z.2.tags, z.2.log⟩) : RefsV)).toArray 53 (0, 0)) := blk_eq hb23 (refs_s2 z y.name); clear hb23
 have hl26 := bl hblk
 refine ⟨.inr ⟨hE0, hb17, trivial⟩, ?_⟩
 refine chF_step rfl (Yk.nilCheck (vr (PQ g 0) rfl) ?_)
 refine ⟨.inr ⟨hE0, hb17, trivial⟩, ?_⟩
 refine chF_step rfl (Yk.fieldAt wr34_fo53_3 (vr (PQ g 0) rfl) ?_)
 refine ⟨.inr ⟨hE0, hb17, trivial⟩, ?_⟩
 refine chF_step rfl (Yk.storeMid (a := refs_a3 ((⟨z.1.branches, z.1.tags, y.name, z.1.at_, z.1.log⟩, ⟨z.2.branches, z.2.tags, z.2.log⟩) : RefsV)) (m := Lib.byteCells z.1.at_.1) (z := refs_z3 ((⟨z.1.branches, z.1.tags, y.name, z.1.at_, z.1.log⟩, ⟨z.2.branches, z.2.tags, z.2.log⟩) : RefsV)) (cells := Lib.byteCells y.new.1) (vr (PQ g 3) rfl) (vr (AB y.new.1) rfl) (refs_m3 ((⟨z.1.branches, z.1.tags, y.name, z.1.at_, z.1.log⟩, ⟨z.2.branches, z.2.tags, z.2.log⟩) : RefsV) ▸ hblk) (refs_n3 ((⟨z.1.branches, z.1.tags, y.name, z.1.at_, z.1.log⟩, ⟨z.2.branches, z.2.tags, z.2.log⟩) : RefsV)) (by rw [Lib.byteCells_length, Lib.byteCells_length, z.1.at_.2, y.new.2]) (by rw [Lib.byteCells_length, y.new.2]; exact wr34_isz25) (byteCells_one _) fun w27 hb28 hg29 hs30 => ?_)
 have hbr := OG.kept hbr hg29 hab
 have htg := OG.kept htg hg29 hat
 have hlg := OG.kept hlg hg29 hal
 have hgr : w.grownBy w27 (some g) := grownBy_trans hgr hg29 (fun _ e => .inl e)
 have hE0 := row_fresh hE0 hg29 (Nat.le_trans (Nat.le_refl _) (by omega))
 have hb17 := kb hg29 hb17 (by omega)
 clear hblk
 have hblk : w27.heap[g]? = some (.cells (refsC ((⟨z.1.branches, z.1.tags, y.name, y.new, z.1.log⟩, ⟨z.2.branches, z.2.tags, z.2.log⟩) : RefsV)).toArray 53 (0, 0)) := blk_eq hb28 (refs_s3 ((⟨z.1.branches, z.1.tags, y.name, z.1.at_, z.1.log⟩, ⟨z.2.branches, z.2.tags, z.2.log⟩) : RefsV) y.new); clear hb28
 have hl31 := bl hblk
 refine ⟨.inl rfl, ?_⟩
 refine chF_nil (tN (hK19 _ _ (sk fun K32 hK32 => (wt (oA rfl (oZ (tN (hK32 _ _ (wpF_ret (postF_ret (fn := Tryd.f124) _ rfl [NI 0] (NI 0) rfl ⟨rfl, trivial⟩ ?_))))))))))
 exact ⟨((⟨z.1.branches, z.1.tags, y.name, y.new, z.1.log⟩, ⟨z.2.branches, z.2.tags, z.2.log⟩) : RefsV), ⟨rfl, rfl⟩, ⟨hE0, hg0, hblk, hbr, htg, hlg, hab, hat, hal, hlb, hlt⟩, rfl, hgr⟩

theorem fkinds_any (w : World) :
  Calls Tryd.prog 76 #[] w fun e w' => ∃ b, e = .returned (.map (some b)) ∧ MapF B8 fnV (fun _ : UInt8 => True) w' b doG ∧ w.heap.size ≤ b ∧ Ext w w' := by
 refine calls_of_wpF (args := []) Tryd.func76 rfl 3 rfl (Nat.le_of_ble_eq_true rfl) ?_
 intro ρ0 hb
 clear hb
 have hE := Ext.refl w
 refine sk fun K1 hK1 => (wt (oA rfl (oZ (tN (hK1 _ _ (sk fun K2 hK2 => (wt (oS rfl (Yk.mkMap B8 fnV (fun _ : UInt8 => True) fun n3 w4 hn5 hb6 hx7 hs8 => ?_)))))))))
 have hE := hE.trans hx7
 have hl9 : n3 < w4.heap.size := by omega
 refine oS rfl (Yk.insM (ek := B8) (ev := fnV) (D := (fun _ : UInt8 => True)) (c := 122) u8Law u8_ok wr34_ty125 (vr (.map (some n3)) rfl) (vr (B8 (1)) rfl) rfl hb6 trivial fun w10 hb11 hg12 hs13 => ?_)
 have hE := row_fresh hE hg12 (Nat.le_trans (Nat.le_refl _) (by omega))
 clear hb6
 have hl14 : n3 < w10.heap.size := hb11.lt
 refine oS rfl (Yk.insM (ek := B8) (ev := fnV) (D := (fun _ : UInt8 => True)) (c := 123) u8Law u8_ok wr34_ty125 (vr (.map (some n3)) rfl) (vr (B8 (2)) rfl) rfl hb11 trivial fun w15 hb16 hg17 hs18 => ?_)
 have hE := row_fresh hE hg17 (Nat.le_trans (Nat.le_refl _) (by omega))
 clear hb11
 have hl19 : n3 < w15.heap.size := hb16.lt
 refine oS rfl (Yk.insM (ek := B8) (ev := fnV) (D := (fun _ : UInt8 => True)) (c := 124) u8Law u8_ok wr34_ty125 (vr (.map (some n3)) rfl) (vr (B8 (3)) rfl) rfl hb16 trivial fun w20 hb21 hg22 hs23 => ?_)
 have hE := row_fresh hE hg22 (Nat.le_trans (Nat.le_refl _) (by omega))
 clear hb16
 have hl24 : n3 < w20.heap.size := hb21.lt
 refine oM rfl (oA rfl (oZ (tN (hK2 _ _ (wpF_ret (postF_ret (fn := Tryd.f76) _ rfl [.map (some n3)] (.map (some n3)) rfl ⟨rfl, trivial⟩ ?_))))))
 exact ⟨_, rfl, hb21, by omega, hE⟩
open Go.RowKit
theorem doG_cases {k : UInt8} {f : Nat} (h : doG k = some f) : (k.toNat = 1 ∧ f = 122) ∨ (k.toNat = 2 ∧ f = 123) ∨ (k.toNat = 3 ∧ f = 124) := by
  unfold doG updM at h
  split at h
  · rename_i e; subst e; exact .inr (.inr ⟨rfl, (Option.some.inj h).symm⟩)
  · split at h
    · rename_i e; subst e; exact .inr (.inl ⟨rfl, (Option.some.inj h).symm⟩)
    · split at h
      · rename_i e; subst e; exact .inl ⟨rfl, (Option.some.inj h).symm⟩
      · cases h
theorem doG_some {k : UInt8} (h : kindB k = true) : ∃ f, doG k = some f := by
  unfold kindB at h
  simp only [Bool.or_eq_true, decide_eq_true_eq] at h
  rcases h with (h | h) | h
  · obtain rfl : k = 1 := UInt8.toNat_inj.1 h
    exact ⟨_, rfl⟩
  · obtain rfl : k = 2 := UInt8.toNat_inj.1 h
    exact ⟨_, rfl⟩
  · obtain rfl : k = 3 := UInt8.toNat_inj.1 h
    exact ⟨_, rfl⟩
theorem plB : Plain Tryd.prog 122 := fun _ _ => by kernel_rfl
theorem plT : Plain Tryd.prog 123 := fun _ _ => by kernel_rfl
theorem plH : Plain Tryd.prog 124 := fun _ _ => by kernel_rfl
theorem plain_do {k : UInt8} {f : Nat} (h : doG k = some f) : Plain Tryd.prog f := by
  rcases doG_cases h with ⟨-, e⟩ | ⟨-, e⟩ | ⟨-, e⟩ <;> rw [e]
  · exact plB
  · exact plT
  · exact plH
theorem do_any (w0 w : World) (g : Nat) (z : RefsV) (hA : AppAt w0 w g z) (hS : Sorted z.1) (y : Upd) {f : Nat} (hf : doG y.kind = some f) :
    Calls Tryd.prog f #[PQ g 0, .agg (updC y).toArray] w fun e w' => ∃ z', (e = .returned (NI (doP z.1 y).1) ∧ z'.1 = (doP z.1 y).2) ∧ AppAt w0 w' g z' ∧ z'.2.log = z.2.log ∧ w.grownBy w' (some g) := by
  rcases doG_cases hf with ⟨hk, rfl⟩ | ⟨hk, rfl⟩ | ⟨hk, rfl⟩
  · rw [show doP z.1 y = branchP z.1 y by unfold doP; rw [if_pos hk]]; exact branch_any w0 w g z hA hS y
  · rw [show doP z.1 y = tagP z.1 y by unfold doP; rw [if_neg (by omega), if_pos hk]]; exact tag_any w0 w g z hA hS y
  · rw [show doP z.1 y = headP z.1 y by unfold doP; rw [if_neg (by omega), if_neg (by omega)]]; exact head_any w0 w g z hA hS y
section
variable {α β : Type} {b b' k k' g : Nat} {t t' : TypeId} {enc : α → List Value} {enc' : β → List Value} {w : World} {u v : Value} {l : List α} {m : List β}
theorem OG.off (h : OG b t k enc w v l) {cs : Array Value} {fr : Nat × Nat} (hb : w.heap[g]? = some (.cells cs t' fr)) (hne : t ≠ t') : v.ownBlock ≠ some g := by
  obtain ⟨-, -, ⟨rfl, -⟩ | ⟨g', c, cur, rfl, -, hg, -⟩⟩ := h
  · simp [Value.ownBlock]
  · intro e
    obtain rfl : g' = g := by simpa [Value.ownBlock] using e
    rw [hg] at hb
    simp only [Option.some.injEq, Obj.cells.injEq] at hb
    exact hne hb.2.1
theorem OG.offMap {γ δ : Type} {ek : γ → Value} {ev : δ → Value} {D : γ → Prop} {G : γ → Option δ} (h : OG b t k enc w v l) (hb : MapF ek ev D w g G) : v.ownBlock ≠ some g := by
  obtain ⟨es, c, hm, -⟩ := hb
  obtain ⟨-, -, ⟨rfl, -⟩ | ⟨g', c, cur, rfl, -, hg, -⟩⟩ := h
  · simp [Value.ownBlock]
  · intro e
    obtain rfl : g' = g := by simpa [Value.ownBlock] using e
    rw [hg] at hm
    cases hm
theorem OG.apart (hu : OG b t k enc w u l) (hv : OG b' t' k' enc' w v m) (hne : t ≠ t') : ApartV u v := fun g h1 h2 => by
  obtain ⟨-, -, ⟨rfl, -⟩ | ⟨g', c, cur, rfl, -, hg, -⟩⟩ := hv
  · simp [Value.ownBlock] at h2
  · obtain rfl : g' = g := by simpa [Value.ownBlock] using h2
    exact hu.off hg hne h1
end
structure RefsOw (b : Nat) (w : World) (z : RefsV) : Prop where
  br : OG b 70 33 nmdC w z.2.branches z.1.branches
  tg : OG b 70 33 nmdC w z.2.tags z.1.tags
  lg : OG b 122 67 entC w z.2.log z.1.log
theorem RefsOw.keep {b : Nat} {w w' : World} {z : RefsV} (h : RefsOw b w z) (k : Ext w w') : RefsOw b w' z := ⟨h.br.keep k, h.tg.keep k, h.lg.keep k⟩
theorem RefsOw.zero {b : Nat} {w : World} {z : RefsV} (h : RefsOw b w z) : RefsOw 0 w z := ⟨h.br.low (Nat.zero_le _), h.tg.low (Nat.zero_le _), h.lg.low (Nat.zero_le _)⟩
theorem Yk.maxNI {P : Program} {K : Value → World → Prop} {ρ : Slots} {w : World} {d : Option Tmp} {ty : TypeId} {pos : String} {af : Array Edge} {gd : Option (Nat × Bool)} {t1 t2 : TypeId} {x y : Operand} {n m : Nat} (hx : evalR ρ x = .int .i64 ((n : Int) - (m : Int))) (hy : evalR ρ y = NI 0) (hk : K (NI (n - m)) w) :
    Yk P K ((execOp (evalR ρ) ⟨d, .call ⟨.builtin .max, #[x, y], #[t1, t2]⟩, ty, pos, af, gd⟩).run P w) := by
  refine Yk.value (v := NI (n - m)) (w' := w) ?_ hk
  unfold execOp
  simp only [resolve, invoke, builtin, hx, hy, List.map_toArray, List.map_cons, List.map_nil, Sem.run_bind, Sem.run_pure, Result.andThen_ok]
  have hr : (Builtin.max_ #[t1, t2] ty #[.int .i64 ((n : Int) - (m : Int)), NI 0]).run P w = .ok (NI (n - m)) w := by
    simp only [Builtin.max_, List.foldlM_cons, List.foldlM_nil, Sem.run_bind, Builtin.max2, Sem.run_pure, Result.andThen_ok]
    congr 2
    simp only [Int.natCast_zero]
    split <;> omega
  rw [hr]
  rfl
abbrev zeroR : Refs := ⟨[], [], [], zid, []⟩
def entOf (y : Upd) (note : Bs) : Ent := ⟨y.kind, y.name, y.old, y.new, note⟩
def addlog (r : Refs) (e : Ent) : Refs := ⟨r.branches, r.tags, r.head, r.at_, r.log ++ [e]⟩
def stepP (note : Bs) (r : Refs) (y : Upd) : Nat × Refs := if updErr y ≠ 0 then (updErr y, r) else if (doP r y).1 ≠ 0 then ((doP r y).1, r) else (0, addlog (doP r y).2 (entOf y note))
def runP (note : Bs) : Refs → List Upd → Nat × Refs
  | r, [] => (0, r)
  | r, y :: l => if (stepP note r y).1 ≠ 0 then ((stepP note r y).1, zeroR) else runP note (stepP note r y).2 l
def cutlog (r : Refs) : Refs := ⟨r.branches, r.tags, r.head, r.at_, r.log.drop (r.log.length - 64)⟩
noncomputable def applyP (r : Refs) (l : List Upd) (note : Bs) : Nat × Refs :=
  if ((!rightF r) || (!noteB note)) = true then (1, zeroR) else if (runP note r l).1 ≠ 0 then ((runP note r l).1, zeroR) else (0, cutlog (runP note r l).2)
theorem runP_at {note : Bs} {r : Refs} {l : List Upd} {i : Nat} (hi : i < l.length) : runP note r (l.drop i) = if (stepP note r (l.getD i dUpd)).1 ≠ 0 then ((stepP note r (l.getD i dUpd)).1, zeroR) else runP note (stepP note r (l.getD i dUpd)).2 (l.drop (i + 1)) := by
  rw [List.drop_eq_getElem_cons hi, List.getD_eq_getElem?_getD, List.getElem?_eq_getElem hi]
  rfl
section
variable {note : Bs} {r r' : Refs} {l : List Upd} {i e : Nat}
theorem runP_err1 (hi : i < l.length) (h : updErr (l.getD i dUpd) ≠ 0) : runP note r (l.drop i) = (updErr (l.getD i dUpd), zeroR) := by
  rw [runP_at hi, show stepP note r (l.getD i dUpd) = (updErr (l.getD i dUpd), r) by unfold stepP; rw [if_pos h], if_pos h]
theorem runP_err2 (hi : i < l.length) (h : updErr (l.getD i dUpd) = 0) (h2 : (doP r (l.getD i dUpd)).1 ≠ 0) : runP note r (l.drop i) = ((doP r (l.getD i dUpd)).1, zeroR) := by
  rw [runP_at hi, show stepP note r (l.getD i dUpd) = ((doP r (l.getD i dUpd)).1, r) by unfold stepP; rw [if_neg (fun k => k h), if_pos h2], if_pos h2]
theorem runP_next (hi : i < l.length) (h : updErr (l.getD i dUpd) = 0) (h2 : (doP r (l.getD i dUpd)).1 = 0) : runP note r (l.drop i) = runP note (addlog (doP r (l.getD i dUpd)).2 (entOf (l.getD i dUpd) note)) (l.drop (i + 1)) := by
  rw [runP_at hi, show stepP note r (l.getD i dUpd) = (0, addlog (doP r (l.getD i dUpd)).2 (entOf (l.getD i dUpd) note)) by unfold stepP; rw [if_neg (fun k => k h), if_neg (fun k => k h2)], if_neg (fun k => k rfl)]
theorem runP_end (hi : l.length ≤ i) : runP note r (l.drop i) = (0, r) := by rw [List.drop_of_length_le hi]; rfl
theorem applyP_bad (h : ((!rightF r) || (!noteB note)) = true) : applyP r l note = (1, zeroR) := by unfold applyP; rw [if_pos h]
theorem applyP_err (h0 : ((!rightF r) || (!noteB note)) = false) (h : runP note r l = (e, zeroR)) (he : e ≠ 0) : applyP r l note = (e, zeroR) := by unfold applyP; rw [h0, if_neg (by decide), h, if_pos he]
theorem applyP_ok (h0 : ((!rightF r) || (!noteB note)) = false) (h : runP note r l = (0, r')) : applyP r l note = (0, cutlog r') := by unfold applyP; rw [h0, if_neg (by decide), h, if_neg (fun k => k rfl)]
theorem updErr_kind {y : Upd} (h : updErr y = 0) : kindB y.kind = true := by
  unfold updErr at h
  cases hk : kindB y.kind with
  | true => rfl
  | false => rw [hk] at h; simp at h
end
theorem sortN_map {l : List Nmd} : sortN l ↔ (l.map (·.name)).Pairwise (· < ·) := by
  rw [List.pairwise_map, List.pairwise_iff_getElem]
  unfold sortN
  constructor
  · intro h i j hi hj hij
    have := h i j hij hj
    rwa [List.getD_eq_getElem?_getD, List.getElem?_eq_getElem hi, List.getD_eq_getElem?_getD, List.getElem?_eq_getElem hj] at this
  · intro h i j hij hj
    have := h i j (by omega) hj hij
    rw [List.getD_eq_getElem?_getD, List.getElem?_eq_getElem (by omega), List.getD_eq_getElem?_getD, List.getElem?_eq_getElem hj]
    exact this
theorem placeN_cons {a : Nmd} {l : List Nmd} {s : Bs} : placeN (a :: l) s = if a.name < s then placeN l s + 1 else 0 := by
  unfold placeN
  rw [List.takeWhile_cons]
  by_cases h : a.name < s <;> simp [h]
theorem placeN_le : ∀ (l : List Nmd) (s : Bs), placeN l s ≤ l.length
  | [], s => Nat.le_refl _
  | a :: l, s => by rw [placeN_cons]; have := placeN_le l s; split <;> simp <;> omega
theorem placeN_lt : ∀ {l : List Nmd} {s : Bs} {j : Nat}, j < placeN l s → (l.getD j dNmd).name < s
  | [], s, j, h => by simp [placeN] at h
  | a :: l, s, j, h => by
    rw [placeN_cons] at h
    split at h
    · cases j with
      | zero => assumption
      | succ j => exact placeN_lt (l := l) (by omega)
    · omega
theorem placeN_ge : ∀ {l : List Nmd} {s : Bs}, placeN l s < l.length → ¬ (l.getD (placeN l s) dNmd).name < s
  | [], s, h => by simp at h
  | a :: l, s, h => by
    rw [placeN_cons] at h ⊢
    split at h
    · rename_i e
      rw [if_pos e]
      exact placeN_ge (l := l) (by simpa using h)
    · rename_i e
      rw [if_neg e]
      exact e
theorem placeN_at {l : List Nmd} {s : Bs} (hs : sortN l) : placeAt l s (placeN l s) := by
  refine ⟨placeN_le l s, fun j hj => placeN_lt hj, fun j h1 h2 => ?_⟩
  exact place_high hs (placeN_ge (by omega)) j h1 h2
theorem names_tri {a b : Bs} (h : ¬ a < b) (h2 : a ≠ b) : b < a := by
  by_cases h3 : b < a
  · exact h3
  · exact absurd (List.le_antisymm h3 h) h2
theorem getD_map_name {l : List Nmd} {i : Nat} : (l.getD i dNmd).name = (l.map (·.name)).getD i [] := by
  rw [List.getD_eq_getElem?_getD, List.getD_eq_getElem?_getD, List.getElem?_map]
  cases l[i]? <;> rfl
theorem turnQ_sorted {l : List Nmd} {y : Upd} (hs : sortN l) (hl : l.length ≤ 64) : sortN (turnQ l y).2 ∧ (turnQ l y).2.length ≤ 64 := by
  have hp := placeN_at (s := y.name) hs
  have hnil : sortN [] := fun i j _ h => by simp at h
  unfold turnQ
  rcases hf : foundN l y.name (placeN l y.name) with _ | _
  · rw [turnF hf]
    split
    · exact ⟨hnil, by simp⟩
    · split
      · exact ⟨hs, hl⟩
      · split
        · exact ⟨hnil, by simp⟩
        · refine ⟨?_, by rw [List.length_append, List.length_cons, List.length_take, List.length_drop]; have := hp.1; omega⟩
          have hs0 := hs
          rw [sortN_map] at hs ⊢
          rw [List.map_append, List.map_cons, List.pairwise_append, List.pairwise_cons]
          refine ⟨?_, ⟨?_, ?_⟩, ?_⟩
          · rw [List.map_take]; exact hs.sublist (List.take_sublist _ _)
          · intro a ha
            obtain ⟨n, hn, rfl⟩ := List.mem_map.1 ha
            obtain ⟨i, hi, rfl⟩ := List.mem_iff_getElem.1 hn
            rw [List.length_drop] at hi
            have h1 := hp.2.2 (placeN l y.name + i) (by omega) (by omega)
            rw [List.getD_eq_getElem?_getD, List.getElem?_eq_getElem (by omega)] at h1
            rw [List.getElem_drop]
            refine names_tri h1 fun e => ?_
            have hi0 : i = 0 := by
              refine Nat.eq_zero_of_not_pos fun h0 => ?_
              have h2 := hs0 (placeN l y.name) (placeN l y.name + i) (by omega) (by omega)
              rw [show l.getD (placeN l y.name + i) dNmd = l[placeN l y.name + i]'(by omega) from by rw [List.getD_eq_getElem?_getD, List.getElem?_eq_getElem (by omega)]; rfl] at h2
              refine hp.2.2 (placeN l y.name) (Nat.le_refl _) (by omega) ?_
              rw [e] at h2; exact h2
            subst hi0
            unfold foundN at hf
            rw [List.getD_eq_getElem?_getD, List.getElem?_eq_getElem (by omega)] at hf
            simp only [Bool.and_eq_false_iff, decide_eq_false_iff_not] at hf
            rcases hf with hf | hf
            · omega
            · exact hf e
          · rw [List.map_drop]; exact hs.sublist (List.drop_sublist _ _)
          · intro a ha c hc
            obtain ⟨n, hn, rfl⟩ := List.mem_map.1 ha
            obtain ⟨i, hi, rfl⟩ := List.mem_iff_getElem.1 hn
            rw [List.length_take] at hi
            rw [List.getElem_take]
            have h1 := hp.2.1 i (by omega)
            rw [List.getD_eq_getElem?_getD, List.getElem?_eq_getElem (by omega)] at h1
            rcases List.mem_cons.1 hc with rfl | hc
            · exact h1
            · obtain ⟨m, hm, rfl⟩ := List.mem_map.1 hc
              obtain ⟨j, hj, rfl⟩ := List.mem_iff_getElem.1 hm
              rw [List.length_drop] at hj
              rw [List.getElem_drop]
              have h2 := hs0 i (placeN l y.name + j) (by omega) (by omega)
              rw [List.getD_eq_getElem?_getD, List.getElem?_eq_getElem (by omega), List.getD_eq_getElem?_getD, List.getElem?_eq_getElem (by omega)] at h2
              exact h2
  · rw [turnT hf]
    have hlt := found_lt hf
    split
    · exact ⟨hnil, by simp⟩
    · split
      · refine ⟨?_, Nat.le_trans (List.length_eraseIdx_le _ _) hl⟩
        rw [sortN_map] at hs ⊢
        exact hs.sublist ((List.eraseIdx_sublist _ _).map _)
      · refine ⟨?_, by rw [List.length_set]; exact hl⟩
        rw [sortN_map] at hs ⊢
        rw [List.map_set, getD_map_name]
        rw [show (l.map (·.name)).set (placeN l y.name) ((l.map (·.name)).getD (placeN l y.name) []) = l.map (·.name) from by
          rw [List.getD_eq_getElem?_getD, List.getElem?_eq_getElem (by rw [List.length_map]; exact hlt)]; exact List.set_getElem_self _]
        exact hs
theorem doP_sorted {r : Refs} {y : Upd} (h : Sorted r) : Sorted (doP r y).2 := by
  unfold doP
  split
  · unfold branchP
    split
    · exact h
    · split
      · have := turnQ_sorted (y := y) h.br h.bl
        exact ⟨this.1, h.tg, this.2, h.tl⟩
      · exact h
  · split
    · unfold tagP
      split
      · have := turnQ_sorted (y := y) h.tg h.tl
        exact ⟨h.br, this.1, h.bl, this.2⟩
      · exact h
    · exact ⟨h.br, h.tg, h.bl, h.tl⟩
theorem doP_log {r : Refs} {y : Upd} : (doP r y).2.log = r.log := by
  unfold doP
  split
  · unfold branchP; split
    · rfl
    · split <;> rfl
  · split
    · unfold tagP; split <;> rfl
    · rfl
theorem nlistB_sorted {l : List Nmd} (h : nlistB l = true) : sortN l ∧ l.length ≤ 64 := by
  classical
  unfold nlistB at h
  have h := of_decide_eq_true h
  refine ⟨?_, h.2⟩
  have step : ∀ j, j + 1 < l.length → (l.getD j dNmd).name < (l.getD (j + 1) dNmd).name := fun j hj => by
    have := h.1 (j + 1) hj
    unfold nE at this
    simp only [Bool.or_eq_false_iff, Bool.and_eq_false_iff, decide_eq_false_iff_not, Bool.not_eq_false', Nat.add_sub_cancel] at this
    rcases this.2 with h1 | h1
    · omega
    · rw [bytesLess_eq] at h1
      exact of_decide_eq_true h1
  intro i j hij hj
  induction j with
  | zero => omega
  | succ j ih =>
    by_cases e : i = j
    · subst e; exact step i hj
    · exact List.lt_trans (ih (by omega) (by omega)) (step j hj)
theorem rightF_lists {r : Refs} (h : rightF r = true) : nlistB r.branches = true ∧ nlistB r.tags = true ∧ r.log.length ≤ 64 := by
  unfold rightF at h
  simp only [Bool.and_eq_true] at h
  have h1 := h.1
  unfold rE1 at h1
  simp only [Bool.not_eq_true', Bool.or_eq_false_iff, Bool.not_eq_false', decide_eq_false_iff_not] at h1
  exact ⟨h1.1.1, h1.1.2, by omega⟩
theorem rightF_sorted {r : Refs} (h : rightF r = true) : Sorted r := by
  obtain ⟨h1, h2, -⟩ := rightF_lists h
  exact ⟨(nlistB_sorted h1).1, (nlistB_sorted h2).1, (nlistB_sorted h1).2, (nlistB_sorted h2).2⟩
open Go.RowKit
theorem found_at {l : List Nmd} {s : Bs} (hs : sortN l) (hf : foundN l s (placeN l s) = true) : placeN l s < l.length ∧ (l.getD (placeN l s) dNmd).name = s ∧ ∀ j, j < l.length → j ≠ placeN l s → (l.getD j dNmd).name ≠ s := by
  have hlt := found_lt hf
  unfold foundN at hf
  simp only [Bool.and_eq_true, decide_eq_true_eq] at hf
  refine ⟨hlt, hf.2, fun j hj hne e => ?_⟩
  rcases Nat.lt_or_gt_of_ne hne with h | h
  · have := hs j _ h hlt
    rw [e, hf.2] at this
    exact List.lt_irrefl _ this
  · have := hs _ j h hj
    rw [e, hf.2] at this
    exact List.lt_irrefl _ this
theorem found_no {l : List Nmd} {s : Bs} (hs : sortN l) (hf : foundN l s (placeN l s) = false) : ∀ j, j < l.length → (l.getD j dNmd).name ≠ s := fun j hj e => by
  have hp := placeN_at (s := s) hs
  rcases Nat.lt_trichotomy j (placeN l s) with h | h | h
  · have := hp.2.1 j h
    rw [e] at this
    exact List.lt_irrefl _ this
  · subst h
    unfold foundN at hf
    simp only [Bool.and_eq_false_iff, decide_eq_false_iff_not] at hf
    rcases hf with hf | hf
    · exact hf hj
    · exact hf e
  · refine hp.2.2 (placeN l s) (Nat.le_refl _) (by omega) ?_
    have := hs _ j h hj
    rw [e] at this
    exact this
open Go.RowKit
structure GoodR (r : Refs) : Prop where
  br : nlistB r.branches = true
  tg : nlistB r.tags = true
  hd : rE2 r = false
  lg : ∀ e ∈ r.log, kindB e.kind = true ∧ noteB e.note = true ∧ e.name.length ≤ 32
theorem nlistB_iff {l : List Nmd} : nlistB l = true ↔ (∀ n ∈ l, nameB n.name = true ∧ zeroB n.id = false) ∧ sortN l ∧ l.length ≤ 64 := by
  classical
  constructor
  · intro h
    refine ⟨fun n hn => ?_, nlistB_sorted h⟩
    unfold nlistB at h
    have h := (of_decide_eq_true h).1
    obtain ⟨i, hi, rfl⟩ := List.mem_iff_getElem.1 hn
    have := h i hi
    unfold nE at this
    rw [List.getD_eq_getElem?_getD, List.getElem?_eq_getElem hi] at this
    simp only [Bool.or_eq_false_iff, Bool.not_eq_false', Option.getD_some] at this
    exact this.1
  · rintro ⟨h1, h2, h3⟩
    unfold nlistB
    refine decide_eq_true ⟨fun j hj => ?_, h3⟩
    unfold nE
    have := h1 (l.getD j dNmd) (getD_mem dNmd hj)
    rw [this.1, this.2]
    simp only [Bool.not_true, Bool.false_or, Bool.and_eq_false_iff, decide_eq_false_iff_not, Bool.not_eq_false']
    by_cases h0 : 0 < j
    · right
      rw [bytesLess_eq]
      exact decide_eq_true (h2 (j - 1) j (by omega) hj)
    · exact .inl h0
theorem rightF_iff {r : Refs} : rightF r = true ↔ GoodR r ∧ r.log.length ≤ 64 := by
  classical
  constructor
  · intro h
    obtain ⟨h1, h2, h3⟩ := rightF_lists h
    unfold rightF at h
    simp only [Bool.and_eq_true, Bool.not_eq_true', decide_eq_true_eq] at h
    refine ⟨⟨h1, h2, h.2.1, fun e he => ?_⟩, h3⟩
    obtain ⟨i, hi, rfl⟩ := List.mem_iff_getElem.1 he
    have := h.2.2 i hi
    unfold entE at this
    rw [List.getD_eq_getElem?_getD, List.getElem?_eq_getElem hi] at this
    simp only [Bool.or_eq_false_iff, Bool.not_eq_false', Option.getD_some, decide_eq_false_iff_not] at this
    exact ⟨this.1.1, this.1.2, by omega⟩
  · rintro ⟨h, h3⟩
    refine rightF_all (i := r.log.length) ?_ h.hd (Nat.le_refl _) fun j hj => ?_
    · unfold rE1; rw [h.br, h.tg]; simp; omega
    · have := h.lg _ (getD_mem dEntry hj)
      unfold entE
      rw [this.1, this.2.1, decide_eq_false (by omega)]
      rfl
open Go.RowKit
def bytesR (n : Nat) : List UInt8 :=
  if n < 128 then [UInt8.ofNat n]
  else if n < 2048 then [UInt8.ofNat (192 + n / 64), UInt8.ofNat (128 + n % 64)]
  else if n < 65536 then [UInt8.ofNat (224 + n / 4096), UInt8.ofNat (128 + n / 64 % 64), UInt8.ofNat (128 + n % 64)]
  else [UInt8.ofNat (240 + n / 262144), UInt8.ofNat (128 + n / 4096 % 64), UInt8.ofNat (128 + n / 64 % 64), UInt8.ofNat (128 + n % 64)]
def vN (l : List UInt8) (a n : Nat) : Int :=
  if n = 1 then ((l.getD a 0).toNat : Int) else if n = 2 then (((l.getD a 0).toNat : Int) - 192) * 64 + ((l.getD (a + 1) 0).toNat : Int) - 128
  else if n = 3 then (((l.getD a 0).toNat : Int) - 224) * 4096 + (((l.getD (a + 1) 0).toNat : Int) - 128) * 64 + ((l.getD (a + 2) 0).toNat : Int) - 128
  else (((l.getD a 0).toNat : Int) - 240) * 262144 + (((l.getD (a + 1) 0).toNat : Int) - 128) * 4096 + (((l.getD (a + 2) 0).toNat : Int) - 128) * 64 + ((l.getD (a + 3) 0).toNat : Int) - 128
def okN (l : List UInt8) (a n : Nat) : Prop := 0 ≤ vN l a n ∧ vN l a n ≤ 1114111 ∧ mayB (vN l a n).toNat = true ∧ bytesR (vN l a n).toNat = (l.drop a).take n
theorem cont_iff {c : Nat} (h : c < 256) : c &&& 192 = 128 ↔ (128 ≤ c ∧ c < 192) := by
  have : ∀ c : Fin 256, c.val &&& 192 = 128 ↔ (128 ≤ c.val ∧ c.val < 192) := by decide +kernel
  exact this ⟨c, h⟩
theorem and63_mod (c : Nat) : c &&& 63 = c % 64 := Nat.and_two_pow_sub_one_eq_mod c 6
theorem and31_mod (c : Nat) : c &&& 31 = c % 32 := Nat.and_two_pow_sub_one_eq_mod c 5
theorem and15_mod (c : Nat) : c &&& 15 = c % 16 := Nat.and_two_pow_sub_one_eq_mod c 4
theorem and7_mod (c : Nat) : c &&& 7 = c % 8 := Nat.and_two_pow_sub_one_eq_mod c 3
theorem or_six (q c : Nat) : q * 2 ^ 6 ||| (c % 64) = q * 64 + c % 64 := by
  have := Nat.two_pow_add_eq_or_of_lt (i := 6) (b := c % 64) (Nat.mod_lt _ (by decide)) q
  rw [Nat.mul_comm q, ← this]
theorem byteN_eq {x : UInt8} {n : Nat} (h : n < 256) : UInt8.ofNat n = x ↔ x.toNat = n := by
  constructor
  · rintro rfl; simp; omega
  · intro e; rw [← e]; simp
theorem take_1 {l : List UInt8} {a : Nat} (h : a < l.length) : (l.drop a).take 1 = [l.getD a 0] := by
  rw [List.drop_eq_getElem_cons h, List.getD_eq_getElem?_getD, List.getElem?_eq_getElem h]; rfl
theorem take_cons {l : List UInt8} {a n : Nat} (h : a < l.length) : (l.drop a).take (n + 1) = l.getD a 0 :: (l.drop (a + 1)).take n := by
  rw [List.drop_eq_getElem_cons h, List.getD_eq_getElem?_getD, List.getElem?_eq_getElem h]; rfl
def okD (l : List UInt8) (a n : Nat) : Prop := ∃ r m q, leadO (l.getD a 0) = some (n - 1, r, m) ∧ tailU l (a + 1) (n - 1) r = some q ∧ m ≤ q ∧ mayB q = true
theorem decU_iff {l : List UInt8} {a b : Nat} (ha : a < l.length) : decU l a = some b ↔ ∃ n, 1 ≤ n ∧ a + n = b ∧ b ≤ l.length ∧ okD l a n := by
  unfold decU
  cases hL : leadO (l.getD a 0) with
  | none => simp only [reduceCtorEq, false_iff]; rintro ⟨n, -, -, -, r, m, q, h, -⟩; rw [hL] at h; cases h
  | some p =>
    obtain ⟨k, r, m⟩ := p
    simp only
    by_cases hs : l.length - a ≤ k
    · rw [if_pos hs]; simp only [reduceCtorEq, false_iff]
      rintro ⟨n, h1, h2, h3, r', m', q', h, -⟩
      rw [hL] at h; cases h; omega
    · rw [if_neg hs]
      cases ht : tailU l (a + 1) k r with
      | none => simp only [reduceCtorEq, false_iff]; rintro ⟨n, -, -, -, r', m', q', h, h', -⟩; rw [hL] at h; cases h; rw [ht] at h'; cases h'
      | some q =>
        simp only
        constructor
        · intro h
          split at h
          · rename_i hq; cases h; exact ⟨k + 1, by omega, by omega, by omega, r, m, q, hL, ht, hq.1, hq.2⟩
          · cases h
        · rintro ⟨n, h1, h2, h3, r', m', q', h, h', h4, h5⟩
          rw [hL] at h; cases h; rw [ht] at h'; cases h'
          rw [if_pos ⟨h4, h5⟩]; congr 1; omega
theorem ok1 {l : List UInt8} {a : Nat} (h : a < l.length) : okN l a 1 ↔ okD l a 1 := by
  have hb := (l.getD a 0).toNat_lt
  unfold okN okD
  rw [take_1 h, show vN l a 1 = ((l.getD a 0).toNat : Int) from rfl]
  simp only [Int.toNat_natCast]
  constructor
  · rintro ⟨-, -, h3, h4⟩
    have hc : (l.getD a 0).toNat < 128 := by
      unfold bytesR at h4
      split at h4
      · assumption
      · split at h4
        · exact absurd (congrArg List.length h4) (by simp)
        · split at h4 <;> exact absurd (congrArg List.length h4) (by simp)
    exact ⟨(l.getD a 0).toNat, 0, (l.getD a 0).toNat, by unfold leadO; rw [if_pos hc], rfl, Nat.zero_le _, h3⟩
  · rintro ⟨r, m, q, h1, h2, h3, h4⟩
    unfold leadO at h1
    by_cases hc : (l.getD a 0).toNat < 128
    · rw [if_pos hc] at h1; cases h1; cases h2
      refine ⟨by omega, by omega, h4, ?_⟩
      unfold bytesR; rw [if_pos hc, (byteN_eq (by omega)).2 rfl]
    · rw [if_neg hc] at h1
      split at h1
      · cases h1
      · split at h1
        · cases h1
        · split at h1 <;> cases h1
theorem lead_2 {c : UInt8} {r m : Nat} : leadO c = some (1, r, m) ↔ (192 ≤ c.toNat ∧ c.toNat < 224) ∧ r = c.toNat % 32 ∧ m = 128 := by
  unfold leadO
  rw [and31_mod]
  repeat' split
  all_goals simp only [Option.some.injEq, Prod.mk.injEq, reduceCtorEq, false_and, true_and]
  all_goals (constructor <;> intro h <;> first | omega | exact h.elim)
theorem lead_3 {c : UInt8} {r m : Nat} : leadO c = some (2, r, m) ↔ (224 ≤ c.toNat ∧ c.toNat < 240) ∧ r = c.toNat % 16 ∧ m = 2048 := by
  unfold leadO
  rw [and15_mod]
  repeat' split
  all_goals simp only [Option.some.injEq, Prod.mk.injEq, reduceCtorEq, false_and, true_and]
  all_goals (constructor <;> intro h <;> first | omega | exact h.elim)
theorem lead_4 {c : UInt8} {r m : Nat} : leadO c = some (3, r, m) ↔ (240 ≤ c.toNat ∧ c.toNat < 248) ∧ r = c.toNat % 8 ∧ m = 65536 := by
  unfold leadO
  rw [and7_mod]
  repeat' split
  all_goals simp only [Option.some.injEq, Prod.mk.injEq, reduceCtorEq, false_and, true_and]
  all_goals (constructor <;> intro h <;> first | omega | exact h.elim)
theorem tail_iff {l : List UInt8} {p k r q : Nat} : tailU l p (k + 1) r = some q ↔ (128 ≤ (l.getD p 0).toNat ∧ (l.getD p 0).toNat < 192) ∧ tailU l (p + 1) k (r * 64 + (l.getD p 0).toNat % 64) = some q := by
  have hc := cont_iff (l.getD p 0).toNat_lt
  rw [tailU, and63_mod, or_six]
  split
  · rename_i h; constructor
    · intro h'; cases h'
    · rintro ⟨h', -⟩; exact absurd (hc.2 h') h
  · rename_i h; have h := hc.1 (Decidable.of_not_not h); exact ⟨fun h' => ⟨h, h'⟩, fun h' => h'.2⟩
theorem tail_0 {l : List UInt8} {p r q : Nat} : tailU l p 0 r = some q ↔ r = q := by rw [tailU]; exact ⟨fun h => Option.some.inj h, fun h => congrArg some h⟩
theorem bytes_2 {n : Nat} {x y : UInt8} (hn : n ≤ 1114111) : bytesR n = [x, y] ↔ (128 ≤ n ∧ n < 2048) ∧ x.toNat = 192 + n / 64 ∧ y.toNat = 128 + n % 64 := by
  unfold bytesR
  by_cases h1 : n < 128
  · rw [if_pos h1]; exact ⟨fun h => absurd (congrArg List.length h) (by simp), fun h => by omega⟩
  · rw [if_neg h1]
    by_cases h2 : n < 2048
    · rw [if_pos h2, List.cons.injEq, List.cons.injEq, byteN_eq (by omega), byteN_eq (by omega)]
      exact ⟨fun h => ⟨by omega, h.1, h.2.1⟩, fun h => ⟨h.2.1, h.2.2, rfl⟩⟩
    · rw [if_neg h2]
      constructor
      · intro h
        split at h <;> exact absurd (congrArg List.length h) (by simp)
      · intro h; omega
theorem bytes_3 {n : Nat} {x y z : UInt8} (hn : n ≤ 1114111) : bytesR n = [x, y, z] ↔ (2048 ≤ n ∧ n < 65536) ∧ x.toNat = 224 + n / 4096 ∧ y.toNat = 128 + n / 64 % 64 ∧ z.toNat = 128 + n % 64 := by
  unfold bytesR
  by_cases h1 : n < 128
  · rw [if_pos h1]; exact ⟨fun h => absurd (congrArg List.length h) (by simp), fun h => by omega⟩
  · rw [if_neg h1]
    by_cases h2 : n < 2048
    · rw [if_pos h2]; exact ⟨fun h => absurd (congrArg List.length h) (by simp), fun h => by omega⟩
    · rw [if_neg h2]
      by_cases h3 : n < 65536
      · rw [if_pos h3, List.cons.injEq, List.cons.injEq, List.cons.injEq, byteN_eq (by omega), byteN_eq (by omega), byteN_eq (by omega)]
        exact ⟨fun h => ⟨by omega, h.1, h.2.1, h.2.2.1⟩, fun h => ⟨h.2.1, h.2.2.1, h.2.2.2, rfl⟩⟩
      · rw [if_neg h3]; exact ⟨fun h => absurd (congrArg List.length h) (by simp), fun h => by omega⟩
theorem bytes_4 {n : Nat} {x y z u : UInt8} (hn : n ≤ 1114111) : bytesR n = [x, y, z, u] ↔ 65536 ≤ n ∧ x.toNat = 240 + n / 262144 ∧ y.toNat = 128 + n / 4096 % 64 ∧ z.toNat = 128 + n / 64 % 64 ∧ u.toNat = 128 + n % 64 := by
  unfold bytesR
  by_cases h1 : n < 128
  · rw [if_pos h1]; exact ⟨fun h => absurd (congrArg List.length h) (by simp), fun h => by omega⟩
  · rw [if_neg h1]
    by_cases h2 : n < 2048
    · rw [if_pos h2]; exact ⟨fun h => absurd (congrArg List.length h) (by simp), fun h => by omega⟩
    · rw [if_neg h2]
      by_cases h3 : n < 65536
      · rw [if_pos h3]; exact ⟨fun h => absurd (congrArg List.length h) (by simp), fun h => by omega⟩
      · rw [if_neg h3, List.cons.injEq, List.cons.injEq, List.cons.injEq, List.cons.injEq, byteN_eq (by omega), byteN_eq (by omega), byteN_eq (by omega), byteN_eq (by omega)]
        exact ⟨fun h => ⟨by omega, h.1, h.2.1, h.2.2.1, h.2.2.2.1⟩, fun h => ⟨h.2.1, h.2.2.1, h.2.2.2.1, h.2.2.2.2, rfl⟩⟩
theorem ok2 {l : List UInt8} {a : Nat} (h : a + 1 < l.length) : okN l a 2 ↔ okD l a 2 := by
  have hv : vN l a 2 = ((l.getD a 0).toNat - 192 : Int) * 64 + ((l.getD (a + 1) 0).toNat : Int) - 128 := rfl
  unfold okN okD
  rw [take_cons (by omega), take_1 h, hv]
  generalize hx : l.getD a 0 = x
  generalize hy : l.getD (a + 1) 0 = y
  have := x.toNat_lt; have := y.toNat_lt
  constructor
  · rintro ⟨h1, h2, h3, h4⟩
    obtain ⟨n, hn⟩ := Int.eq_ofNat_of_zero_le h1
    rw [hn, Int.toNat_natCast] at h3 h4
    rw [bytes_2 (by omega)] at h4
    refine ⟨x.toNat % 32, 128, n, lead_2.2 ⟨by omega, rfl, rfl⟩, tail_iff.2 ⟨by rw [hy]; omega, tail_0.2 (by rw [hy]; omega)⟩, by omega, h3⟩
  · rintro ⟨r, m, q, h1, h2, h3, h4⟩
    obtain ⟨h5, rfl, rfl⟩ := lead_2.1 h1
    obtain ⟨h6, h7⟩ := tail_iff.1 h2
    have h7 := tail_0.1 h7
    rw [hy] at h6 h7
    have hn : ((x.toNat : Int) - 192) * 64 + (y.toNat : Int) - 128 = (q : Int) := by omega
    rw [hn, Int.toNat_natCast]
    exact ⟨by omega, by omega, h4, (bytes_2 (by omega)).2 ⟨by omega, by omega, by omega⟩⟩
theorem may_le {q : Nat} (h : mayB q = true) : q ≤ 1114111 := by unfold mayB at h; simp only [Bool.and_eq_true, decide_eq_true_eq] at h; exact h.1.2
theorem ok3 {l : List UInt8} {a : Nat} (h : a + 2 < l.length) : okN l a 3 ↔ okD l a 3 := by
  have hv : vN l a 3 = ((l.getD a 0).toNat - 224 : Int) * 4096 + ((l.getD (a + 1) 0).toNat - 128 : Int) * 64 + ((l.getD (a + 2) 0).toNat : Int) - 128 := rfl
  unfold okN okD
  rw [take_cons (by omega), take_cons (by omega), take_1 h, hv]
  generalize hx : l.getD a 0 = x
  generalize hy : l.getD (a + 1) 0 = y
  generalize hz : l.getD (a + 1 + 1) 0 = z
  have := x.toNat_lt; have := y.toNat_lt; have := z.toNat_lt
  constructor
  · rintro ⟨h1, h2, h3, h4⟩
    obtain ⟨n, hn⟩ := Int.eq_ofNat_of_zero_le h1
    rw [hn, Int.toNat_natCast] at h3 h4
    rw [bytes_3 (by omega)] at h4
    refine ⟨x.toNat % 16, 2048, n, lead_3.2 ⟨by omega, rfl, rfl⟩, tail_iff.2 ⟨by rw [hy]; omega, tail_iff.2 ⟨by rw [hz]; omega, tail_0.2 (by rw [hy, hz]; omega)⟩⟩, by omega, h3⟩
  · rintro ⟨r, m, q, h1, h2, h3, h4⟩
    obtain ⟨h5, rfl, rfl⟩ := lead_3.1 h1
    obtain ⟨h6, h7⟩ := tail_iff.1 h2
    obtain ⟨h7, h8⟩ := tail_iff.1 h7
    have h8 := tail_0.1 h8
    rw [hy] at h6 h8
    rw [hz] at h7 h8
    have hn : ((x.toNat : Int) - 224) * 4096 + ((y.toNat : Int) - 128) * 64 + (z.toNat : Int) - 128 = (q : Int) := by omega
    rw [hn, Int.toNat_natCast]
    exact ⟨by omega, by omega, h4, (bytes_3 (by omega)).2 ⟨by omega, by omega, by omega, by omega⟩⟩
theorem ok4 {l : List UInt8} {a : Nat} (h : a + 3 < l.length) : okN l a 4 ↔ okD l a 4 := by
  have hv : vN l a 4 = ((l.getD a 0).toNat - 240 : Int) * 262144 + ((l.getD (a + 1) 0).toNat - 128 : Int) * 4096 + ((l.getD (a + 2) 0).toNat - 128 : Int) * 64 + ((l.getD (a + 3) 0).toNat : Int) - 128 := rfl
  unfold okN okD
  rw [take_cons (by omega), take_cons (by omega), take_cons (by omega), take_1 h, hv]
  generalize hx : l.getD a 0 = x
  generalize hy : l.getD (a + 1) 0 = y
  generalize hz : l.getD (a + 1 + 1) 0 = z
  generalize hu : l.getD (a + 1 + 1 + 1) 0 = u
  have := x.toNat_lt; have := y.toNat_lt; have := z.toNat_lt; have := u.toNat_lt
  constructor
  · rintro ⟨h1, h2, h3, h4⟩
    obtain ⟨n, hn⟩ := Int.eq_ofNat_of_zero_le h1
    rw [hn, Int.toNat_natCast] at h3 h4
    rw [bytes_4 (by omega)] at h4
    refine ⟨x.toNat % 8, 65536, n, lead_4.2 ⟨by omega, rfl, rfl⟩, tail_iff.2 ⟨by rw [hy]; omega, tail_iff.2 ⟨by rw [hz]; omega, tail_iff.2 ⟨by rw [hu]; omega, tail_0.2 (by rw [hy, hz, hu]; omega)⟩⟩⟩, by omega, h3⟩
  · rintro ⟨r, m, q, h1, h2, h3, h4⟩
    have hq := may_le h4
    obtain ⟨h5, rfl, rfl⟩ := lead_4.1 h1
    obtain ⟨h6, h7⟩ := tail_iff.1 h2
    obtain ⟨h7, h8⟩ := tail_iff.1 h7
    obtain ⟨h8, h9⟩ := tail_iff.1 h8
    have h9 := tail_0.1 h9
    rw [hy] at h6 h9
    rw [hz] at h7 h9
    rw [hu] at h8 h9
    have hn : ((x.toNat : Int) - 240) * 262144 + ((y.toNat : Int) - 128) * 4096 + ((z.toNat : Int) - 128) * 64 + (u.toNat : Int) - 128 = (q : Int) := by omega
    rw [hn, Int.toNat_natCast]
    exact ⟨by omega, by omega, h4, (bytes_4 (by omega)).2 ⟨by omega, by omega, by omega, by omega, by omega⟩⟩
theorem okN_iff {l : List UInt8} {a n : Nat} (h1 : 1 ≤ n) (h4 : n ≤ 4) (h : a + n ≤ l.length) : okN l a n ↔ okD l a n := by
  obtain rfl | rfl | rfl | rfl : n = 1 ∨ n = 2 ∨ n = 3 ∨ n = 4 := by omega
  · exact ok1 (by omega)
  · exact ok2 (by omega)
  · exact ok3 (by omega)
  · exact ok4 (by omega)
theorem okD_le {l : List UInt8} {a n : Nat} (h : okD l a n) : n ≤ 4 := by
  obtain ⟨r, m, q, h, -⟩ := h
  have := (lead_bound h).1
  omega
theorem decU_found {l : List UInt8} {a n : Nat} (ha : a < l.length) (h1 : 1 ≤ n) (h4 : n ≤ 4) (h : a + n ≤ l.length) (hk : okN l a n) : decU l a = some (a + n) :=
  (decU_iff ha).2 ⟨n, h1, rfl, h, (okN_iff h1 h4 h).1 hk⟩
theorem decU_no {l : List UInt8} {a : Nat} (ha : a < l.length) (h : ∀ n, 1 ≤ n → n ≤ 4 → a + n ≤ l.length → ¬ okN l a n) : decU l a = none := by
  cases hd : decU l a with
  | none => rfl
  | some b =>
    obtain ⟨n, h1, rfl, h3, h5⟩ := (decU_iff ha).1 hd
    exact absurd ((okN_iff h1 (okD_le h5) h3).2 h5) (h n h1 (okD_le h5) h3)
/-! ### Numbers below 0; a literal of bytes (any program) -/
theorem zi_add (t : TypeId) (a b : Int) (h : -9223372036854775808 ≤ a + b ∧ a + b ≤ 9223372036854775807) : Go.binOp .add t (.int .i64 a) (.int .i64 b) = pure (.int .i64 (a + b)) := by
  show pure (Value.int .i64 (IntKind.i64.wrap (a + b))) = _
  rw [IntWalk.i64_in _ h]
theorem zi_sub (t : TypeId) (a b : Int) (h : -9223372036854775808 ≤ a - b ∧ a - b ≤ 9223372036854775807) : Go.binOp .sub t (.int .i64 a) (.int .i64 b) = pure (.int .i64 (a - b)) := by
  show pure (Value.int .i64 (IntKind.i64.wrap (a - b))) = _
  rw [IntWalk.i64_in _ h]
theorem zi_mul (t : TypeId) (a b : Int) (h : -9223372036854775808 ≤ a * b ∧ a * b ≤ 9223372036854775807) : Go.binOp .mul t (.int .i64 a) (.int .i64 b) = pure (.int .i64 (a * b)) := by
  show pure (Value.int .i64 (IntKind.i64.wrap (a * b))) = _
  rw [IntWalk.i64_in _ h]
section
variable {P : Program} {K : Value → World → Prop} {ρ : Slots} {w : World} {d : Option Tmp} {ty : TypeId} {pos : String} {af : Array Edge} {gd : Option (Nat × Bool)}
theorem Yk.lit2 {t e : TypeId} (hr : ∀ (z0 z1 : Int) (w : World), (Instr.buildSlice t 2 #[(0, .int .u8 z0), (1, .int .u8 z1)]).run P w = .ok (.slice (some ⟨w.heap.size, 0, none⟩) 2 2) (w.alloc (.cells #[.int .u8 z0, .int .u8 z1] e)))
    {x0 x1 : Operand} {b0 b1 : UInt8} (h0 : evalR ρ x0 = B8 b0) (h1 : evalR ρ x1 = B8 b1)
    (hk : ∀ v w', NewB e w w' v [b0, b1] → K v w') : Yk P K ((execOp (evalR ρ) ⟨d, .buildSlice t 2 #[(0, x0), (1, x1)], ty, pos, af, gd⟩).run P w) := by
  have hr' : (execOp (evalR ρ) ⟨d, .buildSlice t 2 #[(0, x0), (1, x1)], ty, pos, af, gd⟩).run P w = .ok (.value (.slice (some ⟨w.heap.size, 0, none⟩) 2 2)) (w.alloc (.cells (Lib.byteCells [b0, b1]).toArray e)) := by
    unfold execOp
    simp only [List.map_toArray, List.map_cons, List.map_nil, h0, h1, Sem.run_bind, hr, Result.andThen_ok, Sem.run_pure]
    rfl
  rw [hr']
  exact hk _ _ (newB_lit w e [b0, b1] (by simp))
theorem Yk.lit3 {t e : TypeId} (hr : ∀ (z0 z1 z2 : Int) (w : World), (Instr.buildSlice t 3 #[(0, .int .u8 z0), (1, .int .u8 z1), (2, .int .u8 z2)]).run P w = .ok (.slice (some ⟨w.heap.size, 0, none⟩) 3 3) (w.alloc (.cells #[.int .u8 z0, .int .u8 z1, .int .u8 z2] e)))
    {x0 x1 x2 : Operand} {b0 b1 b2 : UInt8} (h0 : evalR ρ x0 = B8 b0) (h1 : evalR ρ x1 = B8 b1) (h2 : evalR ρ x2 = B8 b2)
    (hk : ∀ v w', NewB e w w' v [b0, b1, b2] → K v w') : Yk P K ((execOp (evalR ρ) ⟨d, .buildSlice t 3 #[(0, x0), (1, x1), (2, x2)], ty, pos, af, gd⟩).run P w) := by
  have hr' : (execOp (evalR ρ) ⟨d, .buildSlice t 3 #[(0, x0), (1, x1), (2, x2)], ty, pos, af, gd⟩).run P w = .ok (.value (.slice (some ⟨w.heap.size, 0, none⟩) 3 3)) (w.alloc (.cells (Lib.byteCells [b0, b1, b2]).toArray e)) := by
    unfold execOp
    simp only [List.map_toArray, List.map_cons, List.map_nil, h0, h1, h2, Sem.run_bind, hr, Result.andThen_ok, Sem.run_pure]
    rfl
  rw [hr']
  exact hk _ _ (newB_lit w e [b0, b1, b2] (by simp))
theorem Yk.lit4 {t e : TypeId} (hr : ∀ (z0 z1 z2 z3 : Int) (w : World), (Instr.buildSlice t 4 #[(0, .int .u8 z0), (1, .int .u8 z1), (2, .int .u8 z2), (3, .int .u8 z3)]).run P w = .ok (.slice (some ⟨w.heap.size, 0, none⟩) 4 4) (w.alloc (.cells #[.int .u8 z0, .int .u8 z1, .int .u8 z2, .int .u8 z3] e)))
    {x0 x1 x2 x3 : Operand} {b0 b1 b2 b3 : UInt8} (h0 : evalR ρ x0 = B8 b0) (h1 : evalR ρ x1 = B8 b1) (h2 : evalR ρ x2 = B8 b2) (h3 : evalR ρ x3 = B8 b3)
    (hk : ∀ v w', NewB e w w' v [b0, b1, b2, b3] → K v w') : Yk P K ((execOp (evalR ρ) ⟨d, .buildSlice t 4 #[(0, x0), (1, x1), (2, x2), (3, x3)], ty, pos, af, gd⟩).run P w) := by
  have hr' : (execOp (evalR ρ) ⟨d, .buildSlice t 4 #[(0, x0), (1, x1), (2, x2), (3, x3)], ty, pos, af, gd⟩).run P w = .ok (.value (.slice (some ⟨w.heap.size, 0, none⟩) 4 4)) (w.alloc (.cells (Lib.byteCells [b0, b1, b2, b3]).toArray e)) := by
    unfold execOp
    simp only [List.map_toArray, List.map_cons, List.map_nil, h0, h1, h2, h3, Sem.run_bind, hr, Result.andThen_ok, Sem.run_pure]
    rfl
  rw [hr']
  exact hk _ _ (newB_lit w e [b0, b1, b2, b3] (by simp))
theorem Yk.lit1S {α : Type} {enc : α → List Value} {t e : TypeId} {x : Operand} {a : α} {u : Value} (hx : evalR ρ x = u) (hu : enc a = [u])
    (hr : ∀ w : World, (Instr.buildSlice t 1 #[(0, u)]).run P w = .ok (.slice (some ⟨w.heap.size, 0, none⟩) 1 1) (w.alloc (.cells #[u] e)))
    (hk : ∀ v w', RG 1 enc w' v [a] → Ext w w' → K v w') : Yk P K ((execOp (evalR ρ) ⟨d, .buildSlice t 1 #[(0, x)], ty, pos, af, gd⟩).run P w) := by
  have hE : Ext w (w.alloc (.cells #[u] e)) := (Below.refl _ _).alloc (Nat.le_refl _) _
  have hb : (w.alloc (.cells #[u] e)).heap[w.heap.size]? = some (.cells ([u] : List Value).toArray e (0, 0)) := heap_alloc_new w _
  refine Yk.value (v := .slice (some ⟨w.heap.size, 0, none⟩) 1 1) (w' := w.alloc (.cells #[u] e)) ?_ (hk _ _ ⟨fun y hy => by rw [List.mem_singleton.1 hy, hu]; rfl, by simp [hu], _, 1, rfl, Nat.le_refl _, by simp [maxLen], (fun h => by cases h), fun q hq j z hz => ?_⟩ hE)
  · unfold execOp
    simp only [List.map_toArray, List.map_cons, List.map_nil, hx, Sem.run_bind, hr, Result.andThen_ok, Sem.run_pure]
  · cases hq
    rw [Addr.add_lit, Nat.zero_add]
    exact cellAt hb (by simpa [hu] using hz)
end
open Go.RowKit
set_option maxRecDepth 100000
theorem mayR_eq (r : Nat) : ((decide (0 ≤ r) && decide (r < 55296)) || (decide (57343 < r) && decide (r ≤ 1114111))) = mayB r := by
 unfold mayB
 rw [Bool.eq_iff_iff]
 simp only [Bool.or_eq_true, Bool.and_eq_true, decide_eq_true_eq]
 omega
theorem and_ff {a b : Bool} (h : (a && b) = false) : a = false ∨ b = false := by cases a <;> simp_all
abbrev runeC (r : Nat) : List Value := [.int .i32 (r : Int)]
theorem rune_one (r : Nat) : ∀ v ∈ runeC r, v.oneCell' = true := by intro v hv; simp only [List.mem_singleton] at hv; subst hv; rfl
theorem wr25_ty21 : Tryd.prog.underlying 21 = some (.int .i32) := by kernel_rfl
theorem wr25_ty3 : Tryd.prog.underlying 3 = some (.int .i64) := by kernel_rfl
theorem wr25_ty5 : Tryd.prog.underlying 5 = some (.int .u8) := by kernel_rfl
theorem wr25_l1_26 (z : Int) (w : World) : (Instr.buildSlice 26 1 #[(0, .int .u8 z)]).run Tryd.prog w = .ok (.slice (some ⟨w.heap.size, 0, none⟩) 1 1) (w.alloc (.cells #[.int .u8 z] 5)) := by kernel_rfl
theorem wr25_l2_26 (z0 z1 : Int) (w : World) : (Instr.buildSlice 26 2 #[(0, .int .u8 z0), (1, .int .u8 z1)]).run Tryd.prog w = .ok (.slice (some ⟨w.heap.size, 0, none⟩) 2 2) (w.alloc (.cells #[.int .u8 z0, .int .u8 z1] 5)) := by kernel_rfl
theorem wr25_l3_26 (z0 z1 z2 : Int) (w : World) : (Instr.buildSlice 26 3 #[(0, .int .u8 z0), (1, .int .u8 z1), (2, .int .u8 z2)]).run Tryd.prog w = .ok (.slice (some ⟨w.heap.size, 0, none⟩) 3 3) (w.alloc (.cells #[.int .u8 z0, .int .u8 z1, .int .u8 z2] 5)) := by kernel_rfl
theorem wr25_l4_26 (z0 z1 z2 z3 : Int) (w : World) : (Instr.buildSlice 26 4 #[(0, .int .u8 z0), (1, .int .u8 z1), (2, .int .u8 z2), (3, .int .u8 z3)]).run Tryd.prog w = .ok (.slice (some ⟨w.heap.size, 0, none⟩) 4 4) (w.alloc (.cells #[.int .u8 z0, .int .u8 z1, .int .u8 z2, .int .u8 z3] 5)) := by kernel_rfl
theorem wr25_ty9 : Tryd.prog.underlying 9 = some (.string) := by kernel_rfl
theorem wr25_pl177 : Plain Tryd.prog 177 := fun _ _ => by kernel_rfl
theorem wr25_pl178 : Plain Tryd.prog 178 := fun _ _ => by kernel_rfl
theorem wr25_ty26 : Tryd.prog.underlying 26 = some (.slice 5) := by kernel_rfl
theorem wr25_pl165 : Plain Tryd.prog 165 := fun _ _ => by kernel_rfl
theorem wr25_lk189 (z : Int) (w : World) : (Instr.buildSlice 189 1 #[(0, .int .i32 z)]).run Tryd.prog w = .ok (.slice (some ⟨w.heap.size, 0, none⟩) 1 1) (w.alloc (.cells #[.int .i32 z] 21)) := by kernel_rfl
theorem wr25_ig21 : ∃ z, (Tryd.prog.info? 21).map (fun i => (i.zero, i.size, i.bytes)) = some (some z, 1, 4) ∧ z.cells.size = 1 := info_ex (by kernel_rfl)
theorem wr25_ty189 : Tryd.prog.underlying 189 = some (.slice 21) := by kernel_rfl
theorem wr25_pl150 : Plain Tryd.prog 150 := fun _ _ => by kernel_rfl
theorem wr25_pl125 : Plain Tryd.prog 125 := fun _ _ => by kernel_rfl
set_option maxHeartbeats 1600000
theorem refMay_any (w : World) (r : Nat) :
  Calls Tryd.prog 177 #[.int .i32 (r : Int)] w fun e w' => e = .returned (.bool (mayB r)) ∧ Ext w w' := by
 refine calls_of_wpF (args := [.int .i32 ((r : Nat) : Int)]) Tryd.func177 rfl 17 rfl (Nat.le_of_ble_eq_true rfl) ?_
 intro ρ0 hb
 have T0 : ρ0 0 = (.int .i32 ((r : Nat) : Int) : Value) := hb.get 0
 clear hb
 have hE := Ext.refl w
 refine sk fun K1 hK1 => (wt (oA rfl (oZ (tN (hK1 _ _ (sk fun K2 hK2 => (wt (oM rfl (oS rfl (Yk.eqI (a := (r : Nat)) (b := (0 : Nat)) T0 rfl (k_geq _ _ _ _) (oM rfl (opsF_mayV (.int .i32 ((r : Nat) : Int)) rfl rfl (gT (vr (.bool (decide ((0) ≤ (r)))) rfl)) (fun hG3 => Yk.move T0 ⟨rfl, rfl⟩) (opsF_mayV (.bool (decide ((r) < (55296)))) rfl rfl (gT (vr (.bool (decide ((0) ≤ (r)))) rfl)) (fun hG4 => Yk.eqI (a := ((r : Nat) : Int)) (b := ((55296 : Nat) : Int)) (mayT (vr (cond ((decide ((0) ≤ (r)))) (.int .i32 ((r : Nat) : Int)) undef) rfl) hG4) (vr (.int .i32 ((55296 : Nat) : Int)) rfl) (k_lss _ .i32 (r) (55296)) ⟨rfl, rfl⟩) (oS rfl (Yk.pickAndN (vr (.bool (decide ((0) ≤ (r)))) rfl) (fun hA => (mayT (vr (cond ((decide ((0) ≤ (r)))) (.bool (decide ((r) < (55296)))) undef) rfl) hA)) (vr (.bool (false)) rfl) fun bb5 hbb6 => (oM rfl (opsF_mayV (.int .i32 ((r : Nat) : Int)) rfl rfl (gF (vr (.bool (bb5)) rfl)) (fun hG7 => Yk.move T0 ⟨rfl, rfl⟩) (opsF_mayV (.bool (decide ((57343) < (r)))) rfl rfl (gF (vr (.bool (bb5)) rfl)) (fun hG8 => Yk.eqI (a := ((r : Nat) : Int)) (b := ((57343 : Nat) : Int)) (mayT (vr (cond (!bb5) (.int .i32 ((r : Nat) : Int)) undef) rfl) hG8) (vr (.int .i32 ((57343 : Nat) : Int)) rfl) (k_gtr _ .i32 (r) (57343)) ⟨rfl, rfl⟩) ?_))))))))))))))))))
 refine opsF_mayV (.bool (decide ((57343) < (r)))) rfl rfl (gF (vr (.bool (bb5)) rfl)) (fun hG9 => Yk.move (mayT (vr (cond (!bb5) (.bool (decide ((57343) < (r)))) undef) rfl) hG9) ⟨rfl, rfl⟩) (opsF_mayV (.int .i32 ((r : Nat) : Int)) rfl rfl (geT (vr (cond (!bb5) (.bool (decide ((57343) < (r)))) undef) rfl)) (fun hG10 => Yk.move T0 ⟨rfl, rfl⟩) (opsF_mayV (.bool (decide ((r) ≤ (1114111)))) rfl rfl (geT (vr (cond (!bb5) (.bool (decide ((57343) < (r)))) undef) rfl)) (fun hG11 => Yk.eqI (a := ((r : Nat) : Int)) (b := ((1114111 : Nat) : Int)) (mayT (vr (cond ((!bb5) && (decide ((57343) < (r)))) (.int .i32 ((r : Nat) : Int)) undef) rfl) hG11) (vr (.int .i32 ((1114111 : Nat) : Int)) rfl) (k_leq _ .i32 (r) (1114111)) ⟨rfl, rfl⟩) (opsF_mayB ((decide ((57343) < (r))) && (decide ((r) ≤ (1114111)))) rfl rfl (gF (vr (.bool (bb5)) rfl)) (fun hG12 => Yk.pickAnd (mayT (vr (cond (!bb5) (.bool (decide ((57343) < (r)))) undef) rfl) hG12) (fun hA => (mayT (vr (cond ((!bb5) && (decide ((57343) < (r)))) (.bool (decide ((r) ≤ (1114111)))) undef) rfl) (and_i hG12 hA))) (vr (.bool (false)) rfl) ⟨rfl, rfl⟩) fun bb13 hbb14 => (oS rfl (Yk.pickOrN (vr (.bool (bb5)) rfl) (vr (.bool (true)) rfl) (fun hA => (mayT (vr (cond (!bb5) (.bool (bb13)) undef) rfl) (not_i hA))) fun bb15 hbb16 => (oA rfl (oZ (tN (hK2 _ _ (wpF_ret (postF_ret (fn := Tryd.f177) _ rfl [.bool (bb15)] (.bool (bb15)) rfl ⟨rfl, trivial⟩ ?_)))))))))))
 subst hbb6 hbb14 hbb16
 exact ⟨by rw [← mayR_eq], hE⟩

theorem refBytes_any (w : World) (r : Nat) (hr : r ≤ 1114111) :
  Calls Tryd.prog 178 #[.int .i32 (r : Int)] w fun e w' => ∃ v, e = .returned v ∧ RB w' v (bytesR r) ∧ Ext w w' := by
 refine calls_of_wpF (args := [.int .i32 ((r : Nat) : Int)]) Tryd.func178 rfl 57 rfl (Nat.le_of_ble_eq_true rfl) ?_
 intro ρ0 hb
 have T0 : ρ0 0 = (.int .i32 ((r : Nat) : Int) : Value) := hb.get 0
 clear hb
 have hE := Ext.refl w
 refine sk fun K1 hK1 => (wt (oA rfl (oZ (tN (hK1 _ _ (sk fun K2 hK2 => (wt (oM rfl (oS rfl (Yk.convI wr25_ty21 wr25_ty3 T0 (wrap_i64 (r) (by omega)) (oA rfl (oZ (tN (hK2 _ _ (sk fun K3 hK3 => (sk fun K4 hK4 => (wt (oM rfl ?_))))))))))))))))))
 refine oS rfl (Yk.eqI (a := (r : Nat)) (b := (128 : Nat)) rfl rfl (k_lss _ _ _ _) (oZ (tN (hK4 _ _ ?_))))
 refine wpF_cond ((r) < (128)) (vr (.bool (decide ((r) < (128)))) rfl) (fun hc0 => ?_) (fun hc0 => ?_)
 ·refine sk fun K5 hK5 => (wt (oM rfl (oS rfl (Yk.convI wr25_ty3 wr25_ty5 (vr (NI r) rfl) (toByte (r)) (oS rfl (Yk.lit1 (b := UInt8.ofNat (r)) wr25_l1_26 (vr (B8 (UInt8.ofNat (r))) rfl) fun v6 w7 hN8 => ?_))))))
  have hE := hE.trans hN8.ext
  have ho9 := hN8.own; clear hN8
  refine oA rfl (oZ (tN (hK5 _ _ (wpF_ret (thenF_ret (postF_ret (fn := Tryd.f178) _ rfl [v6] (v6) rfl ⟨rfl, trivial⟩ ?_))))))
  exact ⟨_, rfl, RB.ofOwn (own_eq ho9 (by unfold bytesR; rw [if_pos hc0])), hE⟩
 refine wpF_skip (tN (hK3 _ _ (sk fun K10 hK10 => (sk fun K11 hK11 => (wt (oM rfl (oS rfl (Yk.eqI (a := (r : Nat)) (b := (2048 : Nat)) rfl rfl (k_lss _ _ _ _) (oZ (tN (hK11 _ _ ?_)))))))))))
 refine wpF_cond ((r) < (2048)) (vr (.bool (decide ((r) < (2048)))) rfl) (fun hc1 => ?_) (fun hc1 => ?_)
 ·refine sk fun K12 hK12 => (wt (oM rfl (oS rfl (Yk.bin (xv := NI r) (yv := NI 64) rfl rfl rfl (i64_quo _ _ _ (by omega) (by omega)) (oS rfl (Yk.bin (xv := NI 192) (yv := NI ((r) / (64))) rfl rfl rfl (i64_add _ _ _ (by omega)) (oS rfl (Yk.convI wr25_ty3 wr25_ty5 (vr (NI ((192) + ((r) / (64)))) rfl) (toByte ((192) + ((r) / (64)))) (oM rfl (oS rfl (Yk.bin (xv := NI r) (yv := NI 64) rfl rfl rfl (i64_rem _ _ _ (by omega)) (oS rfl (Yk.bin (xv := NI 128) (yv := NI ((r) % (64))) rfl rfl rfl (i64_add _ _ _ (by omega)) (oS rfl (Yk.convI wr25_ty3 wr25_ty5 (vr (NI ((128) + ((r) % (64)))) rfl) (toByte ((128) + ((r) % (64)))) (oS rfl (Yk.lit2 (b0 := UInt8.ofNat ((192) + ((r) / (64)))) (b1 := UInt8.ofNat ((128) + ((r) % (64)))) wr25_l2_26 (vr (B8 (UInt8.ofNat ((192) + ((r) / (64))))) rfl) (vr (B8 (UInt8.ofNat ((128) + ((r) % (64))))) rfl) fun v13 w14 hN15 => ?_)))))))))))))))))
  have hE := hE.trans hN15.ext
  have ho16 := hN15.own; clear hN15
  refine oA rfl (oZ (tN (hK12 _ _ (wpF_ret (thenF_ret (postF_ret (fn := Tryd.f178) _ rfl [v13] (v13) rfl ⟨rfl, trivial⟩ ?_))))))
  exact ⟨_, rfl, RB.ofOwn (own_eq ho16 (by unfold bytesR; rw [if_neg hc0, if_pos hc1])), hE⟩
 refine wpF_skip (tN (hK10 _ _ (sk fun K17 hK17 => (sk fun K18 hK18 => (wt (oM rfl (oS rfl (Yk.eqI (a := (r : Nat)) (b := (65536 : Nat)) rfl rfl (k_lss _ _ _ _) (oZ (tN (hK18 _ _ ?_)))))))))))
 refine wpF_cond ((r) < (65536)) (vr (.bool (decide ((r) < (65536)))) rfl) (fun hc2 => ?_) (fun hc2 => ?_)
 ·refine sk fun K19 hK19 => (wt (oM rfl (oS rfl (Yk.bin (xv := NI r) (yv := NI 4096) rfl rfl rfl (i64_quo _ _ _ (by omega) (by omega)) (oS rfl (Yk.bin (xv := NI 224) (yv := NI ((r) / (4096))) rfl rfl rfl (i64_add _ _ _ (by omega)) (oS rfl (Yk.convI wr25_ty3 wr25_ty5 (vr (NI ((224) + ((r) / (4096)))) rfl) (toByte ((224) + ((r) / (4096)))) (oM rfl (oS rfl (Yk.bin (xv := NI r) (yv := NI 64) rfl rfl rfl (i64_quo _ _ _ (by omega) (by omega)) (oS rfl (Yk.bin (xv := NI ((r) / (64))) (yv := NI 64) rfl rfl rfl (i64_rem _ _ _ (by omega)) (oS rfl (Yk.bin (xv := NI 128) (yv := NI (((r) / (64)) % (64))) rfl rfl rfl (i64_add _ _ _ (by omega)) (oS rfl (Yk.convI wr25_ty3 wr25_ty5 (vr (NI ((128) + (((r) / (64)) % (64)))) rfl) (toByte ((128) + (((r) / (64)) % (64)))) (oM rfl (oS rfl (Yk.bin (xv := NI r) (yv := NI 64) rfl rfl rfl (i64_rem _ _ _ (by omega)) (oS rfl (Yk.bin (xv := NI 128) (yv := NI ((r) % (64))) rfl rfl rfl (i64_add _ _ _ (by omega)) (oS rfl (Yk.convI wr25_ty3 wr25_ty5 (vr (NI ((128) + ((r) % (64)))) rfl) (toByte ((128) + ((r) % (64)))) (oS rfl (Yk.lit3 (b0 := UInt8.ofNat ((224) + ((r) / (4096)))) (b1 := UInt8.ofNat ((128) + (((r) / (64)) % (64)))) (b2 := UInt8.ofNat ((128) + ((r) % (64)))) wr25_l3_26 (vr (B8 (UInt8.ofNat ((224) + ((r) / (4096))))) rfl) (vr (B8 (UInt8.ofNat ((128) + (((r) / (64)) % (64))))) rfl) (vr (B8 (UInt8.ofNat ((128) + ((r) % (64))))) rfl) fun v20 w21 hN22 => ?_))))))))))))))))))))))))))
  have hE := hE.trans hN22.ext
  have ho23 := hN22.own; clear hN22
  refine oA rfl (oZ (tN (hK19 _ _ (wpF_ret (thenF_ret (postF_ret (fn := Tryd.f178) _ rfl [v20] (v20) rfl ⟨rfl, trivial⟩ ?_))))))
  exact ⟨_, rfl, RB.ofOwn (own_eq ho23 (by unfold bytesR; rw [if_neg hc0, if_neg hc1, if_pos hc2])), hE⟩
 refine wpF_skip (tN (hK17 _ _ (sk fun K24 hK24 => (wt (oM rfl (oS rfl (Yk.bin (xv := NI r) (yv := NI 262144) rfl rfl rfl (i64_quo _ _ _ (by omega) (by omega)) (oS rfl (Yk.bin (xv := NI 240) (yv := NI ((r) / (262144))) rfl rfl rfl (i64_add _ _ _ (by omega)) (oS rfl (Yk.convI wr25_ty3 wr25_ty5 (vr (NI ((240) + ((r) / (262144)))) rfl) (toByte ((240) + ((r) / (262144)))) (oM rfl (oS rfl (Yk.bin (xv := NI r) (yv := NI 4096) rfl rfl rfl (i64_quo _ _ _ (by omega) (by omega)) (oS rfl (Yk.bin (xv := NI ((r) / (4096))) (yv := NI 64) rfl rfl rfl (i64_rem _ _ _ (by omega)) (oS rfl (Yk.bin (xv := NI 128) (yv := NI (((r) / (4096)) % (64))) rfl rfl rfl (i64_add _ _ _ (by omega)) (oS rfl (Yk.convI wr25_ty3 wr25_ty5 (vr (NI ((128) + (((r) / (4096)) % (64)))) rfl) (toByte ((128) + (((r) / (4096)) % (64)))) (oM rfl (oS rfl (Yk.bin (xv := NI r) (yv := NI 64) rfl rfl rfl (i64_quo _ _ _ (by omega) (by omega)) (oS rfl (Yk.bin (xv := NI ((r) / (64))) (yv := NI 64) rfl rfl rfl (i64_rem _ _ _ (by omega)) ?_)))))))))))))))))))))))))
 refine oS rfl (Yk.bin (xv := NI 128) (yv := NI (((r) / (64)) % (64))) rfl rfl rfl (i64_add _ _ _ (by omega)) (oS rfl (Yk.convI wr25_ty3 wr25_ty5 (vr (NI ((128) + (((r) / (64)) % (64)))) rfl) (toByte ((128) + (((r) / (64)) % (64)))) (oM rfl (oS rfl (Yk.bin (xv := NI r) (yv := NI 64) rfl rfl rfl (i64_rem _ _ _ (by omega)) (oS rfl (Yk.bin (xv := NI 128) (yv := NI ((r) % (64))) rfl rfl rfl (i64_add _ _ _ (by omega)) (oS rfl (Yk.convI wr25_ty3 wr25_ty5 (vr (NI ((128) + ((r) % (64)))) rfl) (toByte ((128) + ((r) % (64)))) (oS rfl (Yk.lit4 (b0 := UInt8.ofNat ((240) + ((r) / (262144)))) (b1 := UInt8.ofNat ((128) + (((r) / (4096)) % (64)))) (b2 := UInt8.ofNat ((128) + (((r) / (64)) % (64)))) (b3 := UInt8.ofNat ((128) + ((r) % (64)))) wr25_l4_26 (vr (B8 (UInt8.ofNat ((240) + ((r) / (262144))))) rfl) (vr (B8 (UInt8.ofNat ((128) + (((r) / (4096)) % (64))))) rfl) (vr (B8 (UInt8.ofNat ((128) + (((r) / (64)) % (64))))) rfl) (vr (B8 (UInt8.ofNat ((128) + ((r) % (64))))) rfl) fun v25 w26 hN27 => ?_))))))))))))
 have hE := hE.trans hN27.ext
 have ho28 := hN27.own; clear hN27
 refine oA rfl (oZ (tN (hK24 _ _ (wpF_ret (postF_ret (fn := Tryd.f178) _ rfl [v25] (v25) rfl ⟨rfl, trivial⟩ ?_)))))
 exact ⟨_, rfl, RB.ofOwn (own_eq ho28 (by unfold bytesR; rw [if_neg hc0, if_neg hc1, if_neg hc2])), hE⟩

theorem refOne_any (w : World) (l : Bs) (a : Nat) (ha : a < l.length) (hl : l.length ≤ 4611686018427387904) :
  Calls Tryd.prog 165 #[St l, NI a] w fun e w' => (∃ r n, e = .returned (.tuple #[.int .i32 ((r : Nat) : Int), NI n]) ∧ (decU l a = if n = 0 then none else some (a + n)) ∧ a + n ≤ l.length) ∧ Ext w w' := by
 refine calls_of_wpF (args := [St (l), NI a]) Tryd.func165 rfl 122 rfl (Nat.le_of_ble_eq_true rfl) ?_
 intro ρ0 hb
 have T0 : ρ0 0 = (St (l) : Value) := hb.get 0
 have T1 : ρ0 1 = (NI a : Value) := hb.get 1
 clear hb
 have hE := Ext.refl w
 refine sk fun K1 hK1 => (wt (oA rfl (oA rfl (oZ (tN (hK1 _ _ (sk fun K2 hK2 => (sk fun K3 hK3 => (wt (oA rfl (oL_ [(0, St (l)), (1, NI a), (4, .int .i32 ((0 : Nat) : Int)), (5, NI 0), (6, NI 1)] ⟨T0, T1, rfl, rfl, rfl, trivial⟩ fun ρ4 ⟨T0, T1, T4, T5, T6, _⟩ => (tN (hK3 _ _ (wpF_block (wpF_loop (fun (ρ : Slots) (wz : World) => ∃ n : Nat, ρ 0 = (St (l) : Value) ∧ ρ 1 = (NI a : Value) ∧ ρ 6 = (NI n : Value) ∧ Ext w wz ∧ (1 ≤ n) ∧ (n ≤ 5) ∧ (∀ m, 1 ≤ m → m < n → a + m ≤ l.length → ¬ okN l a m) ∧ True) (fun ρ _ => 6 - (intOf (ρ 6)).toNat) ⟨1, T0, T1, T6, hE, Nat.le_refl _, by omega, fun m h1 h2 => by omega, trivial⟩ ?_)))))))))))))))
 clear hE
 rintro ρ5 w6 ⟨n, T0, T1, T6, hE, hn1, hn5, hno, -⟩
 have q6 := T6
 refine sk fun K7 hK7 => (sk fun K8 hK8 => (wt (oM rfl (oS rfl (Yk.eqI (a := (n : Nat)) (b := (4 : Nat)) T6 rfl (k_leq _ _ _ _) (oM rfl (opsF_mayV (NI n) rfl rfl (gT (vr (.bool (decide ((n) ≤ (4)))) rfl)) (fun hG9 => Yk.move T6 ⟨rfl, rfl⟩) (opsF_mayV (St (l)) rfl rfl (gT (vr (.bool (decide ((n) ≤ (4)))) rfl)) (fun hG10 => Yk.move T0 ⟨rfl, rfl⟩) (opsF_mayV (NI l.length) rfl rfl (gT (vr (.bool (decide ((n) ≤ (4)))) rfl)) (fun hG11 => Yk.lenSt (l := l) wr25_ty9 (mayT (vr (cond ((decide ((n) ≤ (4)))) (St (l)) undef) rfl) hG11) ⟨rfl, rfl⟩) (opsF_mayV (NI a) rfl rfl (gT (vr (.bool (decide ((n) ≤ (4)))) rfl)) (fun hG12 => Yk.move T1 ⟨rfl, rfl⟩) (opsF_mayV (NI ((l.length) - (a))) rfl rfl (gT (vr (.bool (decide ((n) ≤ (4)))) rfl)) (fun hG13 => Yk.bin (xv := NI l.length) (yv := NI a) (mayT (vr (cond ((decide ((n) ≤ (4)))) (NI l.length) undef) rfl) hG13) (mayT (vr (cond ((decide ((n) ≤ (4)))) (NI a) undef) rfl) hG13) rfl (i64_sub _ (l.length) (a) (by omega) (by omega)) ⟨rfl, rfl⟩) (opsF_mayV (.bool (decide ((n) ≤ ((l.length) - (a))))) rfl rfl (gT (vr (.bool (decide ((n) ≤ (4)))) rfl)) (fun hG14 => Yk.eqI (a := ((n : Nat) : Int)) (b := (((l.length) - (a) : Nat) : Int)) (mayT (vr (cond ((decide ((n) ≤ (4)))) (NI n) undef) rfl) hG14) (mayT (vr (cond ((decide ((n) ≤ (4)))) (NI ((l.length) - (a))) undef) rfl) hG14) (k_leq _ .i64 (n) ((l.length) - (a))) ⟨rfl, rfl⟩) (oS rfl (Yk.pickAndN (vr (.bool (decide ((n) ≤ (4)))) rfl) (fun hA => (mayT (vr (cond ((decide ((n) ≤ (4)))) (.bool (decide ((n) ≤ ((l.length) - (a))))) undef) rfl) hA)) (vr (.bool (false)) rfl) fun bb15 hbb16 => (oZ (tN (hK8 _ _ ?_)))))))))))))))))
 refine wpF_condB (bb15) (vr (.bool (bb15)) rfl) (fun hc0 => ?_) (fun hc0 => ?_)
 ·subst hbb16
  have hb : n ≤ 4 ∧ n ≤ l.length - a := by simpa using hc0
  have hx0 := (l.getD a 0).toNat_lt
  have hx1 := (l.getD (a + 1) 0).toNat_lt
  have hx2 := (l.getD (a + 2) 0).toNat_lt
  have hx3 := (l.getD (a + 3) 0).toNat_lt
  refine wpF_skip (tN (hK7 _ _ (sk fun K17 hK17 => (wpF_block (sk fun K18 hK18 => (wt (oA rfl (oZ (tN (hK18 _ _ (sk fun K19 hK19 => ?_)))))))))))
  have hJK19 : ∀ (ρ : Slots) (wz : World), (∃ v : Int, ρ 0 = (St (l) : Value) ∧ ρ 1 = (NI a : Value) ∧ ρ 6 = (NI n : Value) ∧ ρ 7 = (.int .i64 (v : Int) : Value) ∧ Ext w wz ∧ (v = vN l a n) ∧ True) → K19 ρ wz := by
   clear hE
   rintro ρ21 w22 ⟨v, T0, T1, T6, T7, hE, hv, -⟩
   refine hK19 _ _ ?_
   by_cases q1 : v < 0
   ·have hnk : ¬ okN l a n := fun h => by have := h.1; omega
    refine sk fun K23 hK23 => (sk fun K24 hK24 => (wt (oM rfl (oS rfl (Yk.eqI T7 (vr (NI 0) rfl) (z_lss _ .i64 (v : Int) ((0 : Nat) : Int)) (oM rfl (oN (d := 98) rfl rfl rfl (vr (.bool (true)) (congrArg Value.bool (decide_eq_true (q1)))) rfl (oN (d := 98) rfl rfl rfl (vr (.bool (true)) (congrArg Value.bool (decide_eq_true (q1)))) rfl (oS rfl (Yk.pickT (vr (.bool (true)) (congrArg Value.bool (decide_eq_true (q1)))) (vr (.bool (true)) rfl) (oM rfl (oN (d := 102) rfl rfl rfl (vr (.bool (true)) rfl) rfl (oN (d := 102) rfl rfl rfl (vr (.bool (true)) rfl) rfl (oN (d := 102) rfl rfl rfl (vr (.bool (true)) rfl) rfl (oN (d := 102) rfl rfl rfl (vr (.bool (true)) rfl) rfl (oS rfl (Yk.pickT (vr (.bool (true)) rfl) (vr (.bool (true)) rfl) (oZ ?_))))))))))))))))))
    refine tN (hK24 _ _ (wpF_true (vr (.bool (true)) rfl) (wpF_exit (thenF_exit (inBlockF_hit (tN (hK17 _ _ (wt (oM rfl (oS rfl (Yk.bin (xv := NI n) (yv := NI 1) T6 rfl rfl (i64_add _ _ _ (by omega)) (oA rfl (oL_ [(0, St (l)), (1, NI a), (6, NI ((n) + (1))), (7, .int .i64 (v : Int)), (107, .bool (true))] ⟨T0, T1, rfl, T7, rfl, trivial⟩ fun ρ25 ⟨T0, T1, T6, T7, T107, _⟩ => (tN (And.intro ⟨n + 1, T0, T1, T6, hE, by omega, by omega, fun m h1 h2 h3 => (Nat.lt_succ_iff_lt_or_eq.1 h2).elim (fun h => hno m h1 h h3) (fun h => h ▸ hnk), trivial⟩ ?_)))))))))))))))
    show 6 - (intOf (ρ25 6)).toNat < 6 - (intOf (ρ5 6)).toNat
    rw [T6, q6]
    simp only [intOf, Int.toNat_natCast]; omega
   by_cases q2 : 1114111 < v
   ·have hnk : ¬ okN l a n := fun h => by have := h.2.1; omega
    refine sk fun K26 hK26 => (sk fun K27 hK27 => (wt (oM rfl (oS rfl (Yk.eqI T7 (vr (NI 0) rfl) (z_lss _ .i64 (v : Int) ((0 : Nat) : Int)) (oM rfl (oY (d := 98) rfl rfl (vr (.bool (false)) (congrArg Value.bool (decide_eq_false (q1)))) (Yk.move T7 (oY (d := 98) rfl rfl (vr (.bool (false)) (congrArg Value.bool (decide_eq_false (q1)))) (Yk.eqI (vr (.int .i64 (v : Int)) rfl) (vr (NI 1114111) rfl) (z_gtr _ .i64 (v : Int) ((1114111 : Nat) : Int)) (oS rfl (Yk.pickF (vr (.bool (false)) (congrArg Value.bool (decide_eq_false (q1)))) (vr (.bool (true)) (congrArg Value.bool (decide_eq_true (q2)))) (oM rfl (oN (d := 102) rfl rfl rfl (vr (.bool (true)) rfl) rfl (oN (d := 102) rfl rfl rfl (vr (.bool (true)) rfl) rfl (oN (d := 102) rfl rfl rfl (vr (.bool (true)) rfl) rfl (oN (d := 102) rfl rfl rfl (vr (.bool (true)) rfl) rfl (oS rfl (Yk.pickT (vr (.bool (true)) rfl) (vr (.bool (true)) rfl) (oZ ?_))))))))))))))))))))
    refine tN (hK27 _ _ (wpF_true (vr (.bool (true)) rfl) (wpF_exit (thenF_exit (inBlockF_hit (tN (hK17 _ _ (wt (oM rfl (oS rfl (Yk.bin (xv := NI n) (yv := NI 1) T6 rfl rfl (i64_add _ _ _ (by omega)) (oA rfl (oL_ [(0, St (l)), (1, NI a), (6, NI ((n) + (1))), (7, .int .i64 (v : Int)), (107, .bool (true))] ⟨T0, T1, rfl, T7, rfl, trivial⟩ fun ρ28 ⟨T0, T1, T6, T7, T107, _⟩ => (tN (And.intro ⟨n + 1, T0, T1, T6, hE, by omega, by omega, fun m h1 h2 h3 => (Nat.lt_succ_iff_lt_or_eq.1 h2).elim (fun h => hno m h1 h h3) (fun h => h ▸ hnk), trivial⟩ ?_)))))))))))))))
    show 6 - (intOf (ρ28 6)).toNat < 6 - (intOf (ρ5 6)).toNat
    rw [T6, q6]
    simp only [intOf, Int.toNat_natCast]; omega
   obtain ⟨k, rfl⟩ := Int.eq_ofNat_of_zero_le (Int.not_lt.1 q1)
   refine sk fun K29 hK29 => (sk fun K30 hK30 => (wt (oM rfl (oS rfl (Yk.eqI (a := (k : Nat)) (b := (0 : Nat)) T7 rfl (k_lss _ _ _ _) (oM rfl (oY (d := 98) rfl rfl (vr (.bool (false)) (congrArg Value.bool (decide_eq_false (by omega)))) (Yk.move T7 (oY (d := 98) rfl rfl (vr (.bool (false)) (congrArg Value.bool (decide_eq_false (by omega)))) (Yk.eqI (a := (k : Nat)) (b := (1114111 : Nat)) rfl rfl (k_gtr _ _ _ _) (oS rfl (Yk.pickF (vr (.bool (false)) (congrArg Value.bool (decide_eq_false (by omega)))) (vr (.bool (false)) (congrArg Value.bool (decide_eq_false (by omega)))) (oM rfl (oY (d := 102) rfl rfl (vr (.bool (false)) rfl) (Yk.move T7 (oY (d := 102) rfl rfl (vr (.bool (false)) rfl) (Yk.convI wr25_ty3 wr25_ty21 (vr (NI k) rfl) (wrap_i32 (k) (by omega)) (oY (d := 102) rfl rfl (vr (.bool (false)) rfl) (Yk.callA1 wr25_pl177 (vr (.int .i32 ((k : Nat) : Int)) rfl) ((refMay_any _ k).mono ?_))))))))))))))))))))
   rintro e w32 ⟨rfl, hx31⟩
   refine ⟨_, rfl, ?_⟩
   have hE := hE.trans hx31
   refine oY (d := 102) rfl rfl (vr (.bool (false)) rfl) (Yk.notB (vr (.bool (mayB k)) rfl) (oS rfl (Yk.pickF (vr (.bool (false)) rfl) (vr (.bool (!(mayB k))) rfl) (oZ (tN (hK30 _ _ ?_))))))
   refine wpF_condB (!(mayB k)) (vr (.bool (!(mayB k))) rfl) (fun hc5 => ?_) (fun hc5 => ?_)
   ·have hm : mayB k = false := by simpa using hc5
    have hnk : ¬ okN l a n := fun h => by have h3 := h.2.2.1; rw [← hv, Int.toNat_natCast, hm] at h3; cases h3
    refine wpF_exit (thenF_exit (inBlockF_hit (tN (hK17 _ _ (wt (oM rfl (oS rfl (Yk.bin (xv := NI n) (yv := NI 1) T6 rfl rfl (i64_add _ _ _ (by omega)) (oA rfl (oL_ [(0, St (l)), (1, NI a), (6, NI ((n) + (1))), (7, NI k)] ⟨T0, T1, rfl, T7, trivial⟩ fun ρ33 ⟨T0, T1, T6, T7, _⟩ => (tN (And.intro ⟨n + 1, T0, T1, T6, hE, by omega, by omega, fun m h1 h2 h3 => (Nat.lt_succ_iff_lt_or_eq.1 h2).elim (fun h => hno m h1 h h3) (fun h => h ▸ hnk), trivial⟩ ?_))))))))))))
    show 6 - (intOf (ρ33 6)).toNat < 6 - (intOf (ρ5 6)).toNat
    rw [T6, q6]
    simp only [intOf, Int.toNat_natCast]; omega
   have hm : mayB k = true := by simpa using hc5
   refine wpF_skip (tN (hK29 _ _ (sk fun K34 hK34 => ?_)))
   refine wpF_draw [Is (NI k), Is (.int .i32 ((k : Nat) : Int)), fun x w' => RB w' x (bytesR k), Is (St (bytesR k)), Is (St (l)), Is (NI a), Is (NI a), Is (NI n), Is (NI ((a) + (n))), Is (St ((l.drop (a)).take (((a) + (n)) - (a)))), Is (.bool (decide ((bytesR k : List UInt8) = ((l.drop (a)).take (((a) + (n)) - (a)) : List UInt8))))] (by kernel_rfl) [108, 109, 110, 111, 112, 113, 114, 115, 116, 117, 118] (by kernel_rfl) (by kernel_rfl) (si2 ⟨(fun _ _ _ h k => RB.keep h k), (si8 trivial)⟩) ?hs1015 ?hQ1015
   case hs1015 =>
    refine ⟨?_, ?_, ?_, ?_, ?_, ?_, ?_, ?_, ?_, ?_, ?_, trivial⟩
    ·refine stepN rfl fun σ w1 hC h => ?_
     have e7 := (eqo (h 7 (by decide))).trans T7
     exact Yk.move e7 ⟨Ext.refl _, rfl⟩
    ·refine stepN rfl fun σ w1 hC h => ?_
     have e108 := eqo (h 108 (by decide))
     exact Yk.convI wr25_ty3 wr25_ty21 e108 (wrap_i32 (k) (by omega)) ⟨Ext.refl _, rfl⟩
    ·refine stepN rfl fun σ w1 hC h => ?_
     have e109 := eqo (h 109 (by decide))
     refine Yk.callA1 wr25_pl178 e109 ((refBytes_any _ k (by omega)).mono ?_)
     rintro e w2 ⟨v, rfl, hR, hx⟩
     exact ⟨_, rfl, hx, hR⟩
    ·refine stepN rfl fun σ w1 hC h => ?_
     have e110 : (fun x w' => RB w' x (bytesR k)) (σ 110) w1 := h 110 (by decide)
     exact Yk.convRB wr25_ty26 wr25_ty5 wr25_ty9 e110 ⟨Ext.refl _, rfl⟩
    ·refine stepN rfl fun σ w1 hC h => ?_
     have e0 := (eqo (h 0 (by decide))).trans T0
     exact Yk.move e0 ⟨Ext.refl _, rfl⟩
    ·refine stepN rfl fun σ w1 hC h => ?_
     have e1 := (eqo (h 1 (by decide))).trans T1
     exact Yk.move e1 ⟨Ext.refl _, rfl⟩
    ·refine stepN rfl fun σ w1 hC h => ?_
     have e1 := (eqo (h 1 (by decide))).trans T1
     exact Yk.move e1 ⟨Ext.refl _, rfl⟩
    ·refine stepN rfl fun σ w1 hC h => ?_
     have e6 := (eqo (h 6 (by decide))).trans T6
     exact Yk.move e6 ⟨Ext.refl _, rfl⟩
    ·refine stepN rfl fun σ w1 hC h => ?_
     have e114 := eqo (h 114 (by decide))
     have e115 := eqo (h 115 (by decide))
     exact Yk.bin (xv := NI a) (yv := NI n) e114 e115 rfl (i64_add _ _ _ (by omega)) ⟨Ext.refl _, rfl⟩
    ·refine stepN rfl fun σ w1 hC h => ?_
     have e112 := eqo (h 112 (by decide))
     have e113 := eqo (h 113 (by decide))
     have e116 := eqo (h 116 (by decide))
     exact Yk.sliceSt (l := l) wr25_ty9 (a) ((a) + (n)) e112 (.inr ⟨.i64, congrArg some e113⟩) (.inr ⟨.i64, congrArg some e116⟩) (by omega) (by omega) ⟨Ext.refl _, rfl⟩
    ·refine stepN rfl fun σ w1 hC h => ?_
     have e111 := eqo (h 111 (by decide))
     have e117 := eqo (h 117 (by decide))
     exact Yk.eqSt (l := bytesR k) (m := (l.drop (a)).take (((a) + (n)) - (a))) (.inl rfl) e111 e117 (decide ((bytesR k : List UInt8) = ((l.drop (a)).take (((a) + (n)) - (a)) : List UInt8))) rfl ⟨Ext.refl _, rfl⟩
   intro ρ35 w36 hx37 he hf
   obtain ⟨-, -, -, -, -, -, -, -, -, -, k118, -⟩ := hf
   obtain ⟨T0, T1, T6, T7, -⟩ := he.hold [(0, _), (1, _), (6, _), (7, _)] ⟨T0, T1, T6, T7, trivial⟩ rfl
   clear he
   have hE := hE.trans hx37
   have T118 : ρ35 118 = .bool (decide ((bytesR k : List UInt8) = ((l.drop (a)).take (((a) + (n)) - (a)) : List UInt8))) := k118
   clear k118
   refine tN (hK34 _ _ ?_)
   refine wpF_cond ((bytesR k : List UInt8) = ((l.drop (a)).take (((a) + (n)) - (a)) : List UInt8)) T118 (fun hc6 => ?_) (fun hc6 => ?_)
   ·refine sk fun K38 hK38 => (wt (oM rfl (oS rfl (Yk.convI wr25_ty3 wr25_ty21 T7 (wrap_i32 (k) (by omega)) (oM rfl (oA rfl (oA rfl (oZ (tN (hK38 _ _ (wpF_ret (inBlockF_ret (thenF_ret (thenF_ret (inBlockF_ret (thenF_ret (postF_ret (fn := Tryd.f165) _ rfl [.int .i32 ((k : Nat) : Int), NI n] (.tuple #[.int .i32 ((k : Nat) : Int), NI n]) rfl ⟨rfl, T6, trivial⟩ ?_)))))))))))))))))
    exact ⟨⟨_, n, rfl, by rw [if_neg (by omega)]; exact decU_found ha hn1 hb.1 (by have := hb.2; omega) ⟨by omega, by omega, by rw [← hv, Int.toNat_natCast]; exact hm, by rw [← hv, Int.toNat_natCast]; exact hc6.trans (by rw [Nat.add_sub_cancel_left])⟩, by have := hb.2; omega⟩, hE⟩
   have hnk : ¬ okN l a n := fun h => hc6 (by have h4 := h.2.2.2; rw [← hv, Int.toNat_natCast] at h4; rw [h4, Nat.add_sub_cancel_left])
   refine wpF_skip (bN (tN (hK17 _ _ (wt (oM rfl (oS rfl (Yk.bin (xv := NI n) (yv := NI 1) T6 rfl rfl (i64_add _ _ _ (by omega)) (oA rfl (oL_ [(0, St (l)), (1, NI a), (6, NI ((n) + (1))), (7, NI k)] ⟨T0, T1, rfl, T7, trivial⟩ fun ρ39 ⟨T0, T1, T6, T7, _⟩ => (tN (And.intro ⟨n + 1, T0, T1, T6, hE, by omega, by omega, fun m h1 h2 h3 => (Nat.lt_succ_iff_lt_or_eq.1 h2).elim (fun h => hno m h1 h h3) (fun h => h ▸ hnk), trivial⟩ ?_)))))))))))
   show 6 - (intOf (ρ39 6)).toNat < 6 - (intOf (ρ5 6)).toNat
   rw [T6, q6]
   simp only [intOf, Int.toNat_natCast]; omega
  clear hK19
  refine sk fun K40 hK40 => (wt (oM rfl (oZ (tN (hK40 _ _ (wpF_block (sk fun K41 hK41 => (wt (oS rfl (Yk.eqI (a := (n : Nat)) (b := (1 : Nat)) T6 rfl (k_eql _ _ _ _) (oA rfl (oZ (tN (hK41 _ _ ?_))))))))))))))
  refine wpF_cond ((n : Nat) = (1)) (vr (.bool (decide ((n : Nat) = (1)))) rfl) (fun hc1 => ?_) (fun hc1 => ?_)
  ·refine wt (oM rfl (oM rfl (oS rfl (Yk.idxSt (l := l) (i := a) wr25_ty9 T0 T1 (by omega) (oS rfl (Yk.convI wr25_ty5 wr25_ty3 (vr (B8 (l.getD (a) 0)) rfl) (ofByte .i64 (l.getD (a) 0) (fun n hn => wrap_i64 n (by omega))) (oA rfl (oL_ [(0, St (l)), (1, NI a), (6, NI n), (7, NI ((l.getD (a) 0).toNat)), (20, NI n)] ⟨T0, T1, T6, rfl, T6, trivial⟩ fun ρ42 ⟨T0, T1, T6, T7, T20, _⟩ => (bN ?_)))))))))
   exact tN (hJK19 _ _ ⟨(((l.getD (a) 0).toNat : Nat) : Int), T0, T1, T6, T7, hE, by rw [show n = 1 from hc1]; rfl, trivial⟩)
  refine sk fun K43 hK43 => (wt (oS rfl (Yk.eqI (a := (n : Nat)) (b := (2 : Nat)) T6 rfl (k_eql _ _ _ _) (oA rfl (oZ (tN (hK43 _ _ ?_)))))))
  refine wpF_cond ((n : Nat) = (2)) (vr (.bool (decide ((n : Nat) = (2)))) rfl) (fun hc2 => ?_) (fun hc2 => ?_)
  ·refine wpF_draw [Is (St (l)), Is (NI a), Is (B8 (l.getD (a) 0)), Is (NI ((l.getD (a) 0).toNat)), Is (.int .i64 ((((((l.getD (a) 0).toNat : Nat) : Int)) - (((192 : Nat) : Int))) : Int)), Is (.int .i64 ((((((((l.getD (a) 0).toNat : Nat) : Int)) - (((192 : Nat) : Int)))) * (((64 : Nat) : Int))) : Int)), Is (St (l)), Is (NI a), Is (NI ((a) + (1))), Is (B8 (l.getD ((a) + (1)) 0)), Is (NI ((l.getD ((a) + (1)) 0).toNat)), Is (.int .i64 ((((((((((l.getD (a) 0).toNat : Nat) : Int)) - (((192 : Nat) : Int)))) * (((64 : Nat) : Int)))) + ((((l.getD ((a) + (1)) 0).toNat : Nat) : Int))) : Int)), Is (.int .i64 ((((((((((((l.getD (a) 0).toNat : Nat) : Int)) - (((192 : Nat) : Int)))) * (((64 : Nat) : Int)))) + ((((l.getD ((a) + (1)) 0).toNat : Nat) : Int)))) - (((128 : Nat) : Int))) : Int)), Is (.int .i64 ((((((((((((l.getD (a) 0).toNat : Nat) : Int)) - (((192 : Nat) : Int)))) * (((64 : Nat) : Int)))) + ((((l.getD ((a) + (1)) 0).toNat : Nat) : Int)))) - (((128 : Nat) : Int))) : Int))] (by kernel_rfl) [29, 30, 31, 32, 33, 34, 35, 36, 37, 38, 39, 40, 41, 7] (by kernel_rfl) (by kernel_rfl) (si2 (si12 trivial)) ?hs2009 ?hQ2009
   case hs2009 =>
    refine ⟨?_, ?_, ?_, ?_, ?_, ?_, ?_, ?_, ?_, ?_, ?_, ?_, ?_, ?_, trivial⟩
    ·refine stepN rfl fun σ w1 hC h => ?_
     have e0 := (eqo (h 0 (by decide))).trans T0
     exact Yk.move e0 ⟨Ext.refl _, rfl⟩
    ·refine stepN rfl fun σ w1 hC h => ?_
     have e1 := (eqo (h 1 (by decide))).trans T1
     exact Yk.move e1 ⟨Ext.refl _, rfl⟩
    ·refine stepN rfl fun σ w1 hC h => ?_
     have e29 := eqo (h 29 (by decide))
     have e30 := eqo (h 30 (by decide))
     exact Yk.idxSt (l := l) (i := a) wr25_ty9 e29 e30 (by omega) ⟨Ext.refl _, rfl⟩
    ·refine stepN rfl fun σ w1 hC h => ?_
     have e31 := eqo (h 31 (by decide))
     exact Yk.convI wr25_ty5 wr25_ty3 e31 (ofByte .i64 (l.getD (a) 0) (fun n hn => wrap_i64 n (by omega))) ⟨Ext.refl _, rfl⟩
    ·refine stepN rfl fun σ w1 hC h => ?_
     have e32 := eqo (h 32 (by decide))
     exact Yk.bin (xv := .int .i64 ((((l.getD (a) 0).toNat : Nat) : Int))) (yv := .int .i64 (((192 : Nat) : Int))) e32 rfl rfl (zi_sub _ ((((l.getD (a) 0).toNat : Nat) : Int)) (((192 : Nat) : Int)) (by omega)) ⟨Ext.refl _, rfl⟩
    ·refine stepN rfl fun σ w1 hC h => ?_
     have e33 := eqo (h 33 (by decide))
     exact Yk.bin (xv := .int .i64 ((((((l.getD (a) 0).toNat : Nat) : Int)) - (((192 : Nat) : Int))))) (yv := .int .i64 (((64 : Nat) : Int))) e33 rfl rfl (zi_mul _ ((((((l.getD (a) 0).toNat : Nat) : Int)) - (((192 : Nat) : Int)))) (((64 : Nat) : Int)) (by omega)) ⟨Ext.refl _, rfl⟩
    ·refine stepN rfl fun σ w1 hC h => ?_
     have e0 := (eqo (h 0 (by decide))).trans T0
     exact Yk.move e0 ⟨Ext.refl _, rfl⟩
    ·refine stepN rfl fun σ w1 hC h => ?_
     have e1 := (eqo (h 1 (by decide))).trans T1
     exact Yk.move e1 ⟨Ext.refl _, rfl⟩
    ·refine stepN rfl fun σ w1 hC h => ?_
     have e36 := eqo (h 36 (by decide))
     exact Yk.bin (xv := NI a) (yv := NI 1) e36 rfl rfl (i64_add _ _ _ (by omega)) ⟨Ext.refl _, rfl⟩
    ·refine stepN rfl fun σ w1 hC h => ?_
     have e35 := eqo (h 35 (by decide))
     have e37 := eqo (h 37 (by decide))
     exact Yk.idxSt (l := l) (i := (a) + (1)) wr25_ty9 e35 e37 (by omega) ⟨Ext.refl _, rfl⟩
    ·refine stepN rfl fun σ w1 hC h => ?_
     have e38 := eqo (h 38 (by decide))
     exact Yk.convI wr25_ty5 wr25_ty3 e38 (ofByte .i64 (l.getD ((a) + (1)) 0) (fun n hn => wrap_i64 n (by omega))) ⟨Ext.refl _, rfl⟩
    ·refine stepN rfl fun σ w1 hC h => ?_
     have e34 := eqo (h 34 (by decide))
     have e39 := eqo (h 39 (by decide))
     exact Yk.bin (xv := .int .i64 ((((((((l.getD (a) 0).toNat : Nat) : Int)) - (((192 : Nat) : Int)))) * (((64 : Nat) : Int))))) (yv := .int .i64 ((((l.getD ((a) + (1)) 0).toNat : Nat) : Int))) e34 e39 rfl (zi_add _ ((((((((l.getD (a) 0).toNat : Nat) : Int)) - (((192 : Nat) : Int)))) * (((64 : Nat) : Int)))) ((((l.getD ((a) + (1)) 0).toNat : Nat) : Int)) (by omega)) ⟨Ext.refl _, rfl⟩
    ·refine stepN rfl fun σ w1 hC h => ?_
     have e40 := eqo (h 40 (by decide))
     exact Yk.bin (xv := .int .i64 ((((((((((l.getD (a) 0).toNat : Nat) : Int)) - (((192 : Nat) : Int)))) * (((64 : Nat) : Int)))) + ((((l.getD ((a) + (1)) 0).toNat : Nat) : Int))))) (yv := .int .i64 (((128 : Nat) : Int))) e40 rfl rfl (zi_sub _ ((((((((((l.getD (a) 0).toNat : Nat) : Int)) - (((192 : Nat) : Int)))) * (((64 : Nat) : Int)))) + ((((l.getD ((a) + (1)) 0).toNat : Nat) : Int)))) (((128 : Nat) : Int)) (by omega)) ⟨Ext.refl _, rfl⟩
    ·refine stepN rfl fun σ w1 hC h => ?_
     have e41 := eqo (h 41 (by decide))
     exact Yk.assign e41 ⟨Ext.refl _, rfl⟩
   intro ρ44 w45 hx46 he hf
   obtain ⟨-, -, -, -, -, -, -, -, -, -, -, -, -, k7, -⟩ := hf
   obtain ⟨T0, T1, T6, T20, -⟩ := he.hold [(0, _), (1, _), (6, _), (20, _)] ⟨T0, T1, T6, T6, trivial⟩ rfl
   clear he
   have hE := hE.trans hx46
   have T7 : ρ44 7 = .int .i64 ((((((((((((l.getD (a) 0).toNat : Nat) : Int)) - (((192 : Nat) : Int)))) * (((64 : Nat) : Int)))) + ((((l.getD ((a) + (1)) 0).toNat : Nat) : Int)))) - (((128 : Nat) : Int))) : Int) := k7
   clear k7
   refine bN ?_
   exact tN (hJK19 _ _ ⟨(((((((((((l.getD (a) 0).toNat : Nat) : Int)) - (((192 : Nat) : Int)))) * (((64 : Nat) : Int)))) + ((((l.getD ((a) + (1)) 0).toNat : Nat) : Int)))) - (((128 : Nat) : Int))), T0, T1, T6, T7, hE, by rw [show n = 2 from hc2]; rfl, trivial⟩)
  refine sk fun K47 hK47 => (wt (oS rfl (Yk.eqI (a := (n : Nat)) (b := (3 : Nat)) T6 rfl (k_eql _ _ _ _) (oA rfl (oZ (tN (hK47 _ _ ?_)))))))
  refine wpF_cond ((n : Nat) = (3)) (vr (.bool (decide ((n : Nat) = (3)))) rfl) (fun hc3 => ?_) (fun hc3 => ?_)
  ·refine wpF_draw [Is (St (l)), Is (NI a), Is (B8 (l.getD (a) 0)), Is (NI ((l.getD (a) 0).toNat)), Is (.int .i64 ((((((l.getD (a) 0).toNat : Nat) : Int)) - (((224 : Nat) : Int))) : Int)), Is (.int .i64 ((((((((l.getD (a) 0).toNat : Nat) : Int)) - (((224 : Nat) : Int)))) * (((4096 : Nat) : Int))) : Int)), Is (St (l)), Is (NI a), Is (NI ((a) + (1))), Is (B8 (l.getD ((a) + (1)) 0)), Is (NI ((l.getD ((a) + (1)) 0).toNat)), Is (.int .i64 ((((((l.getD ((a) + (1)) 0).toNat : Nat) : Int)) - (((128 : Nat) : Int))) : Int)), Is (.int .i64 ((((((((l.getD ((a) + (1)) 0).toNat : Nat) : Int)) - (((128 : Nat) : Int)))) * (((64 : Nat) : Int))) : Int)), Is (.int .i64 ((((((((((l.getD (a) 0).toNat : Nat) : Int)) - (((224 : Nat) : Int)))) * (((4096 : Nat) : Int)))) + ((((((((l.getD ((a) + (1)) 0).toNat : Nat) : Int)) - (((128 : Nat) : Int)))) * (((64 : Nat) : Int))))) : Int)), Is (St (l)), Is (NI a), Is (NI ((a) + (2))), Is (B8 (l.getD ((a) + (2)) 0)), Is (NI ((l.getD ((a) + (2)) 0).toNat)), Is (.int .i64 ((((((((((((l.getD (a) 0).toNat : Nat) : Int)) - (((224 : Nat) : Int)))) * (((4096 : Nat) : Int)))) + ((((((((l.getD ((a) + (1)) 0).toNat : Nat) : Int)) - (((128 : Nat) : Int)))) * (((64 : Nat) : Int)))))) + ((((l.getD ((a) + (2)) 0).toNat : Nat) : Int))) : Int)), Is (.int .i64 ((((((((((((((l.getD (a) 0).toNat : Nat) : Int)) - (((224 : Nat) : Int)))) * (((4096 : Nat) : Int)))) + ((((((((l.getD ((a) + (1)) 0).toNat : Nat) : Int)) - (((128 : Nat) : Int)))) * (((64 : Nat) : Int)))))) + ((((l.getD ((a) + (2)) 0).toNat : Nat) : Int)))) - (((128 : Nat) : Int))) : Int)), Is (.int .i64 ((((((((((((((l.getD (a) 0).toNat : Nat) : Int)) - (((224 : Nat) : Int)))) * (((4096 : Nat) : Int)))) + ((((((((l.getD ((a) + (1)) 0).toNat : Nat) : Int)) - (((128 : Nat) : Int)))) * (((64 : Nat) : Int)))))) + ((((l.getD ((a) + (2)) 0).toNat : Nat) : Int)))) - (((128 : Nat) : Int))) : Int))] (by kernel_rfl) [44, 45, 46, 47, 48, 49, 50, 51, 52, 53, 54, 55, 56, 57, 58, 59, 60, 61, 62, 63, 64, 7] (by kernel_rfl) (by kernel_rfl) (si10 (si12 trivial)) ?hs3011 ?hQ3011
   case hs3011 =>
    refine ⟨?_, ?_, ?_, ?_, ?_, ?_, ?_, ?_, ?_, ?_, ?_, ?_, ?_, ?_, ?_, ?_, ?_, ?_, ?_, ?_, ?_, ?_, trivial⟩
    ·refine stepN rfl fun σ w1 hC h => ?_
     have e0 := (eqo (h 0 (by decide))).trans T0
     exact Yk.move e0 ⟨Ext.refl _, rfl⟩
    ·refine stepN rfl fun σ w1 hC h => ?_
     have e1 := (eqo (h 1 (by decide))).trans T1
     exact Yk.move e1 ⟨Ext.refl _, rfl⟩
    ·refine stepN rfl fun σ w1 hC h => ?_
     have e44 := eqo (h 44 (by decide))
     have e45 := eqo (h 45 (by decide))
     exact Yk.idxSt (l := l) (i := a) wr25_ty9 e44 e45 (by omega) ⟨Ext.refl _, rfl⟩
    ·refine stepN rfl fun σ w1 hC h => ?_
     have e46 := eqo (h 46 (by decide))
     exact Yk.convI wr25_ty5 wr25_ty3 e46 (ofByte .i64 (l.getD (a) 0) (fun n hn => wrap_i64 n (by omega))) ⟨Ext.refl _, rfl⟩
    ·refine stepN rfl fun σ w1 hC h => ?_
     have e47 := eqo (h 47 (by decide))
     exact Yk.bin (xv := .int .i64 ((((l.getD (a) 0).toNat : Nat) : Int))) (yv := .int .i64 (((224 : Nat) : Int))) e47 rfl rfl (zi_sub _ ((((l.getD (a) 0).toNat : Nat) : Int)) (((224 : Nat) : Int)) (by omega)) ⟨Ext.refl _, rfl⟩
    ·refine stepN rfl fun σ w1 hC h => ?_
     have e48 := eqo (h 48 (by decide))
     exact Yk.bin (xv := .int .i64 ((((((l.getD (a) 0).toNat : Nat) : Int)) - (((224 : Nat) : Int))))) (yv := .int .i64 (((4096 : Nat) : Int))) e48 rfl rfl (zi_mul _ ((((((l.getD (a) 0).toNat : Nat) : Int)) - (((224 : Nat) : Int)))) (((4096 : Nat) : Int)) (by omega)) ⟨Ext.refl _, rfl⟩
    ·refine stepN rfl fun σ w1 hC h => ?_
     have e0 := (eqo (h 0 (by decide))).trans T0
     exact Yk.move e0 ⟨Ext.refl _, rfl⟩
    ·refine stepN rfl fun σ w1 hC h => ?_
     have e1 := (eqo (h 1 (by decide))).trans T1
     exact Yk.move e1 ⟨Ext.refl _, rfl⟩
    ·refine stepN rfl fun σ w1 hC h => ?_
     have e51 := eqo (h 51 (by decide))
     exact Yk.bin (xv := NI a) (yv := NI 1) e51 rfl rfl (i64_add _ _ _ (by omega)) ⟨Ext.refl _, rfl⟩
    ·refine stepN rfl fun σ w1 hC h => ?_
     have e50 := eqo (h 50 (by decide))
     have e52 := eqo (h 52 (by decide))
     exact Yk.idxSt (l := l) (i := (a) + (1)) wr25_ty9 e50 e52 (by omega) ⟨Ext.refl _, rfl⟩
    ·refine stepN rfl fun σ w1 hC h => ?_
     have e53 := eqo (h 53 (by decide))
     exact Yk.convI wr25_ty5 wr25_ty3 e53 (ofByte .i64 (l.getD ((a) + (1)) 0) (fun n hn => wrap_i64 n (by omega))) ⟨Ext.refl _, rfl⟩
    ·refine stepN rfl fun σ w1 hC h => ?_
     have e54 := eqo (h 54 (by decide))
     exact Yk.bin (xv := .int .i64 ((((l.getD ((a) + (1)) 0).toNat : Nat) : Int))) (yv := .int .i64 (((128 : Nat) : Int))) e54 rfl rfl (zi_sub _ ((((l.getD ((a) + (1)) 0).toNat : Nat) : Int)) (((128 : Nat) : Int)) (by omega)) ⟨Ext.refl _, rfl⟩
    ·refine stepN rfl fun σ w1 hC h => ?_
     have e55 := eqo (h 55 (by decide))
     exact Yk.bin (xv := .int .i64 ((((((l.getD ((a) + (1)) 0).toNat : Nat) : Int)) - (((128 : Nat) : Int))))) (yv := .int .i64 (((64 : Nat) : Int))) e55 rfl rfl (zi_mul _ ((((((l.getD ((a) + (1)) 0).toNat : Nat) : Int)) - (((128 : Nat) : Int)))) (((64 : Nat) : Int)) (by omega)) ⟨Ext.refl _, rfl⟩
    ·refine stepN rfl fun σ w1 hC h => ?_
     have e49 := eqo (h 49 (by decide))
     have e56 := eqo (h 56 (by decide))
     exact Yk.bin (xv := .int .i64 ((((((((l.getD (a) 0).toNat : Nat) : Int)) - (((224 : Nat) : Int)))) * (((4096 : Nat) : Int))))) (yv := .int .i64 ((((((((l.getD ((a) + (1)) 0).toNat : Nat) : Int)) - (((128 : Nat) : Int)))) * (((64 : Nat) : Int))))) e49 e56 rfl (zi_add _ ((((((((l.getD (a) 0).toNat : Nat) : Int)) - (((224 : Nat) : Int)))) * (((4096 : Nat) : Int)))) ((((((((l.getD ((a) + (1)) 0).toNat : Nat) : Int)) - (((128 : Nat) : Int)))) * (((64 : Nat) : Int)))) (by omega)) ⟨Ext.refl _, rfl⟩
    ·refine stepN rfl fun σ w1 hC h => ?_
     have e0 := (eqo (h 0 (by decide))).trans T0
     exact Yk.move e0 ⟨Ext.refl _, rfl⟩
    ·refine stepN rfl fun σ w1 hC h => ?_
     have e1 := (eqo (h 1 (by decide))).trans T1
     exact Yk.move e1 ⟨Ext.refl _, rfl⟩
    ·refine stepN rfl fun σ w1 hC h => ?_
     have e59 := eqo (h 59 (by decide))
     exact Yk.bin (xv := NI a) (yv := NI 2) e59 rfl rfl (i64_add _ _ _ (by omega)) ⟨Ext.refl _, rfl⟩
    ·refine stepN rfl fun σ w1 hC h => ?_
     have e58 := eqo (h 58 (by decide))
     have e60 := eqo (h 60 (by decide))
     exact Yk.idxSt (l := l) (i := (a) + (2)) wr25_ty9 e58 e60 (by omega) ⟨Ext.refl _, rfl⟩
    ·refine stepN rfl fun σ w1 hC h => ?_
     have e61 := eqo (h 61 (by decide))
     exact Yk.convI wr25_ty5 wr25_ty3 e61 (ofByte .i64 (l.getD ((a) + (2)) 0) (fun n hn => wrap_i64 n (by omega))) ⟨Ext.refl _, rfl⟩
    ·refine stepN rfl fun σ w1 hC h => ?_
     have e57 := eqo (h 57 (by decide))
     have e62 := eqo (h 62 (by decide))
     exact Yk.bin (xv := .int .i64 ((((((((((l.getD (a) 0).toNat : Nat) : Int)) - (((224 : Nat) : Int)))) * (((4096 : Nat) : Int)))) + ((((((((l.getD ((a) + (1)) 0).toNat : Nat) : Int)) - (((128 : Nat) : Int)))) * (((64 : Nat) : Int))))))) (yv := .int .i64 ((((l.getD ((a) + (2)) 0).toNat : Nat) : Int))) e57 e62 rfl (zi_add _ ((((((((((l.getD (a) 0).toNat : Nat) : Int)) - (((224 : Nat) : Int)))) * (((4096 : Nat) : Int)))) + ((((((((l.getD ((a) + (1)) 0).toNat : Nat) : Int)) - (((128 : Nat) : Int)))) * (((64 : Nat) : Int)))))) ((((l.getD ((a) + (2)) 0).toNat : Nat) : Int)) (by omega)) ⟨Ext.refl _, rfl⟩
    ·refine stepN rfl fun σ w1 hC h => ?_
     have e63 := eqo (h 63 (by decide))
     exact Yk.bin (xv := .int .i64 ((((((((((((l.getD (a) 0).toNat : Nat) : Int)) - (((224 : Nat) : Int)))) * (((4096 : Nat) : Int)))) + ((((((((l.getD ((a) + (1)) 0).toNat : Nat) : Int)) - (((128 : Nat) : Int)))) * (((64 : Nat) : Int)))))) + ((((l.getD ((a) + (2)) 0).toNat : Nat) : Int))))) (yv := .int .i64 (((128 : Nat) : Int))) e63 rfl rfl (zi_sub _ ((((((((((((l.getD (a) 0).toNat : Nat) : Int)) - (((224 : Nat) : Int)))) * (((4096 : Nat) : Int)))) + ((((((((l.getD ((a) + (1)) 0).toNat : Nat) : Int)) - (((128 : Nat) : Int)))) * (((64 : Nat) : Int)))))) + ((((l.getD ((a) + (2)) 0).toNat : Nat) : Int)))) (((128 : Nat) : Int)) (by omega)) ⟨Ext.refl _, rfl⟩
    ·refine stepN rfl fun σ w1 hC h => ?_
     have e64 := eqo (h 64 (by decide))
     exact Yk.assign e64 ⟨Ext.refl _, rfl⟩
   intro ρ48 w49 hx50 he hf
   obtain ⟨-, -, -, -, -, -, -, -, -, -, -, -, -, -, -, -, -, -, -, -, -, k7, -⟩ := hf
   obtain ⟨T0, T1, T6, T20, -⟩ := he.hold [(0, _), (1, _), (6, _), (20, _)] ⟨T0, T1, T6, T6, trivial⟩ rfl
   clear he
   have hE := hE.trans hx50
   have T7 : ρ48 7 = .int .i64 ((((((((((((((l.getD (a) 0).toNat : Nat) : Int)) - (((224 : Nat) : Int)))) * (((4096 : Nat) : Int)))) + ((((((((l.getD ((a) + (1)) 0).toNat : Nat) : Int)) - (((128 : Nat) : Int)))) * (((64 : Nat) : Int)))))) + ((((l.getD ((a) + (2)) 0).toNat : Nat) : Int)))) - (((128 : Nat) : Int))) : Int) := k7
   clear k7
   refine bN ?_
   exact tN (hJK19 _ _ ⟨(((((((((((((l.getD (a) 0).toNat : Nat) : Int)) - (((224 : Nat) : Int)))) * (((4096 : Nat) : Int)))) + ((((((((l.getD ((a) + (1)) 0).toNat : Nat) : Int)) - (((128 : Nat) : Int)))) * (((64 : Nat) : Int)))))) + ((((l.getD ((a) + (2)) 0).toNat : Nat) : Int)))) - (((128 : Nat) : Int))), T0, T1, T6, T7, hE, by rw [show n = 3 from hc3]; rfl, trivial⟩)
  refine sk fun K51 hK51 => (wt (oS rfl (Yk.eqI (a := (n : Nat)) (b := (4 : Nat)) T6 rfl (k_eql _ _ _ _) (oA rfl (oZ (tN (hK51 _ _ ?_)))))))
  refine wpF_cond ((n : Nat) = (4)) (vr (.bool (decide ((n : Nat) = (4)))) rfl) (fun hc4 => ?_) (fun hc4 => ?_)
  ·refine wpF_draw [Is (St (l)), Is (NI a), Is (B8 (l.getD (a) 0)), Is (NI ((l.getD (a) 0).toNat)), Is (.int .i64 ((((((l.getD (a) 0).toNat : Nat) : Int)) - (((240 : Nat) : Int))) : Int)), Is (.int .i64 ((((((((l.getD (a) 0).toNat : Nat) : Int)) - (((240 : Nat) : Int)))) * (((262144 : Nat) : Int))) : Int)), Is (St (l)), Is (NI a), Is (NI ((a) + (1))), Is (B8 (l.getD ((a) + (1)) 0)), Is (NI ((l.getD ((a) + (1)) 0).toNat)), Is (.int .i64 ((((((l.getD ((a) + (1)) 0).toNat : Nat) : Int)) - (((128 : Nat) : Int))) : Int)), Is (.int .i64 ((((((((l.getD ((a) + (1)) 0).toNat : Nat) : Int)) - (((128 : Nat) : Int)))) * (((4096 : Nat) : Int))) : Int)), Is (.int .i64 ((((((((((l.getD (a) 0).toNat : Nat) : Int)) - (((240 : Nat) : Int)))) * (((262144 : Nat) : Int)))) + ((((((((l.getD ((a) + (1)) 0).toNat : Nat) : Int)) - (((128 : Nat) : Int)))) * (((4096 : Nat) : Int))))) : Int)), Is (St (l)), Is (NI a), Is (NI ((a) + (2))), Is (B8 (l.getD ((a) + (2)) 0)), Is (NI ((l.getD ((a) + (2)) 0).toNat)), Is (.int .i64 ((((((l.getD ((a) + (2)) 0).toNat : Nat) : Int)) - (((128 : Nat) : Int))) : Int)), Is (.int .i64 ((((((((l.getD ((a) + (2)) 0).toNat : Nat) : Int)) - (((128 : Nat) : Int)))) * (((64 : Nat) : Int))) : Int)), Is (.int .i64 ((((((((((((l.getD (a) 0).toNat : Nat) : Int)) - (((240 : Nat) : Int)))) * (((262144 : Nat) : Int)))) + ((((((((l.getD ((a) + (1)) 0).toNat : Nat) : Int)) - (((128 : Nat) : Int)))) * (((4096 : Nat) : Int)))))) + ((((((((l.getD ((a) + (2)) 0).toNat : Nat) : Int)) - (((128 : Nat) : Int)))) * (((64 : Nat) : Int))))) : Int)), Is (St (l)), Is (NI a), Is (NI ((a) + (3))), Is (B8 (l.getD ((a) + (3)) 0)), Is (NI ((l.getD ((a) + (3)) 0).toNat)), Is (.int .i64 ((((((((((((((l.getD (a) 0).toNat : Nat) : Int)) - (((240 : Nat) : Int)))) * (((262144 : Nat) : Int)))) + ((((((((l.getD ((a) + (1)) 0).toNat : Nat) : Int)) - (((128 : Nat) : Int)))) * (((4096 : Nat) : Int)))))) + ((((((((l.getD ((a) + (2)) 0).toNat : Nat) : Int)) - (((128 : Nat) : Int)))) * (((64 : Nat) : Int)))))) + ((((l.getD ((a) + (3)) 0).toNat : Nat) : Int))) : Int)), Is (.int .i64 ((((((((((((((((l.getD (a) 0).toNat : Nat) : Int)) - (((240 : Nat) : Int)))) * (((262144 : Nat) : Int)))) + ((((((((l.getD ((a) + (1)) 0).toNat : Nat) : Int)) - (((128 : Nat) : Int)))) * (((4096 : Nat) : Int)))))) + ((((((((l.getD ((a) + (2)) 0).toNat : Nat) : Int)) - (((128 : Nat) : Int)))) * (((64 : Nat) : Int)))))) + ((((l.getD ((a) + (3)) 0).toNat : Nat) : Int)))) - (((128 : Nat) : Int))) : Int)), Is (.int .i64 ((((((((((((((((l.getD (a) 0).toNat : Nat) : Int)) - (((240 : Nat) : Int)))) * (((262144 : Nat) : Int)))) + ((((((((l.getD ((a) + (1)) 0).toNat : Nat) : Int)) - (((128 : Nat) : Int)))) * (((4096 : Nat) : Int)))))) + ((((((((l.getD ((a) + (2)) 0).toNat : Nat) : Int)) - (((128 : Nat) : Int)))) * (((64 : Nat) : Int)))))) + ((((l.getD ((a) + (3)) 0).toNat : Nat) : Int)))) - (((128 : Nat) : Int))) : Int))] (by kernel_rfl) [67, 68, 69, 70, 71, 72, 73, 74, 75, 76, 77, 78, 79, 80, 81, 82, 83, 84, 85, 86, 87, 88, 89, 90, 91, 92, 93, 94, 95, 7] (by kernel_rfl) (by kernel_rfl) (si6 (si12 (si12 trivial))) ?hs4013 ?hQ4013
   case hs4013 =>
    refine ⟨?_, ?_, ?_, ?_, ?_, ?_, ?_, ?_, ?_, ?_, ?_, ?_, ?_, ?_, ?_, ?_, ?_, ?_, ?_, ?_, ?_, ?_, ?_, ?_, ?_, ?_, ?_, ?_, ?_, ?_, trivial⟩
    ·refine stepN rfl fun σ w1 hC h => ?_
     have e0 := (eqo (h 0 (by decide))).trans T0
     exact Yk.move e0 ⟨Ext.refl _, rfl⟩
    ·refine stepN rfl fun σ w1 hC h => ?_
     have e1 := (eqo (h 1 (by decide))).trans T1
     exact Yk.move e1 ⟨Ext.refl _, rfl⟩
    ·refine stepN rfl fun σ w1 hC h => ?_
     have e67 := eqo (h 67 (by decide))
     have e68 := eqo (h 68 (by decide))
     exact Yk.idxSt (l := l) (i := a) wr25_ty9 e67 e68 (by omega) ⟨Ext.refl _, rfl⟩
    ·refine stepN rfl fun σ w1 hC h => ?_
     have e69 := eqo (h 69 (by decide))
     exact Yk.convI wr25_ty5 wr25_ty3 e69 (ofByte .i64 (l.getD (a) 0) (fun n hn => wrap_i64 n (by omega))) ⟨Ext.refl _, rfl⟩
    ·refine stepN rfl fun σ w1 hC h => ?_
     have e70 := eqo (h 70 (by decide))
     exact Yk.bin (xv := .int .i64 ((((l.getD (a) 0).toNat : Nat) : Int))) (yv := .int .i64 (((240 : Nat) : Int))) e70 rfl rfl (zi_sub _ ((((l.getD (a) 0).toNat : Nat) : Int)) (((240 : Nat) : Int)) (by omega)) ⟨Ext.refl _, rfl⟩
    ·refine stepN rfl fun σ w1 hC h => ?_
     have e71 := eqo (h 71 (by decide))
     exact Yk.bin (xv := .int .i64 ((((((l.getD (a) 0).toNat : Nat) : Int)) - (((240 : Nat) : Int))))) (yv := .int .i64 (((262144 : Nat) : Int))) e71 rfl rfl (zi_mul _ ((((((l.getD (a) 0).toNat : Nat) : Int)) - (((240 : Nat) : Int)))) (((262144 : Nat) : Int)) (by omega)) ⟨Ext.refl _, rfl⟩
    ·refine stepN rfl fun σ w1 hC h => ?_
     have e0 := (eqo (h 0 (by decide))).trans T0
     exact Yk.move e0 ⟨Ext.refl _, rfl⟩
    ·refine stepN rfl fun σ w1 hC h => ?_
     have e1 := (eqo (h 1 (by decide))).trans T1
     exact Yk.move e1 ⟨Ext.refl _, rfl⟩
    ·refine stepN rfl fun σ w1 hC h => ?_
     have e74 := eqo (h 74 (by decide))
     exact Yk.bin (xv := NI a) (yv := NI 1) e74 rfl rfl (i64_add _ _ _ (by omega)) ⟨Ext.refl _, rfl⟩
    ·refine stepN rfl fun σ w1 hC h => ?_
     have e73 := eqo (h 73 (by decide))
     have e75 := eqo (h 75 (by decide))
     exact Yk.idxSt (l := l) (i := (a) + (1)) wr25_ty9 e73 e75 (by omega) ⟨Ext.refl _, rfl⟩
    ·refine stepN rfl fun σ w1 hC h => ?_
     have e76 := eqo (h 76 (by decide))
     exact Yk.convI wr25_ty5 wr25_ty3 e76 (ofByte .i64 (l.getD ((a) + (1)) 0) (fun n hn => wrap_i64 n (by omega))) ⟨Ext.refl _, rfl⟩
    ·refine stepN rfl fun σ w1 hC h => ?_
     have e77 := eqo (h 77 (by decide))
     exact Yk.bin (xv := .int .i64 ((((l.getD ((a) + (1)) 0).toNat : Nat) : Int))) (yv := .int .i64 (((128 : Nat) : Int))) e77 rfl rfl (zi_sub _ ((((l.getD ((a) + (1)) 0).toNat : Nat) : Int)) (((128 : Nat) : Int)) (by omega)) ⟨Ext.refl _, rfl⟩
    ·refine stepN rfl fun σ w1 hC h => ?_
     have e78 := eqo (h 78 (by decide))
     exact Yk.bin (xv := .int .i64 ((((((l.getD ((a) + (1)) 0).toNat : Nat) : Int)) - (((128 : Nat) : Int))))) (yv := .int .i64 (((4096 : Nat) : Int))) e78 rfl rfl (zi_mul _ ((((((l.getD ((a) + (1)) 0).toNat : Nat) : Int)) - (((128 : Nat) : Int)))) (((4096 : Nat) : Int)) (by omega)) ⟨Ext.refl _, rfl⟩
    ·refine stepN rfl fun σ w1 hC h => ?_
     have e72 := eqo (h 72 (by decide))
     have e79 := eqo (h 79 (by decide))
     exact Yk.bin (xv := .int .i64 ((((((((l.getD (a) 0).toNat : Nat) : Int)) - (((240 : Nat) : Int)))) * (((262144 : Nat) : Int))))) (yv := .int .i64 ((((((((l.getD ((a) + (1)) 0).toNat : Nat) : Int)) - (((128 : Nat) : Int)))) * (((4096 : Nat) : Int))))) e72 e79 rfl (zi_add _ ((((((((l.getD (a) 0).toNat : Nat) : Int)) - (((240 : Nat) : Int)))) * (((262144 : Nat) : Int)))) ((((((((l.getD ((a) + (1)) 0).toNat : Nat) : Int)) - (((128 : Nat) : Int)))) * (((4096 : Nat) : Int)))) (by omega)) ⟨Ext.refl _, rfl⟩
    ·refine stepN rfl fun σ w1 hC h => ?_
     have e0 := (eqo (h 0 (by decide))).trans T0
     exact Yk.move e0 ⟨Ext.refl _, rfl⟩
    ·refine stepN rfl fun σ w1 hC h => ?_
     have e1 := (eqo (h 1 (by decide))).trans T1
     exact Yk.move e1 ⟨Ext.refl _, rfl⟩
    ·refine stepN rfl fun σ w1 hC h => ?_
     have e82 := eqo (h 82 (by decide))
     exact Yk.bin (xv := NI a) (yv := NI 2) e82 rfl rfl (i64_add _ _ _ (by omega)) ⟨Ext.refl _, rfl⟩
    ·refine stepN rfl fun σ w1 hC h => ?_
     have e81 := eqo (h 81 (by decide))
     have e83 := eqo (h 83 (by decide))
     exact Yk.idxSt (l := l) (i := (a) + (2)) wr25_ty9 e81 e83 (by omega) ⟨Ext.refl _, rfl⟩
    ·refine stepN rfl fun σ w1 hC h => ?_
     have e84 := eqo (h 84 (by decide))
     exact Yk.convI wr25_ty5 wr25_ty3 e84 (ofByte .i64 (l.getD ((a) + (2)) 0) (fun n hn => wrap_i64 n (by omega))) ⟨Ext.refl _, rfl⟩
    ·refine stepN rfl fun σ w1 hC h => ?_
     have e85 := eqo (h 85 (by decide))
     exact Yk.bin (xv := .int .i64 ((((l.getD ((a) + (2)) 0).toNat : Nat) : Int))) (yv := .int .i64 (((128 : Nat) : Int))) e85 rfl rfl (zi_sub _ ((((l.getD ((a) + (2)) 0).toNat : Nat) : Int)) (((128 : Nat) : Int)) (by omega)) ⟨Ext.refl _, rfl⟩
    ·refine stepN rfl fun σ w1 hC h => ?_
     have e86 := eqo (h 86 (by decide))
     exact Yk.bin (xv := .int .i64 ((((((l.getD ((a) + (2)) 0).toNat : Nat) : Int)) - (((128 : Nat) : Int))))) (yv := .int .i64 (((64 : Nat) : Int))) e86 rfl rfl (zi_mul _ ((((((l.getD ((a) + (2)) 0).toNat : Nat) : Int)) - (((128 : Nat) : Int)))) (((64 : Nat) : Int)) (by omega)) ⟨Ext.refl _, rfl⟩
    ·refine stepN rfl fun σ w1 hC h => ?_
     have e80 := eqo (h 80 (by decide))
     have e87 := eqo (h 87 (by decide))
     exact Yk.bin (xv := .int .i64 ((((((((((l.getD (a) 0).toNat : Nat) : Int)) - (((240 : Nat) : Int)))) * (((262144 : Nat) : Int)))) + ((((((((l.getD ((a) + (1)) 0).toNat : Nat) : Int)) - (((128 : Nat) : Int)))) * (((4096 : Nat) : Int))))))) (yv := .int .i64 ((((((((l.getD ((a) + (2)) 0).toNat : Nat) : Int)) - (((128 : Nat) : Int)))) * (((64 : Nat) : Int))))) e80 e87 rfl (zi_add _ ((((((((((l.getD (a) 0).toNat : Nat) : Int)) - (((240 : Nat) : Int)))) * (((262144 : Nat) : Int)))) + ((((((((l.getD ((a) + (1)) 0).toNat : Nat) : Int)) - (((128 : Nat) : Int)))) * (((4096 : Nat) : Int)))))) ((((((((l.getD ((a) + (2)) 0).toNat : Nat) : Int)) - (((128 : Nat) : Int)))) * (((64 : Nat) : Int)))) (by omega)) ⟨Ext.refl _, rfl⟩
    ·refine stepN rfl fun σ w1 hC h => ?_
     have e0 := (eqo (h 0 (by decide))).trans T0
     exact Yk.move e0 ⟨Ext.refl _, rfl⟩
    ·refine stepN rfl fun σ w1 hC h => ?_
     have e1 := (eqo (h 1 (by decide))).trans T1
     exact Yk.move e1 ⟨Ext.refl _, rfl⟩
    ·refine stepN rfl fun σ w1 hC h => ?_
     have e90 := eqo (h 90 (by decide))
     exact Yk.bin (xv := NI a) (yv := NI 3) e90 rfl rfl (i64_add _ _ _ (by omega)) ⟨Ext.refl _, rfl⟩
    ·refine stepN rfl fun σ w1 hC h => ?_
     have e89 := eqo (h 89 (by decide))
     have e91 := eqo (h 91 (by decide))
     exact Yk.idxSt (l := l) (i := (a) + (3)) wr25_ty9 e89 e91 (by omega) ⟨Ext.refl _, rfl⟩
    ·refine stepN rfl fun σ w1 hC h => ?_
     have e92 := eqo (h 92 (by decide))
     exact Yk.convI wr25_ty5 wr25_ty3 e92 (ofByte .i64 (l.getD ((a) + (3)) 0) (fun n hn => wrap_i64 n (by omega))) ⟨Ext.refl _, rfl⟩
    ·refine stepN rfl fun σ w1 hC h => ?_
     have e88 := eqo (h 88 (by decide))
     have e93 := eqo (h 93 (by decide))
     exact Yk.bin (xv := .int .i64 ((((((((((((l.getD (a) 0).toNat : Nat) : Int)) - (((240 : Nat) : Int)))) * (((262144 : Nat) : Int)))) + ((((((((l.getD ((a) + (1)) 0).toNat : Nat) : Int)) - (((128 : Nat) : Int)))) * (((4096 : Nat) : Int)))))) + ((((((((l.getD ((a) + (2)) 0).toNat : Nat) : Int)) - (((128 : Nat) : Int)))) * (((64 : Nat) : Int))))))) (yv := .int .i64 ((((l.getD ((a) + (3)) 0).toNat : Nat) : Int))) e88 e93 rfl (zi_add _ ((((((((((((l.getD (a) 0).toNat : Nat) : Int)) - (((240 : Nat) : Int)))) * (((262144 : Nat) : Int)))) + ((((((((l.getD ((a) + (1)) 0).toNat : Nat) : Int)) - (((128 : Nat) : Int)))) * (((4096 : Nat) : Int)))))) + ((((((((l.getD ((a) + (2)) 0).toNat : Nat) : Int)) - (((128 : Nat) : Int)))) * (((64 : Nat) : Int)))))) ((((l.getD ((a) + (3)) 0).toNat : Nat) : Int)) (by omega)) ⟨Ext.refl _, rfl⟩
    ·refine stepN rfl fun σ w1 hC h => ?_
     have e94 := eqo (h 94 (by decide))
     exact Yk.bin (xv := .int .i64 ((((((((((((((l.getD (a) 0).toNat : Nat) : Int)) - (((240 : Nat) : Int)))) * (((262144 : Nat) : Int)))) + ((((((((l.getD ((a) + (1)) 0).toNat : Nat) : Int)) - (((128 : Nat) : Int)))) * (((4096 : Nat) : Int)))))) + ((((((((l.getD ((a) + (2)) 0).toNat : Nat) : Int)) - (((128 : Nat) : Int)))) * (((64 : Nat) : Int)))))) + ((((l.getD ((a) + (3)) 0).toNat : Nat) : Int))))) (yv := .int .i64 (((128 : Nat) : Int))) e94 rfl rfl (zi_sub _ ((((((((((((((l.getD (a) 0).toNat : Nat) : Int)) - (((240 : Nat) : Int)))) * (((262144 : Nat) : Int)))) + ((((((((l.getD ((a) + (1)) 0).toNat : Nat) : Int)) - (((128 : Nat) : Int)))) * (((4096 : Nat) : Int)))))) + ((((((((l.getD ((a) + (2)) 0).toNat : Nat) : Int)) - (((128 : Nat) : Int)))) * (((64 : Nat) : Int)))))) + ((((l.getD ((a) + (3)) 0).toNat : Nat) : Int)))) (((128 : Nat) : Int)) (by omega)) ⟨Ext.refl _, rfl⟩
    ·refine stepN rfl fun σ w1 hC h => ?_
     have e95 := eqo (h 95 (by decide))
     exact Yk.assign e95 ⟨Ext.refl _, rfl⟩
   intro ρ52 w53 hx54 he hf
   obtain ⟨-, -, -, -, -, -, -, -, -, -, -, -, -, -, -, -, -, -, -, -, -, -, -, -, -, -, -, -, -, k7, -⟩ := hf
   obtain ⟨T0, T1, T6, T20, -⟩ := he.hold [(0, _), (1, _), (6, _), (20, _)] ⟨T0, T1, T6, T6, trivial⟩ rfl
   clear he
   have hE := hE.trans hx54
   have T7 : ρ52 7 = .int .i64 ((((((((((((((((l.getD (a) 0).toNat : Nat) : Int)) - (((240 : Nat) : Int)))) * (((262144 : Nat) : Int)))) + ((((((((l.getD ((a) + (1)) 0).toNat : Nat) : Int)) - (((128 : Nat) : Int)))) * (((4096 : Nat) : Int)))))) + ((((((((l.getD ((a) + (2)) 0).toNat : Nat) : Int)) - (((128 : Nat) : Int)))) * (((64 : Nat) : Int)))))) + ((((l.getD ((a) + (3)) 0).toNat : Nat) : Int)))) - (((128 : Nat) : Int))) : Int) := k7
   clear k7
   refine bN ?_
   exact tN (hJK19 _ _ ⟨(((((((((((((((l.getD (a) 0).toNat : Nat) : Int)) - (((240 : Nat) : Int)))) * (((262144 : Nat) : Int)))) + ((((((((l.getD ((a) + (1)) 0).toNat : Nat) : Int)) - (((128 : Nat) : Int)))) * (((4096 : Nat) : Int)))))) + ((((((((l.getD ((a) + (2)) 0).toNat : Nat) : Int)) - (((128 : Nat) : Int)))) * (((64 : Nat) : Int)))))) + ((((l.getD ((a) + (3)) 0).toNat : Nat) : Int)))) - (((128 : Nat) : Int))), T0, T1, T6, T7, hE, by rw [show n = 4 from hc4]; rfl, trivial⟩)
  omega
 subst hbb16
 refine wpF_exit (thenF_exit (thenF_exit (inBlockF_hit (tN (hK2 _ _ (sk fun K55 hK55 => (wt (oA rfl (oA rfl (oZ (tN (hK55 _ _ (wpF_ret (postF_ret (fn := Tryd.f165) _ rfl [.int .i32 ((0 : Nat) : Int), NI 0] (.tuple #[.int .i32 ((0 : Nat) : Int), NI 0]) rfl ⟨rfl, rfl, trivial⟩ ?_))))))))))))))
 exact ⟨⟨0, 0, rfl, by rw [if_pos rfl]; exact decU_no ha (fun m h1 h4 h5 => hno m h1 (by rcases and_ff hc0 with h | h <;> (have := of_decide_eq_false h; omega)) h5), by omega⟩, hE⟩

theorem refRunes_any (w : World) (l : Bs) (hl : l.length ≤ 1000) :
  Calls Tryd.prog 150 #[St l] w fun e w' => (∃ v p, e = .returned (.tuple #[v, NI p, NI (if utfB l 0 = true then 0 else 5)])) ∧ Ext w w' := by
 refine calls_of_wpF (args := [St (l)]) Tryd.func150 rfl 30 rfl (Nat.le_of_ble_eq_true rfl) ?_
 intro ρ0 hb
 have T0 : ρ0 0 = (St (l) : Value) := hb.get 0
 clear hb
 have hE := Ext.refl w
 refine sk fun K1 hK1 => (wt (oA rfl (oA rfl (oA rfl (oZ (tN (hK1 _ _ (sk fun K2 hK2 => (wt (oA rfl (oZ ?_)))))))))))
 have ho3 : OG w.heap.size 21 1 (runeC) w (Value.slice none 0 0) ([] : List Nat) := OG.nil _ _ _ _ _
 refine tN (hK2 _ _ (sk fun K4 hK4 => (sk fun K5 hK5 => (wt (oA rfl (oL_ [(0, St (l)), (2, (Value.slice none 0 0)), (3, NI 0), (4, NI 0), (5, (Value.slice none 0 0)), (6, NI 0)] ⟨T0, rfl, rfl, rfl, rfl, rfl, trivial⟩ fun ρ6 ⟨T0, T2, T3, T4, T5, T6, _⟩ => (tN (hK5 _ _ (wpF_block (wpF_loop (fun (ρ : Slots) (wz : World) => ∃ p : Nat, ∃ ls : List Nat, ∃ vb : Value, ρ 0 = (St (l) : Value) ∧ ρ 6 = (NI p : Value) ∧ ρ 5 = (vb : Value) ∧ Ext w wz ∧ OG w.heap.size 21 1 (runeC) wz vb (ls) ∧ (p ≤ l.length) ∧ (ls.length ≤ p) ∧ (utfB l 0 = utfB l p) ∧ True) (fun ρ _ => l.length - (intOf (ρ 6)).toNat) ⟨0, [], (Value.slice none 0 0), T0, T6, T5, hE, og_eq ho3 (rfl), Nat.zero_le _, Nat.le_refl _, rfl, trivial⟩ ?_))))))))))
 clear ho3
 clear hE
 rintro ρ7 w8 ⟨p, ls, vb, T0, T6, T5, hE, hr_vb, hp, hls, ht, -⟩
 have q6 := T6
 refine sk fun K9 hK9 => (sk fun K10 hK10 => (wt (oM rfl (oM rfl (oS rfl (Yk.lenSt (l := l) wr25_ty9 T0 (oS rfl (Yk.eqI (a := (p : Nat)) (b := (l.length : Nat)) T6 rfl (k_lss _ _ _ _) (oZ (tN (hK10 _ _ ?_)))))))))))
 refine wpF_cond ((p) < (l.length)) (vr (.bool (decide ((p) < (l.length)))) rfl) (fun hc0 => ?_) (fun hc0 => ?_)
 ·have hlt : p < l.length := hc0
  refine wpF_skip (tN (hK9 _ _ (wpF_block (sk fun K11 hK11 => (wt (oM rfl (oM rfl (oS rfl (Yk.callA2 wr25_pl165 T0 T6 ((refOne_any _ l p hlt (by omega)).mono ?_))))))))))
  rintro e w13 ⟨⟨r, n, rfl, hd, hpn⟩, hx12⟩
  refine ⟨_, rfl, ?_⟩
  have hE := hE.trans hx12
  have hr_vb := hr_vb.keep hx12
  refine oM rfl (oS rfl (Yk.extract (vs := [.int .i32 ((r : Nat) : Int), NI n]) (vr (.tuple #[.int .i32 ((r : Nat) : Int), NI n]) rfl) (show _ = some (.int .i32 ((r : Nat) : Int) : Value) from rfl) (oS rfl (Yk.extract (vs := [.int .i32 ((r : Nat) : Int), NI n]) (vr (.tuple #[.int .i32 ((r : Nat) : Int), NI n]) rfl) (show _ = some (NI n : Value) from rfl) (oA rfl (oA rfl (oZ (tN (hK11 _ _ (sk fun K14 hK14 => (sk fun K15 hK15 => (wt (oM rfl (oS rfl (Yk.eqI (a := (n : Nat)) (b := (0 : Nat)) rfl rfl (k_eql _ _ _ _) (oZ (tN (hK15 _ _ ?_))))))))))))))))))
  refine wpF_cond ((n : Nat) = (0)) (vr (.bool (decide ((n : Nat) = (0)))) rfl) (fun hc1 => ?_) (fun hc1 => ?_)
  ·refine sk fun K16 hK16 => (wt (oM rfl (oA rfl (oA rfl (oA rfl (oZ (tN (hK16 _ _ (wpF_ret (thenF_ret (inBlockF_ret (thenF_ret (inBlockF_ret (thenF_ret (postF_ret (fn := Tryd.f150) _ rfl [(Value.slice none 0 0), NI p, NI 5] (.tuple #[(Value.slice none 0 0), NI p, NI 5]) rfl ⟨rfl, T6, rfl, trivial⟩ ?_)))))))))))))))
   exact ⟨⟨_, _, by rw [ht, utfB_none hlt (by rw [hd, if_pos hc1])]; rfl⟩, hE⟩
  refine wpF_skip (tN (hK14 _ _ (sk fun K17 hK17 => (wt (oM rfl (oM rfl (oS rfl (Yk.lit1S (a := r) (enc := runeC) (vr (.int .i32 ((r : Nat) : Int)) rfl) rfl (fun w => wr25_lk189 _ w) fun v18 w19 hr20 hx21 => ?_))))))))
  have hE := hE.trans hx21
  have hr_vb := hr_vb.keep hx21
  refine oS rfl (Yk.appendRG _ _ w.heap.size _ 4 wr25_ty189 wr25_ig21.choose_spec.1 wr25_ig21.choose_spec.2 wr25_ty189 (ls) ([r]) (OG.of hr_vb T5) (RG.of hr20 (vr v18 rfl)) (fun _ _ => rune_one _) (by simp only [List.length_cons, List.length_nil]; omega) (by simp only [List.length_cons, List.length_nil]; omega) hE.size fun v22 w23 ho24 hg25 => ?_)
  have hg25 : Grew w19 w23 vb v22 := .eqv T5 hg25
  have hE := ext_grew hE hg25 hr_vb.2 (Nat.le_refl _)
  clear hr_vb
  clear hr20
  refine oA rfl (oZ (tN (hK17 _ _ (wt (oM rfl (oM rfl (oS rfl (Yk.bin (xv := NI p) (yv := NI n) T6 rfl rfl (i64_add _ _ _ (by omega)) (oA rfl (oL_ [(0, St (l)), (5, v22), (6, NI ((p) + (n))), (7, .int .i32 ((r : Nat) : Int)), (8, NI n)] ⟨T0, rfl, rfl, rfl, rfl, trivial⟩ fun ρ26 ⟨T0, T5, T6, T7, T8, _⟩ => (bN (tN (And.intro ⟨p + n, (ls) ++ [r], v22, T0, T6, T5, hE, og_eq ho24 (rfl), hpn, by rw [List.length_append, List.length_singleton]; omega, ht.trans (utfB_some hlt (by rw [hd, if_neg hc1])), trivial⟩ ?_)))))))))))))
  show l.length - (intOf (ρ26 6)).toNat < l.length - (intOf (ρ7 6)).toNat
  rw [T6, q6]
  simp only [intOf, Int.toNat_natCast]; omega
 refine wpF_exit (thenF_exit (thenF_exit (inBlockF_hit (tN (hK4 _ _ (sk fun K27 hK27 => (wt (oM rfl (oA rfl (oA rfl (oA rfl (oZ (tN (hK27 _ _ (wpF_ret (postF_ret (fn := Tryd.f150) _ rfl [vb, NI 0, NI 0] (.tuple #[vb, NI 0, NI 0]) rfl ⟨T5, rfl, rfl, trivial⟩ ?_))))))))))))))))
 exact ⟨⟨_, _, by rw [ht, utfB_end (show ¬ p < l.length by omega)]; rfl⟩, hE⟩

theorem refIs_any (w : World) (l : Bs) (hl : l.length ≤ 1000) :
  Calls Tryd.prog 125 #[St l] w fun e w' => e = .returned (.bool (utfB l 0)) ∧ Ext w w' := by
 refine calls_of_wpF (args := [St (l)]) Tryd.func125 rfl 14 rfl (Nat.le_of_ble_eq_true rfl) ?_
 intro ρ0 hb
 have T0 : ρ0 0 = (St (l) : Value) := hb.get 0
 clear hb
 have hE := Ext.refl w
 refine sk fun K1 hK1 => (wt (oA rfl (oZ ?_)))
 rcases hT : utfB l 0 with _ | _
 ·refine tN (hK1 _ _ (sk fun K2 hK2 => (wt (oM rfl (oS rfl (Yk.callA1 wr25_pl150 T0 (((show Calls _ _ _ _ (fun e w2 => (∃ v p, e = .returned (.tuple #[v, NI p, NI 5])) ∧ Ext w w2) from by have h := refRunes_any w l hl; rw [hT] at h; exact h)).mono ?_)))))))
  rintro e w4 ⟨⟨v0, p0, rfl⟩, hx3⟩
  refine ⟨_, rfl, ?_⟩
  have hE := hE.trans hx3
  refine oM rfl (oS rfl (Yk.extract (vs := [v0, NI p0, NI 5]) (vr (.tuple #[v0, NI p0, NI 5]) rfl) (show _ = some (v0 : Value) from rfl) (oS rfl (Yk.extract (vs := [v0, NI p0, NI 5]) (vr (.tuple #[v0, NI p0, NI 5]) rfl) (show _ = some (NI p0 : Value) from rfl) (oS rfl (Yk.extract (vs := [v0, NI p0, NI 5]) (vr (.tuple #[v0, NI p0, NI 5]) rfl) (show _ = some (NI 5 : Value) from rfl) (oA rfl (oA rfl (oA rfl (oZ (tN (hK2 _ _ (sk fun K5 hK5 => (wt (oM rfl (oS rfl (Yk.eqI (a := (5 : Nat)) (b := (0 : Nat)) rfl rfl (k_eql _ _ _ _) (oA rfl (oZ (tN (hK5 _ _ ?_)))))))))))))))))))))
  refine wpF_ret (postF_ret (fn := Tryd.f125) _ rfl [.bool (false)] (.bool (false)) rfl ⟨(congrArg Value.bool (decide_eq_false (by decide))), trivial⟩ ?_)
  exact ⟨by rw [hT], hE⟩
 refine tN (hK1 _ _ (sk fun K6 hK6 => (wt (oM rfl (oS rfl (Yk.callA1 wr25_pl150 T0 (((show Calls _ _ _ _ (fun e w2 => (∃ v p, e = .returned (.tuple #[v, NI p, NI 0])) ∧ Ext w w2) from by have h := refRunes_any w l hl; rw [hT] at h; exact h)).mono ?_)))))))
 rintro e w8 ⟨⟨v0, p0, rfl⟩, hx7⟩
 refine ⟨_, rfl, ?_⟩
 have hE := hE.trans hx7
 refine oM rfl (oS rfl (Yk.extract (vs := [v0, NI p0, NI 0]) (vr (.tuple #[v0, NI p0, NI 0]) rfl) (show _ = some (v0 : Value) from rfl) (oS rfl (Yk.extract (vs := [v0, NI p0, NI 0]) (vr (.tuple #[v0, NI p0, NI 0]) rfl) (show _ = some (NI p0 : Value) from rfl) (oS rfl (Yk.extract (vs := [v0, NI p0, NI 0]) (vr (.tuple #[v0, NI p0, NI 0]) rfl) (show _ = some (NI 0 : Value) from rfl) (oA rfl (oA rfl (oA rfl (oZ (tN (hK6 _ _ (sk fun K9 hK9 => (wt (oM rfl (oS rfl (Yk.eqI (a := (0 : Nat)) (b := (0 : Nat)) rfl rfl (k_eql _ _ _ _) (oA rfl (oZ (tN (hK9 _ _ ?_)))))))))))))))))))))
 refine wpF_ret (postF_ret (fn := Tryd.f125) _ rfl [.bool (true)] (.bool (true)) rfl ⟨(congrArg Value.bool (decide_eq_true (by decide))), trivial⟩ ?_)
 exact ⟨by rw [hT], hE⟩

theorem refNote_any (w : World) (l : Bs) :
  Calls Tryd.prog 78 #[St l] w fun e w' => e = .returned (.bool (noteB l)) ∧ Ext w w' := by
 refine calls_of_wpF (args := [St (l)]) Tryd.func78 rfl 10 rfl (Nat.le_of_ble_eq_true rfl) ?_
 intro ρ0 hb
 have T0 : ρ0 0 = (St (l) : Value) := hb.get 0
 clear hb
 have hE := Ext.refl w
 refine sk fun K1 hK1 => (wt (oA rfl (oZ (tN (hK1 _ _ (sk fun K2 hK2 => (wt (oM rfl (oS rfl (Yk.lenSt (l := l) wr25_ty9 T0 (oS rfl (Yk.eqI (a := (l.length : Nat)) (b := (256 : Nat)) rfl rfl (k_leq _ _ _ _) (oM rfl (opsF_mayV (St (l)) rfl rfl (gT (vr (.bool (decide ((l.length) ≤ (256)))) rfl)) (fun hG3 => Yk.move T0 ⟨rfl, rfl⟩) (opsF_mayC (.bool (utfB l 0)) rfl rfl (gT (vr (.bool (decide ((l.length) ≤ (256)))) rfl)) (fun hG4 => Yk.callA1 wr25_pl125 (mayT (vr (cond ((decide ((l.length) ≤ (256)))) (St (l)) undef) rfl) hG4) ((refIs_any _ l (by simp only [gA, gB, gC, gD, gE] at hG4; omega)).mono (by rintro e w2 ⟨rfl, hx⟩; exact ⟨_, rfl, rfl, hx⟩))) fun w6 hx7 => ?_)))))))))))))))
 have hE := hE.trans hx7
 refine oS rfl (Yk.pickAndN (vr (.bool (decide ((l.length) ≤ (256)))) rfl) (fun hA => (mayT (vr (cond ((decide ((l.length) ≤ (256)))) (.bool (utfB l 0)) undef) rfl) hA)) (vr (.bool (false)) rfl) fun bb8 hbb9 => (oA rfl (oZ (tN (hK2 _ _ (wpF_ret (postF_ret (fn := Tryd.f78) _ rfl [.bool (bb8)] (.bool (bb8)) rfl ⟨rfl, trivial⟩ ?_)))))))
 subst hbb9
 exact ⟨rfl, hE⟩
open Go.RowKit
set_option maxRecDepth 100000
theorem rE2_ref (r : Refs) : rE2 r = ((decide (r.head = []) && zeroB r.at_) || (decide (r.head ≠ []) && ((!nameB r.head) || (!zeroB r.at_)))) := Bool.or_comm _ _
theorem entE_ref (l : List Ent) (i : Nat) : entE l i = ((((decide ((l.getD i dEntry).kind.toNat < 1)) || (decide (3 < (l.getD i dEntry).kind.toNat))) || decide (32 < (l.getD i dEntry).name.length)) || (!noteB (l.getD i dEntry).note)) := by
 unfold entE kindB
 have : (!((decide ((l.getD i dEntry).kind.toNat = 1) || decide ((l.getD i dEntry).kind.toNat = 2)) || decide ((l.getD i dEntry).kind.toNat = 3))) = ((decide ((l.getD i dEntry).kind.toNat < 1)) || (decide (3 < (l.getD i dEntry).kind.toNat))) := by
  rw [Bool.eq_iff_iff]
  simp only [Bool.or_eq_true, Bool.not_eq_true', Bool.or_eq_false_iff, decide_eq_true_eq, decide_eq_false_iff_not]
  omega
 rw [this]
 ac_rfl
theorem wr26_ty25 : Tryd.prog.underlying 25 = some (.array 32 5) := by kernel_rfl
theorem wr26_eg25 : Tryd.prog.eqGuardType Tryd.prog.depth 25 = false := by kernel_rfl
theorem wr26_ty5 : Tryd.prog.underlying 5 = some (.int .u8) := by kernel_rfl
theorem wr26_sz5 : ∀ w' : World, (sizeOf 5).run Tryd.prog w' = .ok 1 w' := fun _ => by kernel_rfl
theorem wr26_ty46 : Tryd.prog.underlying 46 = some (.slice 69) := by kernel_rfl
theorem wr26_szg69 : ∀ w' : World, (sizeOf 69).run Tryd.prog w' = .ok 33 w' := fun _ => by kernel_rfl
theorem wr26_fo69_0 : FieldOff Tryd.prog 69 0 0 := fun b o w => by simp [go_sem]
theorem wr26_ty9 : Tryd.prog.underlying 9 = some (.string) := by kernel_rfl
theorem wr26_pl64 : Plain Tryd.prog 64 := fun _ _ => by kernel_rfl
theorem wr26_fo69_1 : FieldOff Tryd.prog 69 1 1 := fun b o w => by simp [go_sem]
theorem wr26_isz25 : (Tryd.prog.info? 25).map (·.size) = some 32 := by kernel_rfl
theorem wr26_pl86 : Plain Tryd.prog 86 := fun _ _ => by kernel_rfl
theorem wr26_fo49_0 : FieldOff Tryd.prog 49 0 0 := fun b o w => by simp [go_sem]
theorem wr26_pl85 : Plain Tryd.prog 85 := fun _ _ => by kernel_rfl
theorem wr26_fo49_1 : FieldOff Tryd.prog 49 1 1 := fun b o w => by simp [go_sem]
theorem wr26_fo49_4 : FieldOff Tryd.prog 49 4 35 := fun b o w => by simp [go_sem]
theorem wr26_ty47 : Tryd.prog.underlying 47 = some (.slice 122) := by kernel_rfl
theorem wr26_fo49_2 : FieldOff Tryd.prog 49 2 2 := fun b o w => by simp [go_sem]
theorem wr26_fo49_3 : FieldOff Tryd.prog 49 3 3 := fun b o w => by simp [go_sem]
theorem wr26_szg122 : ∀ w' : World, (sizeOf 122).run Tryd.prog w' = .ok 67 w' := fun _ => by kernel_rfl
theorem wr26_ty122 : ∃ fs, Tryd.prog.underlying 122 = some (.struct fs) := struct_of (by kernel_rfl)
theorem wr26_isz122 : (Tryd.prog.info? 122).map (·.size) = some 67 := by kernel_rfl
theorem wr26_al122 {d : Option Tmp} {ty : TypeId} {pos : String} {af : Array Edge} {gd : Option (Nat × Bool)} (σ : Operand → Value) (w : World) : (execOp σ ⟨d, .alloc 122, ty, pos, af, gd⟩).run Tryd.prog w = .ok (.value (PQ w.heap.size 0)) (w.alloc (.cells (entC (⟨0, [], zid, zid, []⟩ : Ent)).toArray 122)) := by kernel_rfl
theorem wr26_fo122_0 : FieldOff Tryd.prog 122 0 0 := fun b o w => by simp [go_sem]
theorem wr26_fo67_0 : FieldOff Tryd.prog 67 0 0 := fun b o w => by simp [go_sem]
theorem wr26_fo67_1 : FieldOff Tryd.prog 67 1 1 := fun b o w => by simp [go_sem]
theorem wr26_fo122_1 : FieldOff Tryd.prog 122 1 66 := fun b o w => by simp [go_sem]
theorem wr26_pl78 : Plain Tryd.prog 78 := fun _ _ => by kernel_rfl
set_option maxHeartbeats 1600000
theorem rfzero_any (w : World) (u : Id32) :
  Calls Tryd.prog 86 #[AB u.1] w fun e w' => e = .returned (.bool (zeroB u)) ∧ Ext w w' := by
 refine calls_of_wpF (args := [AB u.1]) Tryd.func86 rfl 6 rfl (Nat.le_of_ble_eq_true rfl) ?_
 intro ρ0 hb
 have T0 : ρ0 0 = (AB u.1 : Value) := hb.get 0
 clear hb
 have hE := Ext.refl w
 refine sk fun K1 hK1 => (wt (oS rfl (Yk.box (cs := (Lib.byteCells u.1 : List Value).toArray) T0 fun n2 w3 hn4 hb5 hx6 hs7 => ?_)))
 have hE := hE.trans hx6
 have hb8 := hb5; clear hb5
 have hl9 : n2 < w3.heap.size := by omega
 refine oA rfl (oZ (tN (hK1 _ _ (sk fun K10 hK10 => (wt (oS rfl (Yk.loadAll (vr (PQ n2 0) rfl) hb8 wr26_ty25 rfl (by exact sizeId_of u.2) (oS rfl (Yk.run (v := AB (List.replicate 32 0)) (by kernel_rfl) (oS rfl (Yk.eqArr (l1 := u.1) (l2 := (List.replicate 32 0)) wr26_ty25 wr26_ty5 wr26_sz5 wr26_eg25 (vr (AB u.1) rfl) (vr (AB (List.replicate 32 0)) rfl) (u.2) (List.length_replicate) (oA rfl (oZ (tN (hK10 _ _ (wpF_ret (postF_ret (fn := Tryd.f86) _ rfl [.bool (decide (u.1 = (List.replicate 32 0)))] (.bool (decide (u.1 = (List.replicate 32 0)))) rfl ⟨rfl, trivial⟩ ?_)))))))))))))))))
 exact ⟨rfl, hE⟩

theorem rflist_any (w : World) (v : Value) (l : List Nmd) (hr : RG 33 nmdC w v l) (hll : l.length < 9223372036854775807) (hln : ∀ u ∈ l, u.name.length ≤ 9223372036854775807) :
  Calls Tryd.prog 85 #[v] w fun e w' => e = .returned (.bool (nlistB l)) ∧ Ext w w' := by
 refine calls_of_wpF (args := [v]) Tryd.func85 rfl 46 rfl (Nat.le_of_ble_eq_true rfl) ?_
 intro ρ0 hb
 have T0 : ρ0 0 = (v : Value) := hb.get 0
 clear hb
 have hE := Ext.refl w
 refine sk fun K1 hK1 => (wt (oA rfl (oZ (tN (hK1 _ _ (sk fun K2 hK2 => (sk fun K3 hK3 => (wt (oM rfl (oS rfl (Yk.lenRG wr26_ty46 (RG.of hr T0) (oS rfl (Yk.eqI (a := (l.length : Nat)) (b := (64 : Nat)) rfl rfl (k_gtr _ _ _ _) (oZ (tN (hK3 _ _ ?_))))))))))))))))
 refine wpF_cond ((64) < (l.length)) (vr (.bool (decide ((64) < (l.length)))) rfl) (fun hc0 => ?_) (fun hc0 => ?_)
 ·refine sk fun K4 hK4 => (wt (oA rfl (oZ (tN (hK4 _ _ (wpF_ret (thenF_ret (postF_ret (fn := Tryd.f85) _ rfl [.bool (false)] (.bool (false)) rfl ⟨rfl, trivial⟩ ?_))))))))
  exact ⟨by rw [nlistB_long (by omega)], hE⟩
 refine wpF_skip (tN (hK2 _ _ (sk fun K5 hK5 => (sk fun K6 hK6 => (wt (oA rfl (oL_ [(0, v), (2, .bool (false)), (3, NI 0)] ⟨T0, rfl, rfl, trivial⟩ fun ρ7 ⟨T0, T2, T3, _⟩ => (tN (hK6 _ _ (wpF_block (wpF_loop (fun (ρ : Slots) (wz : World) => ∃ i : Nat, ρ 0 = (v : Value) ∧ ρ 3 = (NI i : Value) ∧ RG 33 nmdC wz v l ∧ Ext w wz ∧ (i ≤ l.length) ∧ (∀ j, j < i → nE l j = false) ∧ True) (fun ρ _ => l.length - (intOf (ρ 3)).toNat) ⟨0, T0, T3, hr, hE, Nat.zero_le _, fun j hj => absurd hj (Nat.not_lt_zero _), trivial⟩ ?_)))))))))))
 clear hr hE
 rintro ρ8 w9 ⟨i, T0, T3, hr, hE, hi, hn, -⟩
 have q3 := T3
 refine sk fun K10 hK10 => (sk fun K11 hK11 => (wt (oM rfl (oM rfl (oS rfl (Yk.lenRG wr26_ty46 (RG.of hr T0) (oS rfl (Yk.eqI (a := (i : Nat)) (b := (l.length : Nat)) T3 rfl (k_lss _ _ _ _) (oZ (tN (hK11 _ _ ?_)))))))))))
 refine wpF_cond ((i) < (l.length)) (vr (.bool (decide ((i) < (l.length)))) rfl) (fun hc1 => ?_) (fun hc1 => ?_)
 ·have hlt : i < l.length := hc1
  have hnm := hln _ (getD_mem dNmd hlt)
  refine wpF_skip (tN (hK10 _ _ (sk fun K12 hK12 => (wpF_block (sk fun K13 hK13 => ?_)))))
  refine wpF_draw [Is (v), Is (NI i), fun x w' => PR (nmdC (l.getD (i) dNmd)) x w', PCell (St ((l.getD (i) dNmd).name)), Is (St ((l.getD (i) dNmd).name)), Is (.bool (nameB ((l.getD (i) dNmd).name))), Is (.bool (!(nameB ((l.getD (i) dNmd).name)))), Is (.bool (!(nameB ((l.getD (i) dNmd).name)))), Is (cond (!(!(nameB ((l.getD (i) dNmd).name)))) (v) undef), Is (cond (!(!(nameB ((l.getD (i) dNmd).name)))) (NI i) undef), fun x w' => (!(!(nameB ((l.getD (i) dNmd).name)))) = true → (fun x w' => PR (nmdC (l.getD (i) dNmd)) x w') x w', fun x w' => (!(!(nameB ((l.getD (i) dNmd).name)))) = true → (fun x w' => PR (Lib.byteCells (l.getD (i) dNmd).id.1) x w') x w', Is (cond (!(!(nameB ((l.getD (i) dNmd).name)))) (AB ((l.getD (i) dNmd).id.1)) undef), Is (cond (!(!(nameB ((l.getD (i) dNmd).name)))) (.bool (zeroB ((l.getD (i) dNmd).id))) undef), Is (.bool ((!(nameB ((l.getD (i) dNmd).name))) || (zeroB ((l.getD (i) dNmd).id)))), Is (.bool ((!(nameB ((l.getD (i) dNmd).name))) || (zeroB ((l.getD (i) dNmd).id)))), Is (cond (!((!(nameB ((l.getD (i) dNmd).name))) || (zeroB ((l.getD (i) dNmd).id)))) (NI i) undef), Is (cond (!((!(nameB ((l.getD (i) dNmd).name))) || (zeroB ((l.getD (i) dNmd).id)))) (.bool (decide ((0) < (i)))) undef), Is (cond (!((!(nameB ((l.getD (i) dNmd).name))) || (zeroB ((l.getD (i) dNmd).id)))) (.bool (decide ((0) < (i)))) undef), Is (cond ((!((!(nameB ((l.getD (i) dNmd).name))) || (zeroB ((l.getD (i) dNmd).id)))) && (decide ((0) < (i)))) (v) undef), Is (cond ((!((!(nameB ((l.getD (i) dNmd).name))) || (zeroB ((l.getD (i) dNmd).id)))) && (decide ((0) < (i)))) (NI i) undef), Is (cond ((!((!(nameB ((l.getD (i) dNmd).name))) || (zeroB ((l.getD (i) dNmd).id)))) && (decide ((0) < (i)))) (NI ((i) - (1))) undef), fun x w' => ((!((!(nameB ((l.getD (i) dNmd).name))) || (zeroB ((l.getD (i) dNmd).id)))) && (decide ((0) < (i)))) = true → (fun x w' => PR (nmdC (l.getD ((i) - (1)) dNmd)) x w') x w', fun x w' => ((!((!(nameB ((l.getD (i) dNmd).name))) || (zeroB ((l.getD (i) dNmd).id)))) && (decide ((0) < (i)))) = true → (PCell (St ((l.getD ((i) - (1)) dNmd).name))) x w', Is (cond ((!((!(nameB ((l.getD (i) dNmd).name))) || (zeroB ((l.getD (i) dNmd).id)))) && (decide ((0) < (i)))) (St ((l.getD ((i) - (1)) dNmd).name)) undef), Is (cond ((!((!(nameB ((l.getD (i) dNmd).name))) || (zeroB ((l.getD (i) dNmd).id)))) && (decide ((0) < (i)))) (v) undef), Is (cond ((!((!(nameB ((l.getD (i) dNmd).name))) || (zeroB ((l.getD (i) dNmd).id)))) && (decide ((0) < (i)))) (NI i) undef), fun x w' => ((!((!(nameB ((l.getD (i) dNmd).name))) || (zeroB ((l.getD (i) dNmd).id)))) && (decide ((0) < (i)))) = true → (fun x w' => PR (nmdC (l.getD (i) dNmd)) x w') x w', fun x w' => ((!((!(nameB ((l.getD (i) dNmd).name))) || (zeroB ((l.getD (i) dNmd).id)))) && (decide ((0) < (i)))) = true → (PCell (St ((l.getD (i) dNmd).name))) x w', Is (cond ((!((!(nameB ((l.getD (i) dNmd).name))) || (zeroB ((l.getD (i) dNmd).id)))) && (decide ((0) < (i)))) (St ((l.getD (i) dNmd).name)) undef), Is (cond ((!((!(nameB ((l.getD (i) dNmd).name))) || (zeroB ((l.getD (i) dNmd).id)))) && (decide ((0) < (i)))) (.bool (!(Op.bytesLess ((l.getD ((i) - (1)) dNmd).name) ((l.getD (i) dNmd).name)))) undef), Is (cond (!((!(nameB ((l.getD (i) dNmd).name))) || (zeroB ((l.getD (i) dNmd).id)))) (.bool ((decide ((0) < (i))) && (!(Op.bytesLess ((l.getD ((i) - (1)) dNmd).name) ((l.getD (i) dNmd).name))))) undef), Is (.bool (((!(nameB ((l.getD (i) dNmd).name))) || (zeroB ((l.getD (i) dNmd).id))) || ((decide ((0) < (i))) && (!(Op.bytesLess ((l.getD ((i) - (1)) dNmd).name) ((l.getD (i) dNmd).name))))))] (by kernel_rfl) [13, 14, 15, 16, 17, 18, 19, 20, 21, 22, 23, 24, 25, 26, 27, 28, 29, 30, 31, 32, 33, 34, 35, 36, 37, 38, 39, 40, 41, 42, 43, 44, 45] (by kernel_rfl) (by kernel_rfl) (si2 ⟨(fun _ _ _ h k => PR.keep h k), Stab.pcell _, (si6 ⟨(Stab.may ((fun _ _ _ h k => PR.keep h k))), (Stab.may ((fun _ _ _ h k => PR.keep h k))), (si10 ⟨(Stab.may ((fun _ _ _ h k => PR.keep h k))), (Stab.may (Stab.pcell _)), (si3 ⟨(Stab.may ((fun _ _ _ h k => PR.keep h k))), (Stab.may (Stab.pcell _)), (si4 trivial)⟩)⟩)⟩)⟩) ?hs1006 ?hQ1006
  case hs1006 =>
   refine ⟨?_, ?_, ?_, ?_, ?_, ?_, ?_, ?_, ?_, ?_, ?_, ?_, ?_, ?_, ?_, ?_, ?_, ?_, ?_, ?_, ?_, ?_, ?_, ?_, ?_, ?_, ?_, ?_, ?_, ?_, ?_, ?_, ?_, trivial⟩
   ·refine stepN rfl fun σ w1 hC h => ?_
    have e0 := (eqo (h 0 (by decide))).trans T0
    exact Yk.move e0 ⟨Ext.refl _, rfl⟩
   ·refine stepN rfl fun σ w1 hC h => ?_
    have e3 := (eqo (h 3 (by decide))).trans T3
    exact Yk.move e3 ⟨Ext.refl _, rfl⟩
   ·refine stepN rfl fun σ w1 hC h => ?_
    have e13 := eqo (h 13 (by decide))
    have e14 := eqo (h 14 (by decide))
    exact Yk.atRG wr26_ty46 wr26_szg69 (by decide) dNmd (RG.of (hr.keep hC) e13) e14 (by omega) fun v h => ⟨Ext.refl _, h⟩
   ·refine stepN rfl fun σ w1 hC h => ?_
    have e15 : (fun x w' => PR (nmdC (l.getD (i) dNmd)) x w') (σ 15) w1 := h 15 (by decide)
    exact Yk.fieldPR (n := 1) wr26_fo69_0 e15 fun v h => ⟨Ext.refl _, PR.pcell (by rw [nmd_f0] at h; exact h)⟩
   ·refine stepN rfl fun σ w1 hC h => ?_
    have e16 : (PCell (St ((l.getD (i) dNmd).name))) (σ 16) w1 := h 16 (by decide)
    exact Yk.loadC wr26_ty9 rfl e16 ⟨Ext.refl _, rfl⟩
   ·refine stepN rfl fun σ w1 hC h => ?_
    have e17 := eqo (h 17 (by decide))
    refine Yk.callA1 wr26_pl64 e17 ((refName_any _ ((l.getD (i) dNmd).name) (by have := hnm; omega)).mono ?_)
    rintro e w2 ⟨rfl, hx⟩
    exact ⟨_, rfl, hx, rfl⟩
   ·refine stepN rfl fun σ w1 hC h => ?_
    have e18 := eqo (h 18 (by decide))
    exact Yk.notB e18 ⟨Ext.refl _, rfl⟩
   ·refine stepN rfl fun σ w1 hC h => ?_
    have e19 := eqo (h 19 (by decide))
    exact Yk.move e19 ⟨Ext.refl _, rfl⟩
   ·refine stepM 7 false 20 (G := !(!(nameB ((l.getD (i) dNmd).name)))) rfl rfl (fun x _ (h : x = .bool (!(nameB ((l.getD (i) dNmd).name)))) => gF h) (fun hu_ _ => mayU hu_) fun hG σ w1 hC h => ?_
    have e0 := (eqo (h 0 (by decide))).trans T0
    exact Yk.move e0 ⟨Ext.refl _, mayI hG⟩
   ·refine stepM 7 false 20 (G := !(!(nameB ((l.getD (i) dNmd).name)))) rfl rfl (fun x _ (h : x = .bool (!(nameB ((l.getD (i) dNmd).name)))) => gF h) (fun hu_ _ => mayU hu_) fun hG σ w1 hC h => ?_
    have e3 := (eqo (h 3 (by decide))).trans T3
    exact Yk.move e3 ⟨Ext.refl _, mayI hG⟩
   ·refine stepM 7 false 20 (G := !(!(nameB ((l.getD (i) dNmd).name)))) rfl rfl (fun x _ (h : x = .bool (!(nameB ((l.getD (i) dNmd).name)))) => gF h) (fun hu_ _ => noG hu_) fun hG σ w1 hC h => ?_
    have e21 := eqo (h 21 (by decide))
    have e22 := eqo (h 22 (by decide))
    exact Yk.atRG wr26_ty46 wr26_szg69 (by decide) dNmd (RG.of (hr.keep hC) (mayT e21 hG)) (mayT e22 hG) (by simp only [gA, gB, gC, gD, gE] at hG; omega) fun v h => ⟨Ext.refl _, fun _ => h⟩
   ·refine stepM 7 false 20 (G := !(!(nameB ((l.getD (i) dNmd).name)))) rfl rfl (fun x _ (h : x = .bool (!(nameB ((l.getD (i) dNmd).name)))) => gF h) (fun hu_ _ => noG hu_) fun hG σ w1 hC h => ?_
    have e23 : (fun x w' => (!(!(nameB ((l.getD (i) dNmd).name)))) = true → (fun x w' => PR (nmdC (l.getD (i) dNmd)) x w') x w') (σ 23) w1 := h 23 (by decide)
    exact Yk.fieldPR (n := 32) wr26_fo69_1 (e23 hG) fun v h => ⟨Ext.refl _, fun _ => by rw [nmd_f1] at h; exact h⟩
   ·refine stepM 7 false 20 (G := !(!(nameB ((l.getD (i) dNmd).name)))) rfl rfl (fun x _ (h : x = .bool (!(nameB ((l.getD (i) dNmd).name)))) => gF h) (fun hu_ _ => mayU hu_) fun hG σ w1 hC h => ?_
    have e24 : (fun x w' => (!(!(nameB ((l.getD (i) dNmd).name)))) = true → (fun x w' => PR (Lib.byteCells (l.getD (i) dNmd).id.1) x w') x w') (σ 24) w1 := h 24 (by decide)
    exact Yk.loadPR (e24 hG) wr26_ty25 rfl (by rw [Lib.byteCells_length, (l.getD (i) dNmd).id.2]; exact wr26_isz25) ⟨Ext.refl _, mayI hG⟩
   ·refine stepM 7 false 20 (G := !(!(nameB ((l.getD (i) dNmd).name)))) rfl rfl (fun x _ (h : x = .bool (!(nameB ((l.getD (i) dNmd).name)))) => gF h) (fun hu_ _ => mayU hu_) fun hG σ w1 hC h => ?_
    have e25 := eqo (h 25 (by decide))
    refine Yk.callA1 wr26_pl86 (mayT e25 hG) ((rfzero_any _ ((l.getD (i) dNmd).id)).mono ?_)
    rintro e w2 ⟨rfl, hx⟩
    exact ⟨_, rfl, hx, mayI hG⟩
   ·refine stepN rfl fun σ w1 hC h => ?_
    have e20 := eqo (h 20 (by decide))
    have e26 := eqo (h 26 (by decide))
    exact Yk.pickOr e20 (vr (.bool (true)) rfl) (fun hA => (mayT e26 (not_i hA))) ⟨Ext.refl _, rfl⟩
   ·refine stepN rfl fun σ w1 hC h => ?_
    have e27 := eqo (h 27 (by decide))
    exact Yk.move e27 ⟨Ext.refl _, rfl⟩
   ·refine stepM 15 false 28 (G := !((!(nameB ((l.getD (i) dNmd).name))) || (zeroB ((l.getD (i) dNmd).id)))) rfl rfl (fun x _ (h : x = .bool ((!(nameB ((l.getD (i) dNmd).name))) || (zeroB ((l.getD (i) dNmd).id)))) => gF h) (fun hu_ _ => mayU hu_) fun hG σ w1 hC h => ?_
    have e3 := (eqo (h 3 (by decide))).trans T3
    exact Yk.move e3 ⟨Ext.refl _, mayI hG⟩
   ·refine stepM 15 false 28 (G := !((!(nameB ((l.getD (i) dNmd).name))) || (zeroB ((l.getD (i) dNmd).id)))) rfl rfl (fun x _ (h : x = .bool ((!(nameB ((l.getD (i) dNmd).name))) || (zeroB ((l.getD (i) dNmd).id)))) => gF h) (fun hu_ _ => mayU hu_) fun hG σ w1 hC h => ?_
    have e29 := eqo (h 29 (by decide))
    exact Yk.eqI (a := ((i : Nat) : Int)) (b := ((0 : Nat) : Int)) (mayT e29 hG) (vr (NI 0) rfl) (k_gtr _ .i64 (i) (0)) ⟨Ext.refl _, mayI hG⟩
   ·refine stepM 15 false 28 (G := !((!(nameB ((l.getD (i) dNmd).name))) || (zeroB ((l.getD (i) dNmd).id)))) rfl rfl (fun x _ (h : x = .bool ((!(nameB ((l.getD (i) dNmd).name))) || (zeroB ((l.getD (i) dNmd).id)))) => gF h) (fun hu_ _ => mayU hu_) fun hG σ w1 hC h => ?_
    have e30 := eqo (h 30 (by decide))
    exact Yk.move (mayT e30 hG) ⟨Ext.refl _, mayI hG⟩
   ·refine stepM 18 true 31 (G := (!((!(nameB ((l.getD (i) dNmd).name))) || (zeroB ((l.getD (i) dNmd).id)))) && (decide ((0) < (i)))) rfl rfl (fun x _ (h : x = cond (!((!(nameB ((l.getD (i) dNmd).name))) || (zeroB ((l.getD (i) dNmd).id)))) (.bool (decide ((0) < (i)))) undef) => geT h) (fun hu_ _ => mayU hu_) fun hG σ w1 hC h => ?_
    have e0 := (eqo (h 0 (by decide))).trans T0
    exact Yk.move e0 ⟨Ext.refl _, mayI hG⟩
   ·refine stepM 18 true 31 (G := (!((!(nameB ((l.getD (i) dNmd).name))) || (zeroB ((l.getD (i) dNmd).id)))) && (decide ((0) < (i)))) rfl rfl (fun x _ (h : x = cond (!((!(nameB ((l.getD (i) dNmd).name))) || (zeroB ((l.getD (i) dNmd).id)))) (.bool (decide ((0) < (i)))) undef) => geT h) (fun hu_ _ => mayU hu_) fun hG σ w1 hC h => ?_
    have e3 := (eqo (h 3 (by decide))).trans T3
    exact Yk.move e3 ⟨Ext.refl _, mayI hG⟩
   ·refine stepM 18 true 31 (G := (!((!(nameB ((l.getD (i) dNmd).name))) || (zeroB ((l.getD (i) dNmd).id)))) && (decide ((0) < (i)))) rfl rfl (fun x _ (h : x = cond (!((!(nameB ((l.getD (i) dNmd).name))) || (zeroB ((l.getD (i) dNmd).id)))) (.bool (decide ((0) < (i)))) undef) => geT h) (fun hu_ _ => mayU hu_) fun hG σ w1 hC h => ?_
    have e33 := eqo (h 33 (by decide))
    exact Yk.bin (xv := NI i) (yv := NI 1) (mayT e33 hG) (vr (NI 1) rfl) rfl (i64_sub _ (i) (1) (by simp only [gA, gB, gC, gD, gE] at hG; omega) (by simp only [gA, gB, gC, gD, gE] at hG; omega)) ⟨Ext.refl _, mayI hG⟩
   ·refine stepM 18 true 31 (G := (!((!(nameB ((l.getD (i) dNmd).name))) || (zeroB ((l.getD (i) dNmd).id)))) && (decide ((0) < (i)))) rfl rfl (fun x _ (h : x = cond (!((!(nameB ((l.getD (i) dNmd).name))) || (zeroB ((l.getD (i) dNmd).id)))) (.bool (decide ((0) < (i)))) undef) => geT h) (fun hu_ _ => noG hu_) fun hG σ w1 hC h => ?_
    have e32 := eqo (h 32 (by decide))
    have e34 := eqo (h 34 (by decide))
    exact Yk.atRG wr26_ty46 wr26_szg69 (by decide) dNmd (RG.of (hr.keep hC) (mayT e32 hG)) (mayT e34 hG) (by simp only [gA, gB, gC, gD, gE] at hG; omega) fun v h => ⟨Ext.refl _, fun _ => h⟩
   ·refine stepM 18 true 31 (G := (!((!(nameB ((l.getD (i) dNmd).name))) || (zeroB ((l.getD (i) dNmd).id)))) && (decide ((0) < (i)))) rfl rfl (fun x _ (h : x = cond (!((!(nameB ((l.getD (i) dNmd).name))) || (zeroB ((l.getD (i) dNmd).id)))) (.bool (decide ((0) < (i)))) undef) => geT h) (fun hu_ _ => noG hu_) fun hG σ w1 hC h => ?_
    have e35 : (fun x w' => ((!((!(nameB ((l.getD (i) dNmd).name))) || (zeroB ((l.getD (i) dNmd).id)))) && (decide ((0) < (i)))) = true → (fun x w' => PR (nmdC (l.getD ((i) - (1)) dNmd)) x w') x w') (σ 35) w1 := h 35 (by decide)
    exact Yk.fieldPR (n := 1) wr26_fo69_0 (e35 hG) fun v h => ⟨Ext.refl _, fun _ => PR.pcell (by rw [nmd_f0] at h; exact h)⟩
   ·refine stepM 18 true 31 (G := (!((!(nameB ((l.getD (i) dNmd).name))) || (zeroB ((l.getD (i) dNmd).id)))) && (decide ((0) < (i)))) rfl rfl (fun x _ (h : x = cond (!((!(nameB ((l.getD (i) dNmd).name))) || (zeroB ((l.getD (i) dNmd).id)))) (.bool (decide ((0) < (i)))) undef) => geT h) (fun hu_ _ => mayU hu_) fun hG σ w1 hC h => ?_
    have e36 : (fun x w' => ((!((!(nameB ((l.getD (i) dNmd).name))) || (zeroB ((l.getD (i) dNmd).id)))) && (decide ((0) < (i)))) = true → (PCell (St ((l.getD ((i) - (1)) dNmd).name))) x w') (σ 36) w1 := h 36 (by decide)
    exact Yk.loadC wr26_ty9 rfl (e36 hG) ⟨Ext.refl _, mayI hG⟩
   ·refine stepM 18 true 31 (G := (!((!(nameB ((l.getD (i) dNmd).name))) || (zeroB ((l.getD (i) dNmd).id)))) && (decide ((0) < (i)))) rfl rfl (fun x _ (h : x = cond (!((!(nameB ((l.getD (i) dNmd).name))) || (zeroB ((l.getD (i) dNmd).id)))) (.bool (decide ((0) < (i)))) undef) => geT h) (fun hu_ _ => mayU hu_) fun hG σ w1 hC h => ?_
    have e0 := (eqo (h 0 (by decide))).trans T0
    exact Yk.move e0 ⟨Ext.refl _, mayI hG⟩
   ·refine stepM 18 true 31 (G := (!((!(nameB ((l.getD (i) dNmd).name))) || (zeroB ((l.getD (i) dNmd).id)))) && (decide ((0) < (i)))) rfl rfl (fun x _ (h : x = cond (!((!(nameB ((l.getD (i) dNmd).name))) || (zeroB ((l.getD (i) dNmd).id)))) (.bool (decide ((0) < (i)))) undef) => geT h) (fun hu_ _ => mayU hu_) fun hG σ w1 hC h => ?_
    have e3 := (eqo (h 3 (by decide))).trans T3
    exact Yk.move e3 ⟨Ext.refl _, mayI hG⟩
   ·refine stepM 18 true 31 (G := (!((!(nameB ((l.getD (i) dNmd).name))) || (zeroB ((l.getD (i) dNmd).id)))) && (decide ((0) < (i)))) rfl rfl (fun x _ (h : x = cond (!((!(nameB ((l.getD (i) dNmd).name))) || (zeroB ((l.getD (i) dNmd).id)))) (.bool (decide ((0) < (i)))) undef) => geT h) (fun hu_ _ => noG hu_) fun hG σ w1 hC h => ?_
    have e38 := eqo (h 38 (by decide))
    have e39 := eqo (h 39 (by decide))
    exact Yk.atRG wr26_ty46 wr26_szg69 (by decide) dNmd (RG.of (hr.keep hC) (mayT e38 hG)) (mayT e39 hG) (by simp only [gA, gB, gC, gD, gE] at hG; omega) fun v h => ⟨Ext.refl _, fun _ => h⟩
   ·refine stepM 18 true 31 (G := (!((!(nameB ((l.getD (i) dNmd).name))) || (zeroB ((l.getD (i) dNmd).id)))) && (decide ((0) < (i)))) rfl rfl (fun x _ (h : x = cond (!((!(nameB ((l.getD (i) dNmd).name))) || (zeroB ((l.getD (i) dNmd).id)))) (.bool (decide ((0) < (i)))) undef) => geT h) (fun hu_ _ => noG hu_) fun hG σ w1 hC h => ?_
    have e40 : (fun x w' => ((!((!(nameB ((l.getD (i) dNmd).name))) || (zeroB ((l.getD (i) dNmd).id)))) && (decide ((0) < (i)))) = true → (fun x w' => PR (nmdC (l.getD (i) dNmd)) x w') x w') (σ 40) w1 := h 40 (by decide)
    exact Yk.fieldPR (n := 1) wr26_fo69_0 (e40 hG) fun v h => ⟨Ext.refl _, fun _ => PR.pcell (by rw [nmd_f0] at h; exact h)⟩
   ·refine stepM 18 true 31 (G := (!((!(nameB ((l.getD (i) dNmd).name))) || (zeroB ((l.getD (i) dNmd).id)))) && (decide ((0) < (i)))) rfl rfl (fun x _ (h : x = cond (!((!(nameB ((l.getD (i) dNmd).name))) || (zeroB ((l.getD (i) dNmd).id)))) (.bool (decide ((0) < (i)))) undef) => geT h) (fun hu_ _ => mayU hu_) fun hG σ w1 hC h => ?_
    have e41 : (fun x w' => ((!((!(nameB ((l.getD (i) dNmd).name))) || (zeroB ((l.getD (i) dNmd).id)))) && (decide ((0) < (i)))) = true → (PCell (St ((l.getD (i) dNmd).name))) x w') (σ 41) w1 := h 41 (by decide)
    exact Yk.loadC wr26_ty9 rfl (e41 hG) ⟨Ext.refl _, mayI hG⟩
   ·refine stepM 18 true 31 (G := (!((!(nameB ((l.getD (i) dNmd).name))) || (zeroB ((l.getD (i) dNmd).id)))) && (decide ((0) < (i)))) rfl rfl (fun x _ (h : x = cond (!((!(nameB ((l.getD (i) dNmd).name))) || (zeroB ((l.getD (i) dNmd).id)))) (.bool (decide ((0) < (i)))) undef) => geT h) (fun hu_ _ => mayU hu_) fun hG σ w1 hC h => ?_
    have e37 := eqo (h 37 (by decide))
    have e42 := eqo (h 42 (by decide))
    exact Yk.ltSt (l := (l.getD ((i) - (1)) dNmd).name) (m := (l.getD (i) dNmd).name) (.inr rfl) (mayT e37 hG) (mayT e42 hG) (!(Op.bytesLess ((l.getD ((i) - (1)) dNmd).name) ((l.getD (i) dNmd).name))) rfl ⟨Ext.refl _, mayI hG⟩
   ·refine stepM 15 false 28 (G := !((!(nameB ((l.getD (i) dNmd).name))) || (zeroB ((l.getD (i) dNmd).id)))) rfl rfl (fun x _ (h : x = .bool ((!(nameB ((l.getD (i) dNmd).name))) || (zeroB ((l.getD (i) dNmd).id)))) => gF h) (fun hu_ _ => mayU hu_) fun hG σ w1 hC h => ?_
    have e31 := eqo (h 31 (by decide))
    have e43 := eqo (h 43 (by decide))
    exact Yk.pickAnd (mayT e31 hG) (fun hA => (mayT e43 (and_i hG hA))) (vr (.bool (false)) rfl) ⟨Ext.refl _, mayI hG⟩
   ·refine stepN rfl fun σ w1 hC h => ?_
    have e28 := eqo (h 28 (by decide))
    have e44 := eqo (h 44 (by decide))
    exact Yk.pickOr e28 (vr (.bool (true)) rfl) (fun hA => (mayT e44 (not_i hA))) ⟨Ext.refl _, rfl⟩
  intro ρ14 w15 hx16 he hf
  obtain ⟨-, -, -, -, -, -, -, -, -, -, -, -, -, -, -, -, -, -, -, -, -, -, -, -, -, -, -, -, -, -, -, -, k45, -⟩ := hf
  obtain ⟨T0, T3, -⟩ := he.hold [(0, _), (3, _)] ⟨T0, T3, trivial⟩ rfl
  clear he
  have hr := hr.keep hx16
  have hE := hE.trans hx16
  have T45 : ρ14 45 = .bool (((!(nameB ((l.getD (i) dNmd).name))) || (zeroB ((l.getD (i) dNmd).id))) || ((decide ((0) < (i))) && (!(Op.bytesLess ((l.getD ((i) - (1)) dNmd).name) ((l.getD (i) dNmd).name))))) := k45
  clear k45
  refine tN (hK13 _ _ ?_)
  refine wpF_condB (((!(nameB ((l.getD (i) dNmd).name))) || (zeroB ((l.getD (i) dNmd).id))) || ((decide ((0) < (i))) && (!(Op.bytesLess ((l.getD ((i) - (1)) dNmd).name) ((l.getD (i) dNmd).name))))) T45 (fun hc2 => ?_) (fun hc2 => ?_)
  ·have hbad : nE l i = true := hc2
   refine sk fun K17 hK17 => (wt (oA rfl (oZ (tN (hK17 _ _ (wpF_ret (inBlockF_ret (thenF_ret (thenF_ret (inBlockF_ret (thenF_ret (postF_ret (fn := Tryd.f85) _ rfl [.bool (false)] (.bool (false)) rfl ⟨rfl, trivial⟩ ?_))))))))))))
   exact ⟨by rw [nlistB_bad hlt hbad], hE⟩
  have hbad : nE l i = false := hc2
  refine wpF_skip (bN (tN (hK12 _ _ (wt (oM rfl (oS rfl (Yk.bin (xv := NI i) (yv := NI 1) T3 rfl rfl (i64_add _ _ _ (by omega)) (oA rfl (oL_ [(0, v), (3, NI ((i) + (1)))] ⟨T0, rfl, trivial⟩ fun ρ18 ⟨T0, T3, _⟩ => (tN (And.intro ⟨i + 1, T0, T3, hr, hE, by omega, to_step hn hbad, trivial⟩ ?_)))))))))))
  show l.length - (intOf (ρ18 3)).toNat < l.length - (intOf (ρ8 3)).toNat
  rw [T3, q3]
  simp only [intOf, Int.toNat_natCast]; omega
 refine wpF_exit (thenF_exit (thenF_exit (inBlockF_hit (tN (hK5 _ _ (sk fun K19 hK19 => (wt (oA rfl (oZ (tN (hK19 _ _ (wpF_ret (postF_ret (fn := Tryd.f85) _ rfl [.bool (true)] (.bool (true)) rfl ⟨rfl, trivial⟩ ?_)))))))))))))
 exact ⟨by rw [nlistB_all (show l.length ≤ i by omega) hn, decide_eq_true (by omega)], hE⟩

theorem rfright_any (w : World) (x : RefsV) (hm : RefsAt w x) (hL : RefsLt x.1) :
  Calls Tryd.prog 32 #[.agg (refsC x).toArray] w fun e w' => e = .returned (.bool (rightF x.1)) ∧ Ext w w' := by
 have hmt := hm.branches
 have hmg := hm.tags
 have hml := hm.log
 refine calls_of_wpF (args := [.agg (refsC x).toArray]) Tryd.func32 rfl 81 rfl (Nat.le_of_ble_eq_true rfl) ?_
 intro ρ0 hb
 have T0 : ρ0 0 = (.agg (refsC x).toArray : Value) := hb.get 0
 clear hb
 have hE := Ext.refl w
 refine sk fun K1 hK1 => (wt (oS rfl (Yk.box (cs := (refsC x : List Value).toArray) T0 fun n2 w3 hn4 hb5 hx6 hs7 => ?_)))
 have hE := hE.trans hx6
 have hb8 := hb5; clear hb5
 have hl9 : n2 < w3.heap.size := by omega
 refine oA rfl (oZ (tN (hK1 _ _ (sk fun K10 hK10 => (sk fun K11 hK11 => (wt (oS rfl (Yk.fieldAt wr26_fo49_0 (vr (PQ n2 0) rfl) (oS rfl (Yk.cell1 wr26_ty46 rfl (vr (PQ n2 0) rfl) (cellAt hb8 (show (refsC x)[0]? = some (x.2.branches : Value) from refs_g0 x)) (oS rfl (Yk.callA1 wr26_pl85 (vr x.2.branches rfl) ((rflist_any _ _ x.1.branches (hmt.keep hE) hL.branches hL.bn).mono ?_)))))))))))))
 rintro e w13 ⟨rfl, hx12⟩
 refine ⟨_, rfl, ?_⟩
 have hE := hE.trans hx12
 have hb8 := eb hx12 hb8
 refine oS rfl (Yk.notB (vr (.bool (nlistB x.1.branches)) rfl) (oM rfl (opsF_mayV (PQ n2 1) rfl rfl (gF (vr (.bool (!(nlistB x.1.branches))) rfl)) (fun hG14 => Yk.fieldAt wr26_fo49_1 (vr (PQ n2 0) rfl) ⟨rfl, rfl⟩) (opsF_mayV (x.2.tags) rfl rfl (gF (vr (.bool (!(nlistB x.1.branches))) rfl)) (fun hG15 => Yk.cell1 wr26_ty46 rfl (mayT (vr (cond (!(!(nlistB x.1.branches))) (PQ n2 1) undef) rfl) hG15) (cellAt hb8 (show (refsC x)[1]? = some (x.2.tags : Value) from refs_g1 x)) ⟨rfl, rfl⟩) (opsF_mayC (.bool (nlistB x.1.tags)) rfl rfl (gF (vr (.bool (!(nlistB x.1.branches))) rfl)) (fun hG16 => Yk.callA1 wr26_pl85 (mayT (vr (cond (!(!(nlistB x.1.branches))) (x.2.tags) undef) rfl) hG16) ((rflist_any _ _ x.1.tags (hmg.keep hE) hL.tags hL.tn).mono (by rintro e w2 ⟨rfl, hx⟩; exact ⟨_, rfl, rfl, hx⟩))) fun w18 hx19 => ?_)))))
 have hE := hE.trans hx19
 have hb8 := eb hx19 hb8
 refine opsF_mayV (.bool (!(nlistB x.1.tags))) rfl rfl (gF (vr (.bool (!(nlistB x.1.branches))) rfl)) (fun hG20 => Yk.notB (mayT (vr (cond (!(!(nlistB x.1.branches))) (.bool (nlistB x.1.tags)) undef) rfl) hG20) ⟨rfl, rfl⟩) (oS rfl (Yk.pickOrN (vr (.bool (!(nlistB x.1.branches))) rfl) (vr (.bool (true)) rfl) (fun hA => (mayT (vr (cond (!(!(nlistB x.1.branches))) (.bool (!(nlistB x.1.tags))) undef) rfl) (not_i hA))) fun bb21 hbb22 => (oM rfl (opsF_mayV (PQ n2 35) rfl rfl (gF (vr (.bool (bb21)) rfl)) (fun hG23 => Yk.fieldAt wr26_fo49_4 (vr (PQ n2 0) rfl) ⟨rfl, rfl⟩) (opsF_mayV (x.2.log) rfl rfl (gF (vr (.bool (bb21)) rfl)) (fun hG24 => Yk.cell1 wr26_ty47 rfl (mayT (vr (cond (!bb21) (PQ n2 35) undef) rfl) hG24) (cellAt hb8 (show (refsC x)[35]? = some (x.2.log : Value) from refs_g4 x)) ⟨rfl, rfl⟩) (opsF_mayV (NI ((x.1.log).length)) rfl rfl (gF (vr (.bool (bb21)) rfl)) (fun hG25 => Yk.lenRG wr26_ty47 (RG.of (hml.keep hE) (mayT (vr (cond (!bb21) (x.2.log) undef) rfl) hG25)) ⟨rfl, rfl⟩) (opsF_mayV (.bool (decide ((64) < ((x.1.log).length)))) rfl rfl (gF (vr (.bool (bb21)) rfl)) (fun hG26 => Yk.eqI (a := (((x.1.log).length : Nat) : Int)) (b := ((64 : Nat) : Int)) (mayT (vr (cond (!bb21) (NI ((x.1.log).length)) undef) rfl) hG26) (vr (NI 64) rfl) (k_gtr _ .i64 ((x.1.log).length) (64)) ⟨rfl, rfl⟩) (oS rfl (Yk.pickOrN (vr (.bool (bb21)) rfl) (vr (.bool (true)) rfl) (fun hA => (mayT (vr (cond (!bb21) (.bool (decide ((64) < ((x.1.log).length)))) undef) rfl) (not_i hA))) fun bb27 hbb28 => (oZ (tN (hK11 _ _ ?_))))))))))))
 refine wpF_condB (bb27) (vr (.bool (bb27)) rfl) (fun hc0 => ?_) (fun hc0 => ?_)
 ·subst hbb22 hbb28
  have h1c : rE1 x.1 = true := hc0
  refine sk fun K29 hK29 => (wt (oA rfl (oZ (tN (hK29 _ _ (wpF_ret (thenF_ret (postF_ret (fn := Tryd.f32) _ rfl [.bool (false)] (.bool (false)) rfl ⟨rfl, trivial⟩ ?_))))))))
  exact ⟨by rw [rightF_1 h1c], hE⟩
 subst hbb22 hbb28
 have h1c : rE1 x.1 = false := hc0
 refine wpF_skip (tN (hK10 _ _ (sk fun K30 hK30 => (sk fun K31 hK31 => (wt (oS rfl (Yk.fieldAt wr26_fo49_2 (vr (PQ n2 0) rfl) (oS rfl (Yk.cell1 wr26_ty9 rfl (vr (PQ n2 2) rfl) (cellAt hb8 (show (refsC x)[2]? = some (St (x.1.head) : Value) from refs_g2 x)) (oS rfl (Yk.eqSt (l := x.1.head) (m := ([] : List UInt8)) (.inl rfl) (vr (St (x.1.head)) rfl) (vr (St (([] : List UInt8))) rfl) (decide ((x.1.head : List UInt8) = (([] : List UInt8) : List UInt8))) rfl (oM rfl (opsF_mayV (PQ n2 3) rfl rfl (gT (vr (.bool (decide ((x.1.head : List UInt8) = (([] : List UInt8) : List UInt8)))) rfl)) (fun hG32 => Yk.fieldAt wr26_fo49_3 (vr (PQ n2 0) rfl) ⟨rfl, rfl⟩) (opsF_mayV (AB x.1.at_.1) rfl rfl (gT (vr (.bool (decide ((x.1.head : List UInt8) = (([] : List UInt8) : List UInt8)))) rfl)) (fun hG33 => Yk.loadPR (PR.blk hb8 (refs_m3 x) (refs_n3 x) (mayT (vr (cond ((decide ((x.1.head : List UInt8) = (([] : List UInt8) : List UInt8)))) (PQ n2 3) undef) rfl) hG33)) wr26_ty25 rfl (sizeId_of x.1.at_.2) ⟨rfl, rfl⟩) (opsF_mayC (.bool (zeroB x.1.at_)) rfl rfl (gT (vr (.bool (decide ((x.1.head : List UInt8) = (([] : List UInt8) : List UInt8)))) rfl)) (fun hG34 => Yk.callA1 wr26_pl86 (mayT (vr (cond ((decide ((x.1.head : List UInt8) = (([] : List UInt8) : List UInt8)))) (AB x.1.at_.1) undef) rfl) hG34) ((rfzero_any _ x.1.at_).mono (by rintro e w2 ⟨rfl, hx⟩; exact ⟨_, rfl, rfl, hx⟩))) fun w36 hx37 => ?_)))))))))))))))
 have hE := hE.trans hx37
 have hb8 := eb hx37 hb8
 refine oS rfl (Yk.pickAndN (vr (.bool (decide ((x.1.head : List UInt8) = (([] : List UInt8) : List UInt8)))) rfl) (fun hA => (mayT (vr (cond ((decide ((x.1.head : List UInt8) = (([] : List UInt8) : List UInt8)))) (.bool (zeroB x.1.at_)) undef) rfl) hA)) (vr (.bool (false)) rfl) fun bb38 hbb39 => (oM rfl (opsF_mayV (PQ n2 2) rfl rfl (gF (vr (.bool (bb38)) rfl)) (fun hG40 => Yk.fieldAt wr26_fo49_2 (vr (PQ n2 0) rfl) ⟨rfl, rfl⟩) (opsF_mayV (St (x.1.head)) rfl rfl (gF (vr (.bool (bb38)) rfl)) (fun hG41 => Yk.cell1 wr26_ty9 rfl (mayT (vr (cond (!bb38) (PQ n2 2) undef) rfl) hG41) (cellAt hb8 (show (refsC x)[2]? = some (St (x.1.head) : Value) from refs_g2 x)) ⟨rfl, rfl⟩) (opsF_mayV (.bool (decide ((x.1.head : List UInt8) ≠ (([] : List UInt8) : List UInt8)))) rfl rfl (gF (vr (.bool (bb38)) rfl)) (fun hG42 => Yk.eqSt (l := x.1.head) (m := ([] : List UInt8)) (.inr rfl) (mayT (vr (cond (!bb38) (St (x.1.head)) undef) rfl) hG42) (vr (St (([] : List UInt8))) rfl) (decide ((x.1.head : List UInt8) ≠ (([] : List UInt8) : List UInt8))) rfl ⟨rfl, rfl⟩) (opsF_mayV (.bool (decide ((x.1.head : List UInt8) ≠ (([] : List UInt8) : List UInt8)))) rfl rfl (gF (vr (.bool (bb38)) rfl)) (fun hG43 => Yk.move (mayT (vr (cond (!bb38) (.bool (decide ((x.1.head : List UInt8) ≠ (([] : List UInt8) : List UInt8)))) undef) rfl) hG43) ⟨rfl, rfl⟩) (opsF_mayV (PQ n2 2) rfl rfl (geT (vr (cond (!bb38) (.bool (decide ((x.1.head : List UInt8) ≠ (([] : List UInt8) : List UInt8)))) undef) rfl)) (fun hG44 => Yk.fieldAt wr26_fo49_2 (vr (PQ n2 0) rfl) ⟨rfl, rfl⟩) (opsF_mayV (St (x.1.head)) rfl rfl (geT (vr (cond (!bb38) (.bool (decide ((x.1.head : List UInt8) ≠ (([] : List UInt8) : List UInt8)))) undef) rfl)) (fun hG45 => Yk.cell1 wr26_ty9 rfl (mayT (vr (cond ((!bb38) && (decide ((x.1.head : List UInt8) ≠ (([] : List UInt8) : List UInt8)))) (PQ n2 2) undef) rfl) hG45) (cellAt hb8 (show (refsC x)[2]? = some (St (x.1.head) : Value) from refs_g2 x)) ⟨rfl, rfl⟩) (opsF_mayC (.bool (nameB x.1.head)) rfl rfl (geT (vr (cond (!bb38) (.bool (decide ((x.1.head : List UInt8) ≠ (([] : List UInt8) : List UInt8)))) undef) rfl)) (fun hG46 => Yk.callA1 wr26_pl64 (mayT (vr (cond ((!bb38) && (decide ((x.1.head : List UInt8) ≠ (([] : List UInt8) : List UInt8)))) (St (x.1.head)) undef) rfl) hG46) ((refName_any _ x.1.head hL.head).mono (by rintro e w2 ⟨rfl, hx⟩; exact ⟨_, rfl, rfl, hx⟩))) fun w48 hx49 => ?_)))))))))
 have hE := hE.trans hx49
 have hb8 := eb hx49 hb8
 refine opsF_mayV (.bool (!(nameB x.1.head))) rfl rfl (geT (vr (cond (!bb38) (.bool (decide ((x.1.head : List UInt8) ≠ (([] : List UInt8) : List UInt8)))) undef) rfl)) (fun hG50 => Yk.notB (mayT (vr (cond ((!bb38) && (decide ((x.1.head : List UInt8) ≠ (([] : List UInt8) : List UInt8)))) (.bool (nameB x.1.head)) undef) rfl) hG50) ⟨rfl, rfl⟩) (opsF_mayV (.bool (!(nameB x.1.head))) rfl rfl (geT (vr (cond (!bb38) (.bool (decide ((x.1.head : List UInt8) ≠ (([] : List UInt8) : List UInt8)))) undef) rfl)) (fun hG51 => Yk.move (mayT (vr (cond ((!bb38) && (decide ((x.1.head : List UInt8) ≠ (([] : List UInt8) : List UInt8)))) (.bool (!(nameB x.1.head))) undef) rfl) hG51) ⟨rfl, rfl⟩) (opsF_mayV (PQ n2 3) rfl rfl (geF (vr (cond ((!bb38) && (decide ((x.1.head : List UInt8) ≠ (([] : List UInt8) : List UInt8)))) (.bool (!(nameB x.1.head))) undef) rfl)) (fun hG52 => Yk.fieldAt wr26_fo49_3 (vr (PQ n2 0) rfl) ⟨rfl, rfl⟩) (opsF_mayV (AB x.1.at_.1) rfl rfl (geF (vr (cond ((!bb38) && (decide ((x.1.head : List UInt8) ≠ (([] : List UInt8) : List UInt8)))) (.bool (!(nameB x.1.head))) undef) rfl)) (fun hG53 => Yk.loadPR (PR.blk hb8 (refs_m3 x) (refs_n3 x) (mayT (vr (cond (((!bb38) && (decide ((x.1.head : List UInt8) ≠ (([] : List UInt8) : List UInt8)))) && !(!(nameB x.1.head))) (PQ n2 3) undef) rfl) hG53)) wr26_ty25 rfl (sizeId_of x.1.at_.2) ⟨rfl, rfl⟩) (opsF_mayC (.bool (zeroB x.1.at_)) rfl rfl (geF (vr (cond ((!bb38) && (decide ((x.1.head : List UInt8) ≠ (([] : List UInt8) : List UInt8)))) (.bool (!(nameB x.1.head))) undef) rfl)) (fun hG54 => Yk.callA1 wr26_pl86 (mayT (vr (cond (((!bb38) && (decide ((x.1.head : List UInt8) ≠ (([] : List UInt8) : List UInt8)))) && !(!(nameB x.1.head))) (AB x.1.at_.1) undef) rfl) hG54) ((rfzero_any _ x.1.at_).mono (by rintro e w2 ⟨rfl, hx⟩; exact ⟨_, rfl, rfl, hx⟩))) fun w56 hx57 => ?_))))
 have hE := hE.trans hx57
 have hb8 := eb hx57 hb8
 refine opsF_mayV (.bool (!(zeroB x.1.at_))) rfl rfl (geF (vr (cond ((!bb38) && (decide ((x.1.head : List UInt8) ≠ (([] : List UInt8) : List UInt8)))) (.bool (!(nameB x.1.head))) undef) rfl)) (fun hG58 => Yk.notB (mayT (vr (cond (((!bb38) && (decide ((x.1.head : List UInt8) ≠ (([] : List UInt8) : List UInt8)))) && !(!(nameB x.1.head))) (.bool (zeroB x.1.at_)) undef) rfl) hG58) ⟨rfl, rfl⟩) (opsF_mayB ((!(nameB x.1.head)) || (!(zeroB x.1.at_))) rfl rfl (geT (vr (cond (!bb38) (.bool (decide ((x.1.head : List UInt8) ≠ (([] : List UInt8) : List UInt8)))) undef) rfl)) (fun hG59 => Yk.pickOr (mayT (vr (cond ((!bb38) && (decide ((x.1.head : List UInt8) ≠ (([] : List UInt8) : List UInt8)))) (.bool (!(nameB x.1.head))) undef) rfl) hG59) (vr (.bool (true)) rfl) (fun hA => (mayT (vr (cond (((!bb38) && (decide ((x.1.head : List UInt8) ≠ (([] : List UInt8) : List UInt8)))) && !(!(nameB x.1.head))) (.bool (!(zeroB x.1.at_))) undef) rfl) (and_i hG59 (not_i hA)))) ⟨rfl, rfl⟩) fun bb60 hbb61 => (opsF_mayB ((decide ((x.1.head : List UInt8) ≠ (([] : List UInt8) : List UInt8))) && bb60) rfl rfl (gF (vr (.bool (bb38)) rfl)) (fun hG62 => Yk.pickAnd (mayT (vr (cond (!bb38) (.bool (decide ((x.1.head : List UInt8) ≠ (([] : List UInt8) : List UInt8)))) undef) rfl) hG62) (fun hA => (mayT (vr (cond ((!bb38) && (decide ((x.1.head : List UInt8) ≠ (([] : List UInt8) : List UInt8)))) (.bool (bb60)) undef) rfl) (and_i hG62 hA))) (vr (.bool (false)) rfl) ⟨rfl, rfl⟩) fun bb63 hbb64 => (oS rfl (Yk.pickOrN (vr (.bool (bb38)) rfl) (vr (.bool (true)) rfl) (fun hA => (mayT (vr (cond (!bb38) (.bool (bb63)) undef) rfl) (not_i hA))) fun bb65 hbb66 => (oL_ [(0, .agg (refsC x).toArray), (1, PQ n2 0), (2, .bool (false)), (45, .bool (bb65))] ⟨T0, rfl, rfl, rfl, trivial⟩ fun ρ67 ⟨T0, T1, T2, T45, _⟩ => (tN (hK31 _ _ ?_)))))))
 refine wpF_condB (bb65) T45 (fun hc1 => ?_) (fun hc1 => ?_)
 ·subst hbb39 hbb61 hbb64 hbb66
  have h2c : rE2 x.1 = true := (rE2_ref _).trans hc1
  refine sk fun K68 hK68 => (wt (oA rfl (oZ (tN (hK68 _ _ (wpF_ret (thenF_ret (postF_ret (fn := Tryd.f32) _ rfl [.bool (false)] (.bool (false)) rfl ⟨rfl, trivial⟩ ?_))))))))
  exact ⟨by rw [rightF_2 h1c h2c], hE⟩
 subst hbb39 hbb61 hbb64 hbb66
 have h2c : rE2 x.1 = false := (rE2_ref _).trans hc1
 refine wpF_skip (tN (hK30 _ _ (sk fun K69 hK69 => (sk fun K70 hK70 => (wt (oA rfl (oL_ [(0, .agg (refsC x).toArray), (1, PQ n2 0), (2, .bool (false)), (3, NI 0)] ⟨T0, T1, T2, rfl, trivial⟩ fun ρ71 ⟨T0, T1, T2, T3, _⟩ => (tN (hK70 _ _ (wpF_block (wpF_loop (fun (ρ : Slots) (wz : World) => ∃ i : Nat, ρ 0 = (.agg (refsC x).toArray : Value) ∧ ρ 1 = (PQ n2 0 : Value) ∧ ρ 3 = (NI i : Value) ∧ Ext w wz ∧ wz.heap[n2]? = some (.cells (refsC x).toArray 49 (0, 0)) ∧ (i ≤ x.1.log.length) ∧ (∀ j, j < i → entE x.1.log j = false) ∧ True) (fun ρ _ => x.1.log.length - (intOf (ρ 3)).toNat) ⟨0, T0, T1, T3, hE, hb8, Nat.zero_le _, fun j hj => absurd hj (Nat.not_lt_zero _), trivial⟩ ?_)))))))))))
 clear hE hb8
 rintro ρ72 w73 ⟨i, T0, T1, T3, hE, hb8, hi, hn, -⟩
 have q3 := T3
 refine sk fun K74 hK74 => (sk fun K75 hK75 => (wt (oM rfl (oS rfl (Yk.fieldAt wr26_fo49_4 T1 (oS rfl (Yk.cell1 wr26_ty47 rfl (vr (PQ n2 35) rfl) (cellAt hb8 (show (refsC x)[35]? = some (x.2.log : Value) from refs_g4 x)) (oS rfl (Yk.lenRG wr26_ty47 (RG.of (hml.keep hE) (vr x.2.log rfl)) (oS rfl (Yk.eqI (a := (i : Nat)) (b := ((x.1.log).length : Nat)) T3 rfl (k_lss _ _ _ _) (oZ (tN (hK75 _ _ ?_))))))))))))))
 refine wpF_cond ((i) < ((x.1.log).length)) (vr (.bool (decide ((i) < ((x.1.log).length)))) rfl) (fun hc2 => ?_) (fun hc2 => ?_)
 ·have hlt : i < x.1.log.length := hc2
  refine wpF_skip (tN (hK74 _ _ (sk fun K76 hK76 => (wpF_block (sk fun K77 hK77 => (wt (oS rfl (Yk.fieldAt wr26_fo49_4 T1 (oS rfl (Yk.cell1 wr26_ty47 rfl (vr (PQ n2 35) rfl) (cellAt hb8 (show (refsC x)[35]? = some (x.2.log : Value) from refs_g4 x)) (oM rfl ?_)))))))))))
  have hl80 : (entC ((x.1.log).getD (i) dEntry)).length = 67 := (RG.elem (hml.keep hE) dEntry (by omega))
  refine oS rfl (Yk.atRG wr26_ty47 wr26_szg122 (by decide) dEntry (RG.of (hml.keep hE) (vr x.2.log rfl)) T3 (by omega) fun v78 hp79 => (oS rfl (Yk.loadPR (PR.of hp79 (vr v78 rfl)) (wr26_ty122).choose_spec rfl (by rw [ent_len]; exact wr26_isz122) (oS rfl (Yk.alloc (cs := (entC (⟨0, [], zid, zid, []⟩ : Ent)).toArray) wr26_al122 fun n81 w82 hn83 hb84 hx85 hs86 => ?_)))))
  have hA87 := Ext.refl w73
  have hea88 := hE
  have hz89 := hE.size
  have hlt90 := lte (bl hb8) hn83
  have hE := hE.trans hx85
  have hb8 := eb hx85 hb8
  have hA87 := hA87.trans hx85
  have hb91 := hb84; clear hb84
  have hl92 : n81 < w82.heap.size := by omega
  refine oS rfl (Yk.storeAll (vr (PQ n81 0) rfl) (vr (.agg (entC ((x.1.log).getD (i) dEntry)).toArray) rfl) hb91 (by simp only [List.size_toArray, ent_len]) (st_isz (ent_len _) wr26_isz122) (ent_one (x := ((x.1.log).getD (i) dEntry))) fun w93 hb94 hg95 hs96 => ?_)
  have hE := row_fresh hE hg95 (Nat.le_trans hz89 (by omega))
  have hb8 := kb hg95 hb8 (by omega)
  have hA87 := row_fresh hA87 hg95 (Nat.le_trans (Nat.le_refl _) (by omega))
  clear hb91
  have hb91 : w93.heap[n81]? = some (.cells (entC ((x.1.log).getD (i) dEntry)).toArray 122 (0, 0)) := hb94; clear hb94
  have hl97 := bl hb91
  refine oZ ?_
  clear hp79
  refine tN (hK77 _ _ (sk fun K98 hK98 => (wt (oS rfl (Yk.fieldAt wr26_fo122_0 (vr (PQ n81 0) rfl) (oS rfl (Yk.fieldAt wr26_fo67_0 (vr (PQ n81 0) rfl) (oS rfl (Yk.cell1 wr26_ty5 rfl (vr (PQ n81 0) rfl) (cellAt hb91 (show (entC ((x.1.log).getD (i) dEntry))[0]? = some (B8 ((((x.1.log).getD (i) dEntry)).kind) : Value) from ent_g0 ((x.1.log).getD (i) dEntry))) (oS rfl (Yk.eqI (a := (((((x.1.log).getD (i) dEntry)).kind).toNat : Nat)) (b := (1 : Nat)) rfl rfl (k_lss _ _ _ _) (oM rfl (opsF_mayV (PQ n81 0) rfl rfl (gF (vr (.bool (decide ((((((x.1.log).getD (i) dEntry)).kind).toNat) < (1)))) rfl)) (fun hG99 => Yk.fieldAt wr26_fo122_0 (vr (PQ n81 0) rfl) ⟨rfl, rfl⟩) (opsF_mayV (PQ n81 0) rfl rfl (gF (vr (.bool (decide ((((((x.1.log).getD (i) dEntry)).kind).toNat) < (1)))) rfl)) (fun hG100 => Yk.fieldAt wr26_fo67_0 (mayT (vr (cond (!(decide ((((((x.1.log).getD (i) dEntry)).kind).toNat) < (1)))) (PQ n81 0) undef) rfl) hG100) ⟨rfl, rfl⟩) (opsF_mayV (B8 ((((x.1.log).getD (i) dEntry)).kind)) rfl rfl (gF (vr (.bool (decide ((((((x.1.log).getD (i) dEntry)).kind).toNat) < (1)))) rfl)) (fun hG101 => Yk.cell1 wr26_ty5 rfl (mayT (vr (cond (!(decide ((((((x.1.log).getD (i) dEntry)).kind).toNat) < (1)))) (PQ n81 0) undef) rfl) hG101) (cellAt hb91 (show (entC ((x.1.log).getD (i) dEntry))[0]? = some (B8 ((((x.1.log).getD (i) dEntry)).kind) : Value) from ent_g0 ((x.1.log).getD (i) dEntry))) ⟨rfl, rfl⟩) (opsF_mayV (.bool (decide ((3) < (((((x.1.log).getD (i) dEntry)).kind).toNat)))) rfl rfl (gF (vr (.bool (decide ((((((x.1.log).getD (i) dEntry)).kind).toNat) < (1)))) rfl)) (fun hG102 => Yk.eqI (a := ((((((x.1.log).getD (i) dEntry)).kind).toNat : Nat) : Int)) (b := ((3 : Nat) : Int)) (mayT (vr (cond (!(decide ((((((x.1.log).getD (i) dEntry)).kind).toNat) < (1)))) (B8 ((((x.1.log).getD (i) dEntry)).kind)) undef) rfl) hG102) (vr (B8 (3)) rfl) (k_gtr _ .u8 (((((x.1.log).getD (i) dEntry)).kind).toNat) (3)) ⟨rfl, rfl⟩) (oS rfl (Yk.pickOrN (vr (.bool (decide ((((((x.1.log).getD (i) dEntry)).kind).toNat) < (1)))) rfl) (vr (.bool (true)) rfl) (fun hA => (mayT (vr (cond (!(decide ((((((x.1.log).getD (i) dEntry)).kind).toNat) < (1)))) (.bool (decide ((3) < (((((x.1.log).getD (i) dEntry)).kind).toNat)))) undef) rfl) (not_i hA))) fun bb103 hbb104 => (oM rfl (opsF_mayV (PQ n81 0) rfl rfl (gF (vr (.bool (bb103)) rfl)) (fun hG105 => Yk.fieldAt wr26_fo122_0 (vr (PQ n81 0) rfl) ⟨rfl, rfl⟩) (opsF_mayV (PQ n81 1) rfl rfl (gF (vr (.bool (bb103)) rfl)) (fun hG106 => Yk.fieldAt wr26_fo67_1 (mayT (vr (cond (!bb103) (PQ n81 0) undef) rfl) hG106) ⟨rfl, rfl⟩) ?_)))))))))))))))))))))
  refine opsF_mayV (St ((((x.1.log).getD (i) dEntry)).name)) rfl rfl (gF (vr (.bool (bb103)) rfl)) (fun hG107 => Yk.cell1 wr26_ty9 rfl (mayT (vr (cond (!bb103) (PQ n81 1) undef) rfl) hG107) (cellAt hb91 (show (entC ((x.1.log).getD (i) dEntry))[1]? = some (St ((((x.1.log).getD (i) dEntry)).name) : Value) from ent_g1 ((x.1.log).getD (i) dEntry))) ⟨rfl, rfl⟩) (opsF_mayV (NI (((((x.1.log).getD (i) dEntry)).name : List UInt8).length)) rfl rfl (gF (vr (.bool (bb103)) rfl)) (fun hG108 => Yk.lenSt (l := (((x.1.log).getD (i) dEntry)).name) wr26_ty9 (mayT (vr (cond (!bb103) (St ((((x.1.log).getD (i) dEntry)).name)) undef) rfl) hG108) ⟨rfl, rfl⟩) (opsF_mayV (.bool (decide ((32) < (((((x.1.log).getD (i) dEntry)).name : List UInt8).length)))) rfl rfl (gF (vr (.bool (bb103)) rfl)) (fun hG109 => Yk.eqI (a := ((((((x.1.log).getD (i) dEntry)).name : List UInt8).length : Nat) : Int)) (b := ((32 : Nat) : Int)) (mayT (vr (cond (!bb103) (NI (((((x.1.log).getD (i) dEntry)).name : List UInt8).length)) undef) rfl) hG109) (vr (NI 32) rfl) (k_gtr _ .i64 (((((x.1.log).getD (i) dEntry)).name : List UInt8).length) (32)) ⟨rfl, rfl⟩) (oS rfl (Yk.pickOrN (vr (.bool (bb103)) rfl) (vr (.bool (true)) rfl) (fun hA => (mayT (vr (cond (!bb103) (.bool (decide ((32) < (((((x.1.log).getD (i) dEntry)).name : List UInt8).length)))) undef) rfl) (not_i hA))) fun bb110 hbb111 => (oM rfl (opsF_mayV (PQ n81 66) rfl rfl (gF (vr (.bool (bb110)) rfl)) (fun hG112 => Yk.fieldAt wr26_fo122_1 (vr (PQ n81 0) rfl) ⟨rfl, rfl⟩) (opsF_mayV (St ((((x.1.log).getD (i) dEntry)).note)) rfl rfl (gF (vr (.bool (bb110)) rfl)) (fun hG113 => Yk.cell1 wr26_ty9 rfl (mayT (vr (cond (!bb110) (PQ n81 66) undef) rfl) hG113) (cellAt hb91 (show (entC ((x.1.log).getD (i) dEntry))[66]? = some (St ((((x.1.log).getD (i) dEntry)).note) : Value) from ent_g4 ((x.1.log).getD (i) dEntry))) ⟨rfl, rfl⟩) (opsF_mayC (.bool (noteB ((((x.1.log).getD (i) dEntry)).note))) rfl rfl (gF (vr (.bool (bb110)) rfl)) (fun hG114 => Yk.callA1 wr26_pl78 (mayT (vr (cond (!bb110) (St ((((x.1.log).getD (i) dEntry)).note)) undef) rfl) hG114) ((refNote_any _ ((((x.1.log).getD (i) dEntry)).note)).mono (by rintro e w2 ⟨rfl, hx⟩; exact ⟨_, rfl, rfl, hx⟩))) fun w116 hx117 => ?_))))))))
  have hE := hE.trans hx117
  have hb8 := eb hx117 hb8
  have hA87 := hA87.trans hx117
  have hb91 := eb hx117 hb91
  refine opsF_mayV (.bool (!(noteB ((((x.1.log).getD (i) dEntry)).note)))) rfl rfl (gF (vr (.bool (bb110)) rfl)) (fun hG118 => Yk.notB (mayT (vr (cond (!bb110) (.bool (noteB ((((x.1.log).getD (i) dEntry)).note))) undef) rfl) hG118) ⟨rfl, rfl⟩) (oS rfl (Yk.pickOrN (vr (.bool (bb110)) rfl) (vr (.bool (true)) rfl) (fun hA => (mayT (vr (cond (!bb110) (.bool (!(noteB ((((x.1.log).getD (i) dEntry)).note)))) undef) rfl) (not_i hA))) fun bb119 hbb120 => (oZ (tN (hK98 _ _ ?_)))))
  refine wpF_condB (bb119) (vr (.bool (bb119)) rfl) (fun hc3 => ?_) (fun hc3 => ?_)
  ·subst hbb104 hbb111 hbb120
   have hbad : entE x.1.log i = true := (entE_ref _ _).trans hc3
   refine sk fun K121 hK121 => (wt (oA rfl (oZ (tN (hK121 _ _ (wpF_ret (inBlockF_ret (thenF_ret (thenF_ret (inBlockF_ret (thenF_ret (postF_ret (fn := Tryd.f32) _ rfl [.bool (false)] (.bool (false)) rfl ⟨rfl, trivial⟩ ?_))))))))))))
   exact ⟨by rw [rightF_bad h1c h2c hlt hbad], hE⟩
  subst hbb104 hbb111 hbb120
  have hbad : entE x.1.log i = false := (entE_ref _ _).trans hc3
  refine wpF_skip (bN (tN (hK76 _ _ (wt (oM rfl (oS rfl (Yk.bin (xv := NI i) (yv := NI 1) T3 rfl rfl (i64_add _ _ _ (by have := hL.log; omega)) (oA rfl (oL_ [(0, .agg (refsC x).toArray), (1, PQ n2 0), (3, NI ((i) + (1))), (4, PQ n81 0)] ⟨T0, T1, rfl, rfl, trivial⟩ fun ρ122 ⟨T0, T1, T3, T4, _⟩ => (tN (And.intro ⟨i + 1, T0, T1, T3, hE, hb8, by omega, to_step hn hbad, trivial⟩ ?_)))))))))))
  show x.1.log.length - (intOf (ρ122 3)).toNat < x.1.log.length - (intOf (ρ72 3)).toNat
  rw [T3, q3]
  simp only [intOf, Int.toNat_natCast]; omega
 refine wpF_exit (thenF_exit (thenF_exit (inBlockF_hit (tN (hK69 _ _ (sk fun K123 hK123 => (wt (oA rfl (oZ (tN (hK123 _ _ (wpF_ret (postF_ret (fn := Tryd.f32) _ rfl [.bool (true)] (.bool (true)) rfl ⟨rfl, trivial⟩ ?_)))))))))))))
 exact ⟨by rw [rightF_all h1c h2c (show x.1.log.length ≤ i by omega) hn], hE⟩

open Go.RowKit
set_option maxRecDepth 100000
def lookN (l : List Nmd) (s : Bs) : Id32 := ((l.find? fun n => decide (n.name = s)).map (·.id)).getD zid
theorem ne_step {l : List Nmd} {s : Bs} {i : Nat} (h : ∀ j, j < i → (l.getD j dNmd).name ≠ s) (h1 : (l.getD i dNmd).name ≠ s) : ∀ j, j < i + 1 → (l.getD j dNmd).name ≠ s := fun j hj => by
 by_cases e : j = i
 ·rw [e]; exact h1
 ·exact h j (by omega)
theorem lookN_at {l : List Nmd} {s : Bs} : ∀ {i : Nat}, i < l.length → (∀ j, j < i → (l.getD j dNmd).name ≠ s) → (l.getD i dNmd).name = s → lookN l s = (l.getD i dNmd).id := by
 induction l with
 | nil => intro i hi; simp at hi
 | cons a l ih =>
  intro i hi hn hs
  cases i with
  | zero =>
   unfold lookN
   rw [List.find?_cons_of_pos (by simpa using hs)]
   rfl
  | succ i =>
   have h0 : a.name ≠ s := hn 0 (by omega)
   have := ih (i := i) (by simpa using hi) (fun j hj => hn (j + 1) (by omega)) hs
   unfold lookN at this ⊢
   rw [List.find?_cons_of_neg (by simpa using h0)]
   exact this
theorem lookN_no {l : List Nmd} {s : Bs} (h : ∀ j, j < l.length → (l.getD j dNmd).name ≠ s) : lookN l s = zid := by
 unfold lookN
 rw [List.find?_eq_none.2 (fun n hn => by
  obtain ⟨i, hi, rfl⟩ := List.mem_iff_getElem.1 hn
  have := h i hi
  rw [List.getD_eq_getElem?_getD, List.getElem?_eq_getElem hi] at this
  simpa using this)]
 rfl
theorem wr41_al25 {d : Option Tmp} {ty : TypeId} {pos : String} {af : Array Edge} {gd : Option (Nat × Bool)} (σ : Operand → Value) (w : World) : (execOp σ ⟨d, .alloc 25, ty, pos, af, gd⟩).run Tryd.prog w = .ok (.value (PQ w.heap.size 0)) (w.alloc (.cells (Lib.byteCells (List.replicate 32 0)).toArray 25)) := by kernel_rfl
theorem wr41_ty46 : Tryd.prog.underlying 46 = some (.slice 69) := by kernel_rfl
theorem wr41_szg69 : ∀ w' : World, (sizeOf 69).run Tryd.prog w' = .ok 33 w' := fun _ => by kernel_rfl
theorem wr41_fo69_0 : FieldOff Tryd.prog 69 0 0 := fun b o w => by simp [go_sem]
theorem wr41_ty9 : Tryd.prog.underlying 9 = some (.string) := by kernel_rfl
theorem wr41_fo69_1 : FieldOff Tryd.prog 69 1 1 := fun b o w => by simp [go_sem]
theorem wr41_ty25 : Tryd.prog.underlying 25 = some (.array 32 5) := by kernel_rfl
theorem wr41_isz25 : (Tryd.prog.info? 25).map (·.size) = some 32 := by kernel_rfl
set_option maxHeartbeats 1600000
theorem refLook_any (w : World) (v : Value) (l : List Nmd) (hr : RG 33 nmdC w v l) (hl : l.length < 9223372036854775807) (s : Bs) :
  Calls Tryd.prog 90 #[v, St s] w fun e w' => e = .returned (AB ((lookN l s).1)) ∧ Ext w w' := by
 refine calls_of_wpF (args := [v, St (s)]) Tryd.func90 rfl 25 rfl (Nat.le_of_ble_eq_true rfl) ?_
 intro ρ0 hb
 have T0 : ρ0 0 = (v : Value) := hb.get 0
 have T1 : ρ0 1 = (St (s) : Value) := hb.get 1
 clear hb
 have hE := Ext.refl w
 refine sk fun K1 hK1 => (wt (oS rfl (Yk.alloc (cs := (Lib.byteCells (List.replicate 32 0)).toArray) wr41_al25 fun n2 w3 hn4 hb5 hx6 hs7 => ?_)))
 have hE := hE.trans hx6
 have hb8 := hb5; clear hb5
 have hl9 : n2 < w3.heap.size := by omega
 refine oZ (tN (hK1 _ _ (sk fun K10 hK10 => (sk fun K11 hK11 => (wt (oA rfl (oL_ [(0, v), (1, St (s)), (4, PQ n2 0), (5, NI 0)] ⟨T0, T1, rfl, rfl, trivial⟩ fun ρ12 ⟨T0, T1, T4, T5, _⟩ => (tN (hK11 _ _ (wpF_block (wpF_loop (fun (ρ : Slots) (wz : World) => ∃ i : Nat, ρ 0 = (v : Value) ∧ ρ 1 = (St (s) : Value) ∧ ρ 4 = (PQ n2 0 : Value) ∧ ρ 5 = (NI i : Value) ∧ Ext w wz ∧ wz.heap[n2]? = some (.cells (Lib.byteCells (List.replicate 32 0)).toArray 25 (0, 0)) ∧ (i ≤ l.length) ∧ (∀ j, j < i → (l.getD j dNmd).name ≠ s) ∧ True) (fun ρ _ => l.length - (intOf (ρ 5)).toNat) ⟨0, T0, T1, T4, T5, hE, hb8, Nat.zero_le _, fun j hj => absurd hj (Nat.not_lt_zero _), trivial⟩ ?_)))))))))))
 clear hE hb8
 rintro ρ13 w14 ⟨i, T0, T1, T4, T5, hE, hb8, hi, hn, -⟩
 have q5 := T5
 refine sk fun K15 hK15 => (sk fun K16 hK16 => (wt (oM rfl (oM rfl (oS rfl (Yk.lenRG wr41_ty46 (RG.of (hr.keep hE) T0) (oS rfl (Yk.eqI (a := (i : Nat)) (b := (l.length : Nat)) T5 rfl (k_lss _ _ _ _) (oZ (tN (hK16 _ _ ?_)))))))))))
 refine wpF_cond ((i) < (l.length)) (vr (.bool (decide ((i) < (l.length)))) rfl) (fun hc0 => ?_) (fun hc0 => ?_)
 ·have hlt : i < l.length := hc0
  refine wpF_skip (tN (hK15 _ _ (sk fun K17 hK17 => (wpF_block (sk fun K18 hK18 => (wt (oM rfl (oM rfl ?_))))))))
  have hl21 : (nmdC (l.getD (i) dNmd)).length = 33 := (RG.elem (hr.keep hE) dNmd (by omega))
  refine oS rfl (Yk.atRG wr41_ty46 wr41_szg69 (by decide) dNmd (RG.of (hr.keep hE) T0) T5 (by omega) fun v19 hp20 => (oS rfl (Yk.fieldPR (n := 1) wr41_fo69_0 (PR.of hp20 (vr v19 rfl)) fun v22 hp23 => ?_)))
  have hp23 : PCell (St ((l.getD (i) dNmd).name)) v22 w14 := PR.pcell ((nmd_f0 (l.getD (i) dNmd)) ▸ hp23)
  refine oS rfl (Yk.loadC wr41_ty9 rfl (PCell.of hp23 (vr v22 rfl)) (oM rfl (oS rfl (Yk.eqSt (l := (l.getD (i) dNmd).name) (m := s) (.inl rfl) (vr (St ((l.getD (i) dNmd).name)) rfl) T1 (decide ((l.getD (i) dNmd).name = s)) rfl (oZ ?_)))))
  clear hp20
  clear hp23
  refine tN (hK18 _ _ ?_)
  refine wpF_cond ((l.getD (i) dNmd).name = s) (vr (.bool (decide ((l.getD (i) dNmd).name = s))) rfl) (fun hc1 => ?_) (fun hc1 => ?_)
  ·have hnm := hc1
   refine sk fun K24 hK24 => (wt (oM rfl (oM rfl ?_)))
   have hl27 : (nmdC (l.getD (i) dNmd)).length = 33 := (RG.elem (hr.keep hE) dNmd (by omega))
   refine oS rfl (Yk.atRG wr41_ty46 wr41_szg69 (by decide) dNmd (RG.of (hr.keep hE) T0) T5 (by omega) fun v25 hp26 => ?_)
   have hl30 : (Lib.byteCells (l.getD (i) dNmd).id.1).length = 32 := by rw [Lib.byteCells_length, (l.getD (i) dNmd).id.2]
   refine oS rfl (Yk.fieldPR (n := 32) wr41_fo69_1 (PR.of hp26 (vr v25 rfl)) fun v28 hp29 => ?_)
   have hp29 : PR (Lib.byteCells (l.getD (i) dNmd).id.1) v28 w14 := (nmd_f1 (l.getD (i) dNmd)) ▸ hp29
   refine oS rfl (Yk.loadPR (PR.of hp29 (vr v28 rfl)) wr41_ty25 rfl (by rw [hl30]; exact wr41_isz25) (oS rfl (Yk.storeAll T4 (vr (AB ((l.getD (i) dNmd).id.1)) rfl) hb8 (by exact idsize (bytes_len32 (hl30)) List.length_replicate) (by exact sizeId_of (bytes_len32 (hl30))) (byteCells_one _) fun w31 hb32 hg33 hs34 => ?_)))
   have hE := row_fresh hE hg33 (Nat.le_trans (Nat.le_refl _) (by omega))
   clear hp26
   clear hp29
   clear hb8
   have hb8 := hb32; clear hb32
   have hl35 := bl hb8
   refine oZ (tN (hK24 _ _ (wpF_ret (inBlockF_ret (thenF_ret (thenF_ret (inBlockF_ret (thenF_ret (postF_ret (fn := Tryd.f90) _ rfl [AB ((l.getD (i) dNmd).id.1)] (AB ((l.getD (i) dNmd).id.1)) rfl ⟨ResF.row T4 hb8 wr41_ty25 rfl (by exact sizeId_of (bytes_len32 (hl30))), trivial⟩ ?_)))))))))
   exact ⟨by rw [lookN_at hlt hn hnm], hE⟩
  have hnm := hc1
  refine wpF_skip (bN (tN (hK17 _ _ (wt (oM rfl (oS rfl (Yk.bin (xv := NI i) (yv := NI 1) T5 rfl rfl (i64_add _ _ _ (by omega)) (oA rfl (oL_ [(0, v), (1, St (s)), (4, PQ n2 0), (5, NI ((i) + (1)))] ⟨T0, T1, T4, rfl, trivial⟩ fun ρ36 ⟨T0, T1, T4, T5, _⟩ => (tN (And.intro ⟨i + 1, T0, T1, T4, T5, hE, hb8, by omega, ne_step hn hnm, trivial⟩ ?_)))))))))))
  show l.length - (intOf (ρ36 5)).toNat < l.length - (intOf (ρ13 5)).toNat
  rw [T5, q5]
  simp only [intOf, Int.toNat_natCast]; omega
 refine wpF_exit (thenF_exit (thenF_exit (inBlockF_hit (tN (hK10 _ _ (sk fun K37 hK37 => (wt (oS rfl (Yk.run (v := AB (List.replicate 32 0)) (by kernel_rfl) (oS rfl (Yk.storeAll T4 (vr (AB (List.replicate 32 0)) rfl) hb8 (by exact idsize List.length_replicate List.length_replicate) (by exact sizeId_of List.length_replicate) (byteCells_one _) fun w38 hb39 hg40 hs41 => ?_)))))))))))
 have hE := row_fresh hE hg40 (Nat.le_trans (Nat.le_refl _) (by omega))
 clear hb8
 have hb8 := hb39; clear hb39
 have hl42 := bl hb8
 refine oZ (tN (hK37 _ _ (wpF_ret (postF_ret (fn := Tryd.f90) _ rfl [AB (List.replicate 32 0)] (AB (List.replicate 32 0)) rfl ⟨ResF.row T4 hb8 wr41_ty25 rfl (by exact sizeId_of List.length_replicate), trivial⟩ ?_))))
 exact ⟨by rw [lookN_no (fun j hj => hn j (by omega))]; try rfl, hE⟩

open Go.RowKit
theorem lookN_eq {l : List Nmd} {s : Bs} (hs : sortN l) : lookN l s = if foundN l s (placeN l s) = true then (l.getD (placeN l s) dNmd).id else zid := by
  cases hf : foundN l s (placeN l s) with
  | true => obtain ⟨h1, h2, h3⟩ := found_at hs hf; rw [if_pos rfl]; exact lookN_at h1 (fun j hj => h3 j (by omega) (by omega)) h2
  | false => rw [if_neg (by decide)]; exact lookN_no (found_no hs hf)
def digs : List UInt8 := [48, 49, 50, 51, 52, 53, 54, 55, 56, 57, 97, 98, 99, 100, 101, 102]
def dg (c : UInt8) : Option Nat := if 48 ≤ c.toNat ∧ c.toNat ≤ 57 then some (c.toNat - 48) else if 97 ≤ c.toNat ∧ c.toNat ≤ 102 then some (c.toNat - 87) else none
def dgI (c : UInt8) : Int := match dg c with | some n => (n : Int) | none => -1
theorem dg_lt {c : UInt8} {n : Nat} (h : dg c = some n) : n < 16 := by
  unfold dg at h
  split at h
  · cases h; omega
  · split at h
    · cases h; omega
    · cases h
theorem index_fin : ∀ n : Fin 256, Lib.indexByte digs (UInt8.ofNat n.val) = dgI (UInt8.ofNat n.val) := by decide +kernel
theorem index_dg (c : UInt8) : Lib.indexByte digs c = dgI c := by
  have := index_fin ⟨c.toNat, c.toNat_lt⟩
  simpa using this
def okAt (s : List UInt8) (j : Nat) : Bool := (dg (s.getD (2 * j) 0)).isSome && (dg (s.getD (2 * j + 1) 0)).isSome
def byteAt (s : List UInt8) (j : Nat) : UInt8 := UInt8.ofNat (16 * (dg (s.getD (2 * j) 0)).getD 0 + (dg (s.getD (2 * j + 1) 0)).getD 0)
def unhex (s : List UInt8) : List UInt8 × Bool := if s.length = 64 ∧ (List.range 32).all (okAt s) = true then ((List.range 32).map (byteAt s), true) else (List.replicate 32 0, false)
theorem unhex_length (s : List UInt8) : (unhex s).1.length = 32 := by
  unfold unhex
  split <;> simp
theorem unhex_no {s : List UInt8} (h : ¬ (s.length = 64 ∧ (List.range 32).all (okAt s) = true)) : unhex s = (List.replicate 32 0, false) := if_neg h
theorem unhex_yes {s : List UInt8} (h1 : s.length = 64) (h2 : ∀ j, j < 32 → okAt s j = true) : unhex s = ((List.range 32).map (byteAt s), true) := if_pos ⟨h1, by
  rw [List.all_eq_true]
  intro j hj
  exact h2 j (by simpa using hj)⟩
def pre (s : List UInt8) (i : Nat) : List UInt8 := (List.range i).map (byteAt s) ++ List.replicate (32 - i) 0
theorem pre_length (s : List UInt8) (i : Nat) (hi : i ≤ 32) : (pre s i).length = 32 := by
  unfold pre
  simp
  omega
theorem pre_step (s : List UInt8) (i : Nat) (hi : i < 32) : (pre s i).set i (byteAt s i) = pre s (i + 1) := by
  unfold pre
  rw [List.set_append_right _ _ (by simp), List.range_succ, List.map_append]
  simp only [List.length_map, List.length_range, Nat.sub_self, List.map_cons, List.map_nil, List.append_assoc]
  congr 1
  obtain ⟨k, hk⟩ : ∃ k, 32 - i = k + 1 := ⟨32 - i - 1, by omega⟩
  rw [hk, List.replicate_succ, List.set_cons_zero, show 32 - (i + 1) = k by omega]
  rfl
theorem pre_all (s : List UInt8) : pre s 32 = (List.range 32).map (byteAt s) := by simp [pre]
open Go.Shelf Go.RowKit
def laysI_ren : Go.Shelf.Ren := ⟨fun | 137 => 130 | 217 => 151 | 266 => 166 | n => n, fun | 9 => 9 | 5 => 5 | 3 => 3 | n => n, fun | n => n⟩
theorem laysI : Go.Proofs.Lays.n137 Tryd.prog laysI_ren := {
  mixed := by kernel_rfl
  f137 := Tryd.func130.trans (congrArg some (by kernel_rfl))
  f217 := Tryd.func151.trans (congrArg some (by kernel_rfl))
  f266 := Tryd.func166.trans (congrArg some (by kernel_rfl))
  t3 := Tryd.underlying3
  a3 := Tryd.isAgg3
  z3 := Tryd.sizeOf3
  v3 := Tryd.zeroValue3
  t5 := Tryd.underlying5
  a5 := Tryd.isAgg5
  z5 := Tryd.sizeOf5
  v5 := Tryd.zeroValue5
  t9 := Tryd.underlying9
  a9 := Tryd.isAgg9
  z9 := Tryd.sizeOf9
  v9 := Tryd.zeroValue9 }
theorem shelf_IndexByte (s : ByteArray) (c : Int) (w : World) :
    Calls Tryd.prog 130 #[.string s, .int .u8 c] w fun e w' => e = .returned (.int .i64 (Lib.indexByte s.data.toList c.toNat.toUInt8)) ∧ w' = w := Any.strings_IndexByte laysI s c w
end Go.Proofs.YtmonlobfofkbdaaDoor
