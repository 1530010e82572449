/- Part 4 of what stands behind these statements: laws and walks of the functions that are reached. Conditions: those that each theorem names. -/
import Derived.Test.YtmonlobfofkbdaaDoorB3
set_option linter.unusedVariables false
set_option linter.unusedSimpArgs false
namespace Go.Proofs.YtmonlobfofkbdaaDoor
open Go.RowKit
set_option maxRecDepth 100000
theorem wr28_al53 {d : Option Tmp} {ty : TypeId} {pos : String} {af : Array Edge} {gd : Option (Nat × Bool)} (σ : Operand → Value) (w : World) : (execOp σ ⟨d, .alloc 53, ty, pos, af, gd⟩).run Tryd.prog w = .ok (.value (PQ w.heap.size 0)) (w.alloc (.cells (refsC ((⟨[], [], [], zid, []⟩, ⟨.slice none 0 0, .slice none 0 0, .slice none 0 0⟩) : RefsV)).toArray 53)) := by kernel_rfl
theorem wr28_fo49_0 : FieldOff Tryd.prog 49 0 0 := fun b o w => by simp [go_sem]
theorem wr28_ty46 : Tryd.prog.underlying 46 = some (.slice 69) := by kernel_rfl
theorem wr28_fo53_0 : FieldOff Tryd.prog 53 0 0 := fun b o w => by simp [go_sem]
theorem wr28_ty51 : Tryd.prog.underlying 51 = some (.slice 70) := by kernel_rfl
theorem wr28_szg69 : ∀ w' : World, (sizeOf 69).run Tryd.prog w' = .ok 33 w' := fun _ => by kernel_rfl
theorem wr28_fo69_0 : FieldOff Tryd.prog 69 0 0 := fun b o w => by simp [go_sem]
theorem wr28_ty9 : Tryd.prog.underlying 9 = some (.string) := by kernel_rfl
theorem wr28_fo69_1 : FieldOff Tryd.prog 69 1 1 := fun b o w => by simp [go_sem]
theorem wr28_ty25 : Tryd.prog.underlying 25 = some (.array 32 5) := by kernel_rfl
theorem wr28_isz25 : (Tryd.prog.info? 25).map (·.size) = some 32 := by kernel_rfl
theorem wr28_bs70_0_1h (z0 : ByteArray) (c1_0 c1_1 c1_2 c1_3 c1_4 c1_5 c1_6 c1_7 c1_8 c1_9 c1_10 c1_11 c1_12 c1_13 c1_14 c1_15 c1_16 c1_17 c1_18 c1_19 c1_20 c1_21 c1_22 c1_23 c1_24 c1_25 c1_26 c1_27 c1_28 c1_29 c1_30 c1_31 : Value) (w : World) : (Instr.build 70 #[(0, .string z0), (1, .agg #[c1_0, c1_1, c1_2, c1_3, c1_4, c1_5, c1_6, c1_7, c1_8, c1_9, c1_10, c1_11, c1_12, c1_13, c1_14, c1_15, c1_16, c1_17, c1_18, c1_19, c1_20, c1_21, c1_22, c1_23, c1_24, c1_25, c1_26, c1_27, c1_28, c1_29, c1_30, c1_31])]).run Tryd.prog w = .ok (.agg #[.string z0, c1_0, c1_1, c1_2, c1_3, c1_4, c1_5, c1_6, c1_7, c1_8, c1_9, c1_10, c1_11, c1_12, c1_13, c1_14, c1_15, c1_16, c1_17, c1_18, c1_19, c1_20, c1_21, c1_22, c1_23, c1_24, c1_25, c1_26, c1_27, c1_28, c1_29, c1_30, c1_31]) w := by kernel_rfl
theorem wr28_bs70_0_1 (z0 : List UInt8) (z1 : Id32) (w : World) : (Instr.build 70 #[(0, St z0), (1, AB z1.1)]).run Tryd.prog w = .ok (.agg (St (z0) :: (Lib.byteCells z1.1)).toArray) w := by
 obtain ⟨z1, k1⟩ := z1
 obtain ⟨a1_0, a1_1, a1_2, a1_3, a1_4, a1_5, a1_6, a1_7, a1_8, a1_9, a1_10, a1_11, a1_12, a1_13, a1_14, a1_15, a1_16, a1_17, a1_18, a1_19, a1_20, a1_21, a1_22, a1_23, a1_24, a1_25, a1_26, a1_27, a1_28, a1_29, a1_30, a1_31, rfl⟩ := list32 k1
 exact wr28_bs70_0_1h _ _ _ _ _ _ _ _ _ _ _ _ _ _ _ _ _ _ _ _ _ _ _ _ _ _ _ _ _ _ _ _ _ w
theorem wr28_lh51 (c0 c1 c2 c3 c4 c5 c6 c7 c8 c9 c10 c11 c12 c13 c14 c15 c16 c17 c18 c19 c20 c21 c22 c23 c24 c25 c26 c27 c28 c29 c30 c31 c32 : Value) (w : World) : (Instr.buildSlice 51 1 #[(0, .agg #[c0, c1, c2, c3, c4, c5, c6, c7, c8, c9, c10, c11, c12, c13, c14, c15, c16, c17, c18, c19, c20, c21, c22, c23, c24, c25, c26, c27, c28, c29, c30, c31, c32])]).run Tryd.prog w = .ok (.slice (some ⟨w.heap.size, 0, none⟩) 1 1) (w.alloc (.cells #[c0, c1, c2, c3, c4, c5, c6, c7, c8, c9, c10, c11, c12, c13, c14, c15, c16, c17, c18, c19, c20, c21, c22, c23, c24, c25, c26, c27, c28, c29, c30, c31, c32] 70)) := by kernel_rfl
theorem wr28_lg51 : ∀ (cs : Array Value), cs.size = 33 → ∀ w : World, (Instr.buildSlice 51 1 #[(0, .agg cs)]).run Tryd.prog w = .ok (.slice (some ⟨w.heap.size, 0, none⟩) 1 1) (w.alloc (.cells cs 70))
 | ⟨c0 :: c1 :: c2 :: c3 :: c4 :: c5 :: c6 :: c7 :: c8 :: c9 :: c10 :: c11 :: c12 :: c13 :: c14 :: c15 :: c16 :: c17 :: c18 :: c19 :: c20 :: c21 :: c22 :: c23 :: c24 :: c25 :: c26 :: c27 :: c28 :: c29 :: c30 :: c31 :: c32 :: []⟩, _, w => wr28_lh51 c0 c1 c2 c3 c4 c5 c6 c7 c8 c9 c10 c11 c12 c13 c14 c15 c16 c17 c18 c19 c20 c21 c22 c23 c24 c25 c26 c27 c28 c29 c30 c31 c32 w
theorem wr28_ig70 : ∃ z, (Tryd.prog.info? 70).map (fun i => (i.zero, i.size, i.bytes)) = some (some z, 33, 48) ∧ z.cells.size = 33 := info_ex (by kernel_rfl)
theorem wr28_isz51 : (Tryd.prog.info? 51).map (·.size) = some 1 := by kernel_rfl
theorem wr28_fo49_1 : FieldOff Tryd.prog 49 1 1 := fun b o w => by simp [go_sem]
theorem wr28_fo53_1 : FieldOff Tryd.prog 53 1 1 := fun b o w => by simp [go_sem]
theorem wr28_fo49_2 : FieldOff Tryd.prog 49 2 2 := fun b o w => by simp [go_sem]
theorem wr28_fo49_3 : FieldOff Tryd.prog 49 3 3 := fun b o w => by simp [go_sem]
theorem wr28_fo53_2 : FieldOff Tryd.prog 53 2 2 := fun b o w => by simp [go_sem]
theorem wr28_fo53_3 : FieldOff Tryd.prog 53 3 3 := fun b o w => by simp [go_sem]
theorem wr28_isz9 : (Tryd.prog.info? 9).map (·.size) = some 1 := by kernel_rfl
theorem wr28_fo53_4 : FieldOff Tryd.prog 53 4 35 := fun b o w => by simp [go_sem]
theorem wr28_ty47 : Tryd.prog.underlying 47 = some (.slice 122) := by kernel_rfl
theorem wr28_fo49_4 : FieldOff Tryd.prog 49 4 35 := fun b o w => by simp [go_sem]
theorem wr28_ig122 : ∃ z, (Tryd.prog.info? 122).map (fun i => (i.zero, i.size, i.bytes)) = some (some z, 67, 104) ∧ z.cells.size = 67 := info_ex (by kernel_rfl)
theorem wr28_isz47 : (Tryd.prog.info? 47).map (·.size) = some 1 := by kernel_rfl
theorem wr28_ty53 : ∃ fs, Tryd.prog.underlying 53 = some (.struct fs) := struct_of (by kernel_rfl)
theorem wr28_isz53 : (Tryd.prog.info? 53).map (·.size) = some 36 := by kernel_rfl
theorem wr28_al49 {d : Option Tmp} {ty : TypeId} {pos : String} {af : Array Edge} {gd : Option (Nat × Bool)} (σ : Operand → Value) (w : World) : (execOp σ ⟨d, .alloc 49, ty, pos, af, gd⟩).run Tryd.prog w = .ok (.value (PQ w.heap.size 0)) (w.alloc (.cells (refsC ((⟨[], [], [], zid, []⟩, ⟨.slice none 0 0, .slice none 0 0, .slice none 0 0⟩) : RefsV)).toArray 49)) := by kernel_rfl
theorem wr28_szg70 : ∀ w' : World, (sizeOf 70).run Tryd.prog w' = .ok 33 w' := fun _ => by kernel_rfl
theorem wr28_fo70_0 : FieldOff Tryd.prog 70 0 0 := fun b o w => by simp [go_sem]
theorem wr28_fo70_1 : FieldOff Tryd.prog 70 1 1 := fun b o w => by simp [go_sem]
theorem wr28_bs69_0_1h (z0 : ByteArray) (c1_0 c1_1 c1_2 c1_3 c1_4 c1_5 c1_6 c1_7 c1_8 c1_9 c1_10 c1_11 c1_12 c1_13 c1_14 c1_15 c1_16 c1_17 c1_18 c1_19 c1_20 c1_21 c1_22 c1_23 c1_24 c1_25 c1_26 c1_27 c1_28 c1_29 c1_30 c1_31 : Value) (w : World) : (Instr.build 69 #[(0, .string z0), (1, .agg #[c1_0, c1_1, c1_2, c1_3, c1_4, c1_5, c1_6, c1_7, c1_8, c1_9, c1_10, c1_11, c1_12, c1_13, c1_14, c1_15, c1_16, c1_17, c1_18, c1_19, c1_20, c1_21, c1_22, c1_23, c1_24, c1_25, c1_26, c1_27, c1_28, c1_29, c1_30, c1_31])]).run Tryd.prog w = .ok (.agg #[.string z0, c1_0, c1_1, c1_2, c1_3, c1_4, c1_5, c1_6, c1_7, c1_8, c1_9, c1_10, c1_11, c1_12, c1_13, c1_14, c1_15, c1_16, c1_17, c1_18, c1_19, c1_20, c1_21, c1_22, c1_23, c1_24, c1_25, c1_26, c1_27, c1_28, c1_29, c1_30, c1_31]) w := by kernel_rfl
theorem wr28_bs69_0_1 (z0 : List UInt8) (z1 : Id32) (w : World) : (Instr.build 69 #[(0, St z0), (1, AB z1.1)]).run Tryd.prog w = .ok (.agg (St (z0) :: (Lib.byteCells z1.1)).toArray) w := by
 obtain ⟨z1, k1⟩ := z1
 obtain ⟨a1_0, a1_1, a1_2, a1_3, a1_4, a1_5, a1_6, a1_7, a1_8, a1_9, a1_10, a1_11, a1_12, a1_13, a1_14, a1_15, a1_16, a1_17, a1_18, a1_19, a1_20, a1_21, a1_22, a1_23, a1_24, a1_25, a1_26, a1_27, a1_28, a1_29, a1_30, a1_31, rfl⟩ := list32 k1
 exact wr28_bs69_0_1h _ _ _ _ _ _ _ _ _ _ _ _ _ _ _ _ _ _ _ _ _ _ _ _ _ _ _ _ _ _ _ _ _ w
theorem wr28_lh46 (c0 c1 c2 c3 c4 c5 c6 c7 c8 c9 c10 c11 c12 c13 c14 c15 c16 c17 c18 c19 c20 c21 c22 c23 c24 c25 c26 c27 c28 c29 c30 c31 c32 : Value) (w : World) : (Instr.buildSlice 46 1 #[(0, .agg #[c0, c1, c2, c3, c4, c5, c6, c7, c8, c9, c10, c11, c12, c13, c14, c15, c16, c17, c18, c19, c20, c21, c22, c23, c24, c25, c26, c27, c28, c29, c30, c31, c32])]).run Tryd.prog w = .ok (.slice (some ⟨w.heap.size, 0, none⟩) 1 1) (w.alloc (.cells #[c0, c1, c2, c3, c4, c5, c6, c7, c8, c9, c10, c11, c12, c13, c14, c15, c16, c17, c18, c19, c20, c21, c22, c23, c24, c25, c26, c27, c28, c29, c30, c31, c32] 69)) := by kernel_rfl
theorem wr28_lg46 : ∀ (cs : Array Value), cs.size = 33 → ∀ w : World, (Instr.buildSlice 46 1 #[(0, .agg cs)]).run Tryd.prog w = .ok (.slice (some ⟨w.heap.size, 0, none⟩) 1 1) (w.alloc (.cells cs 69))
 | ⟨c0 :: c1 :: c2 :: c3 :: c4 :: c5 :: c6 :: c7 :: c8 :: c9 :: c10 :: c11 :: c12 :: c13 :: c14 :: c15 :: c16 :: c17 :: c18 :: c19 :: c20 :: c21 :: c22 :: c23 :: c24 :: c25 :: c26 :: c27 :: c28 :: c29 :: c30 :: c31 :: c32 :: []⟩, _, w => wr28_lh46 c0 c1 c2 c3 c4 c5 c6 c7 c8 c9 c10 c11 c12 c13 c14 c15 c16 c17 c18 c19 c20 c21 c22 c23 c24 c25 c26 c27 c28 c29 c30 c31 c32 w
theorem wr28_ig69 : ∃ z, (Tryd.prog.info? 69).map (fun i => (i.zero, i.size, i.bytes)) = some (some z, 33, 48) ∧ z.cells.size = 33 := info_ex (by kernel_rfl)
theorem wr28_isz46 : (Tryd.prog.info? 46).map (·.size) = some 1 := by kernel_rfl
theorem wr28_ty49 : ∃ fs, Tryd.prog.underlying 49 = some (.struct fs) := struct_of (by kernel_rfl)
theorem wr28_isz49 : (Tryd.prog.info? 49).map (·.size) = some 36 := by kernel_rfl
set_option maxHeartbeats 1600000
theorem told20_any (w : World) (y : RefsV) (hm : RefsAt w y) (hc : y.1.branches.length ≤ 80 ∧ y.1.tags.length ≤ 80 ∧ y.1.log.length ≤ 80) :
  Calls Tryd.prog 27 #[.agg (refsC y).toArray] w fun e w' => ∃ z, e = .returned (.agg (refsC (y.1, z)).toArray) ∧ RefsAt w' (y.1, z) ∧ Ext w w' := by
 have hmt := hm.branches
 have hmg := hm.tags
 have hml := hm.log
 obtain ⟨hc1, hc2, hc3⟩ := hc
 refine calls_of_wpF (args := [.agg (refsC y).toArray]) Tryd.func27 rfl 69 rfl (Nat.le_of_ble_eq_true rfl) ?_
 intro ρ0 hb
 have T0 : ρ0 0 = (.agg (refsC y).toArray : Value) := hb.get 0
 clear hb
 have hE := Ext.refl w
 refine sk fun K1 hK1 => (wt (oS rfl (Yk.box (cs := (refsC y : List Value).toArray) T0 fun n2 w3 hn4 hb5 hx6 hs7 => ?_)))
 have hE := hE.trans hx6
 have hb8 := hb5; clear hb5
 have hl9 : n2 < w3.heap.size := by omega
 refine oS rfl (Yk.alloc (cs := (refsC ((⟨[], [], [], zid, []⟩, ⟨.slice none 0 0, .slice none 0 0, .slice none 0 0⟩) : RefsV)).toArray) wr28_al53 fun n10 w11 hn12 hb13 hx14 hs15 => ?_)
 have hA16 := Ext.refl w3
 have hea17 := hE
 have hz18 := hE.size
 have hlt19 := lte (bl hb8) hn12
 have hE := hE.trans hx14
 have hb8 := eb hx14 hb8
 have hA16 := hA16.trans hx14
 have hb20 := hb13; clear hb13
 have hl21 : n10 < w11.heap.size := by omega
 refine oZ (tN (hK1 _ _ (sk fun K22 hK22 => (wt (oS rfl (Yk.alloc (cs := (refsC ((⟨[], [], [], zid, []⟩, ⟨.slice none 0 0, .slice none 0 0, .slice none 0 0⟩) : RefsV)).toArray) wr28_al53 fun n23 w24 hn25 hb26 hx27 hs28 => ?_))))))
 have hA29 := Ext.refl w11
 have hea30 := hE
 have hea31 := hA16
 have hz32 := hE.size
 have hz33 := hA16.size
 have hlt34 := lte (bl hb8) hn25
 have hlt35 := lte (bl hb20) hn25
 have hE := hE.trans hx27
 have hb8 := eb hx27 hb8
 have hA16 := hA16.trans hx27
 have hb20 := eb hx27 hb20
 have hA29 := hA29.trans hx27
 have hb36 := hb26; clear hb26
 have hl37 : n23 < w24.heap.size := by omega
 refine oZ (tN (hK22 _ _ (sk fun K38 hK38 => (sk fun K39 hK39 => (wt (oA rfl (oL_ [(0, .agg (refsC y).toArray), (1, PQ n2 0), (2, PQ n10 0), (3, PQ n23 0), (4, NI 0)] ⟨T0, rfl, rfl, rfl, rfl, trivial⟩ fun ρ40 ⟨T0, T1, T2, T3, T4, _⟩ => (tN (hK39 _ _ (wpF_block (wpF_loop (fun (ρ : Slots) (wz : World) => ∃ i1 : Nat, ∃ vb1 : Value, ρ 0 = (.agg (refsC y).toArray : Value) ∧ ρ 1 = (PQ n2 0 : Value) ∧ ρ 2 = (PQ n10 0 : Value) ∧ ρ 3 = (PQ n23 0 : Value) ∧ ρ 4 = (NI i1 : Value) ∧ Ext w wz ∧ wz.heap[n2]? = some (.cells (refsC y).toArray 49 (0, 0)) ∧ wz.heap[n10]? = some (.cells (refsC ((⟨[], [], [], zid, []⟩, ⟨.slice none 0 0, .slice none 0 0, .slice none 0 0⟩) : RefsV)).toArray 53 (0, 0)) ∧ wz.heap[n23]? = some (.cells (refsC ((⟨(y.1.branches.take i1), [], (((⟨[], [], [], zid, []⟩, ⟨.slice none 0 0, .slice none 0 0, .slice none 0 0⟩) : RefsV)).1.head, (((⟨[], [], [], zid, []⟩, ⟨.slice none 0 0, .slice none 0 0, .slice none 0 0⟩) : RefsV)).1.at_, []⟩, ⟨vb1, (Value.slice none 0 0), (Value.slice none 0 0)⟩) : RefsV)).toArray 53 (0, 0)) ∧ OG w.heap.size 70 33 (nmdC) wz vb1 (y.1.branches.take i1) ∧ (i1 ≤ y.1.branches.length) ∧ (OB vb1 n2) ∧ (OB vb1 n10) ∧ (OB vb1 n23) ∧ True) (fun ρ _ => y.1.branches.length - (intOf (ρ 4)).toNat) ⟨0, (Value.slice none 0 0), T0, T1, T2, T3, T4, hE, hb8, hb20, hb36, OG.nil _ _ _ _ _, Nat.zero_le _, (fun h => by cases h), (fun h => by cases h), (fun h => by cases h), trivial⟩ ?_)))))))))))
 clear hA16
 clear hA29
 clear hb36
 clear hE hb8 hb20
 rintro ρ41 w42 ⟨i1, vb1, T0, T1, T2, T3, T4, hE, hb8, hb20, hm1, ho1, hi1, hap_vb1_n2, hap_vb1_n10, hap_vb1_n23, -⟩
 have q4 := T4
 have hl43 := (bl hb8)
 have hl44 := (bl hb20)
 have hl45 := (bl hm1)
 refine sk fun K46 hK46 => (sk fun K47 hK47 => (wt (oM rfl (oS rfl (Yk.fieldAt wr28_fo49_0 T1 (oS rfl (Yk.cell1 wr28_ty46 rfl (vr (PQ n2 0) rfl) (cellAt hb8 (show (refsC y)[0]? = some (y.2.branches : Value) from refs_g0 y)) (oS rfl (Yk.lenRG wr28_ty46 (RG.of (hmt.keep hE) (vr y.2.branches rfl)) (oS rfl (Yk.eqI (a := (i1 : Nat)) (b := ((y.1.branches).length : Nat)) T4 rfl (k_lss _ _ _ _) (oZ (tN (hK47 _ _ ?_))))))))))))))
 refine wpF_cond ((i1) < ((y.1.branches).length)) (vr (.bool (decide ((i1) < ((y.1.branches).length)))) rfl) (fun hc0 => ?_) (fun hc0 => ?_)
 ·have hlt1 : i1 < y.1.branches.length := hc0
  refine wpF_skip (tN (hK46 _ _ (sk fun K48 hK48 => (wpF_block ?_))))
  refine wpF_draw_cut 16 [Is (PQ n23 0), Is (vb1), Is (PQ n2 0), Is (y.2.branches), Is (NI i1), fun x w' => PR (nmdC ((y.1.branches).getD (i1) dNmd)) x w', PCell (St (((y.1.branches).getD (i1) dNmd).name)), Is (St (((y.1.branches).getD (i1) dNmd).name)), Is (PQ n2 0), Is (y.2.branches), Is (NI i1), fun x w' => PR (nmdC ((y.1.branches).getD (i1) dNmd)) x w', fun x w' => PR (Lib.byteCells ((y.1.branches).getD (i1) dNmd).id.1) x w', Is (AB (((y.1.branches).getD (i1) dNmd).id.1)), Is (.agg (nmdC (⟨(((y.1.branches).getD (i1) dNmd).name), ((y.1.branches).getD (i1) dNmd).id⟩ : Nmd)).toArray), fun x w' => RG 33 (nmdC) w' x ([(⟨(((y.1.branches).getD (i1) dNmd).name), ((y.1.branches).getD (i1) dNmd).id⟩ : Nmd)])] (by kernel_rfl) [13, 14, 15, 16, 17, 18, 19, 20, 21, 22, 23, 24, 25, 26, 27, 28, 29, 30] (by kernel_rfl) (by kernel_rfl) (by kernel_rfl) (by kernel_rfl) rfl rfl (si5 ⟨(fun _ _ _ h k => PR.keep h k), Stab.pcell _, (si4 ⟨(fun _ _ _ h k => PR.keep h k), (fun _ _ _ h k => PR.keep h k), (si2 ⟨(fun _ _ _ h k => RG.keep h k), trivial⟩)⟩)⟩) ?hs2005 ?hQ2005
  case hs2005 =>
   refine ⟨?_, ?_, ?_, ?_, ?_, ?_, ?_, ?_, ?_, ?_, ?_, ?_, ?_, ?_, ?_, ?_, ?_, ?_, ?_, trivial⟩
   ·refine stepFC (stepN rfl fun σ w1 hC h => ?_)
    have e3 := (eqo (h 3 (by decide))).trans T3
    exact Yk.fieldAt wr28_fo53_0 e3 ⟨Ext.refl _, rfl⟩
   ·refine stepFC (stepN rfl fun σ w1 hC h => ?_)
    have e13 := eqo (h 13 (by decide))
    exact Yk.cell1 wr28_ty51 rfl e13 (cellAt (eb hC hm1) (show (refsC ((⟨(y.1.branches.take i1), [], (((⟨[], [], [], zid, []⟩, ⟨.slice none 0 0, .slice none 0 0, .slice none 0 0⟩) : RefsV)).1.head, (((⟨[], [], [], zid, []⟩, ⟨.slice none 0 0, .slice none 0 0, .slice none 0 0⟩) : RefsV)).1.at_, []⟩, ⟨vb1, (Value.slice none 0 0), (Value.slice none 0 0)⟩) : RefsV))[0]? = some (vb1 : Value) from refs_g0 ((⟨(y.1.branches.take i1), [], (((⟨[], [], [], zid, []⟩, ⟨.slice none 0 0, .slice none 0 0, .slice none 0 0⟩) : RefsV)).1.head, (((⟨[], [], [], zid, []⟩, ⟨.slice none 0 0, .slice none 0 0, .slice none 0 0⟩) : RefsV)).1.at_, []⟩, ⟨vb1, (Value.slice none 0 0), (Value.slice none 0 0)⟩) : RefsV))) ⟨Ext.refl _, rfl⟩
   ·refine stepFC (stepN rfl fun σ w1 hC h => ?_)
    have e1 := (eqo (h 1 (by decide))).trans T1
    exact Yk.fieldAt wr28_fo49_0 e1 ⟨Ext.refl _, rfl⟩
   ·refine stepFC (stepN rfl fun σ w1 hC h => ?_)
    have e15 := eqo (h 15 (by decide))
    exact Yk.cell1 wr28_ty46 rfl e15 (cellAt (eb hC hb8) (show (refsC y)[0]? = some (y.2.branches : Value) from refs_g0 y)) ⟨Ext.refl _, rfl⟩
   ·refine stepFC (stepN rfl fun σ w1 hC h => ?_)
    have e4 := (eqo (h 4 (by decide))).trans T4
    exact Yk.move e4 ⟨Ext.refl _, rfl⟩
   ·refine stepFC (stepN rfl fun σ w1 hC h => ?_)
    have e16 := eqo (h 16 (by decide))
    have e17 := eqo (h 17 (by decide))
    exact Yk.atRG wr28_ty46 wr28_szg69 (by decide) dNmd (RG.of (hmt.keep (hE.trans hC)) e16) e17 (by omega) fun v h => ⟨Ext.refl _, h⟩
   ·refine stepFC (stepN rfl fun σ w1 hC h => ?_)
    have e18 : (fun x w' => PR (nmdC ((y.1.branches).getD (i1) dNmd)) x w') (σ 18) w1 := h 18 (by decide)
    exact Yk.fieldPR (n := 1) wr28_fo69_0 e18 fun v h => ⟨Ext.refl _, PR.pcell (by rw [nmd_f0] at h; exact h)⟩
   ·refine stepFC (stepN rfl fun σ w1 hC h => ?_)
    have e19 : (PCell (St (((y.1.branches).getD (i1) dNmd).name))) (σ 19) w1 := h 19 (by decide)
    exact Yk.loadC wr28_ty9 rfl e19 ⟨Ext.refl _, rfl⟩
   ·refine stepFC (stepN rfl fun σ w1 hC h => ?_)
    have e1 := (eqo (h 1 (by decide))).trans T1
    exact Yk.fieldAt wr28_fo49_0 e1 ⟨Ext.refl _, rfl⟩
   ·refine stepFC (stepN rfl fun σ w1 hC h => ?_)
    have e21 := eqo (h 21 (by decide))
    exact Yk.cell1 wr28_ty46 rfl e21 (cellAt (eb hC hb8) (show (refsC y)[0]? = some (y.2.branches : Value) from refs_g0 y)) ⟨Ext.refl _, rfl⟩
   ·refine stepFC (stepN rfl fun σ w1 hC h => ?_)
    have e4 := (eqo (h 4 (by decide))).trans T4
    exact Yk.move e4 ⟨Ext.refl _, rfl⟩
   ·refine stepFC (stepN rfl fun σ w1 hC h => ?_)
    have e22 := eqo (h 22 (by decide))
    have e23 := eqo (h 23 (by decide))
    exact Yk.atRG wr28_ty46 wr28_szg69 (by decide) dNmd (RG.of (hmt.keep (hE.trans hC)) e22) e23 (by omega) fun v h => ⟨Ext.refl _, h⟩
   ·refine stepFC (stepN rfl fun σ w1 hC h => ?_)
    have e24 : (fun x w' => PR (nmdC ((y.1.branches).getD (i1) dNmd)) x w') (σ 24) w1 := h 24 (by decide)
    exact Yk.fieldPR (n := 32) wr28_fo69_1 e24 fun v h => ⟨Ext.refl _, by rw [nmd_f1] at h; exact h⟩
   ·refine stepFC (stepN rfl fun σ w1 hC h => ?_)
    have e25 : (fun x w' => PR (Lib.byteCells ((y.1.branches).getD (i1) dNmd).id.1) x w') (σ 25) w1 := h 25 (by decide)
    exact Yk.loadPR e25 wr28_ty25 rfl (by rw [Lib.byteCells_length, ((y.1.branches).getD (i1) dNmd).id.2]; exact wr28_isz25) ⟨Ext.refl _, rfl⟩
   ·refine stepFC (stepN rfl fun σ w1 hC h => ?_)
    have e20 := eqo (h 20 (by decide))
    have e26 := eqo (h 26 (by decide))
    exact Yk.build2 e20 e26 (fun w => wr28_bs70_0_1 (((y.1.branches).getD (i1) dNmd).name) (((y.1.branches).getD (i1) dNmd).id) w) ⟨Ext.refl _, rfl⟩
   ·refine stepFC (stepN rfl fun σ w1 hC h => ?_)
    have e27 := eqo (h 27 (by decide))
    exact Yk.lit1G (a := (⟨(((y.1.branches).getD (i1) dNmd).name), ((y.1.branches).getD (i1) dNmd).id⟩ : Nmd)) (enc := nmdC) e27 (nmd_len _) wr28_lg51 fun v w2 h hx => ⟨hx, h⟩
   ·exact trivial
   ·exact trivial
   ·exact trivial
  intro ρ49 w50 hx51 he hf
  obtain ⟨-, k14, -, -, -, -, -, -, -, -, -, -, -, -, -, k28, -⟩ := hf
  obtain ⟨T0, T1, T2, T3, T4, -⟩ := he.hold [(0, _), (1, _), (2, _), (3, _), (4, _)] ⟨T0, T1, T2, T3, T4, trivial⟩ rfl
  clear he
  have hE := hE.trans hx51
  have hb8 := eb hx51 hb8
  have hb20 := eb hx51 hb20
  have hm1 := eb hx51 hm1
  have ho1 := ho1.keep hx51
  have T14 : ρ49 14 = vb1 := k14
  have k28 : (fun x w' => RG 33 (nmdC) w' x ([(⟨(((y.1.branches).getD (i1) dNmd).name), ((y.1.branches).getD (i1) dNmd).id⟩ : Nmd)])) (ρ49 28) w50 := k28
  obtain ⟨v52, T28⟩ : ∃ v, ρ49 28 = v := ⟨_, rfl⟩
  rw [T28] at k28
  have hk53 := k28; clear k28
  clear k14
  refine oS rfl (Yk.appendRG _ _ w.heap.size _ 48 wr28_ty51 wr28_ig70.choose_spec.1 wr28_ig70.choose_spec.2 wr28_ty51 (y.1.branches.take i1) ([(⟨(((y.1.branches).getD (i1) dNmd).name), ((y.1.branches).getD (i1) dNmd).id⟩ : Nmd)]) (OG.of ho1 T14) (RG.of hk53 T28) (fun _ _ => nmd_one) (by simp only [List.length_take, List.length_append, List.length_cons, List.length_nil]; omega) (by simp only [List.length_take, List.length_append, List.length_cons, List.length_nil]; omega) hE.size fun v54 w55 ho56 hg57 => ?_)
  have hg57 : Grew w50 w55 vb1 v54 := .eqv T14 hg57
  have hap58 : OB v54 n2 := apart_grew hg57 hap_vb1_n2 (bl hb8)
  have hap59 : OB v54 n10 := apart_grew hg57 hap_vb1_n10 (bl hb20)
  have hap60 : OB v54 n23 := apart_grew hg57 hap_vb1_n23 (bl hm1)
  have hE := ext_grew hE hg57 ho1.2 (Nat.le_refl _)
  have hb8 := blk_grew hb8 hg57 hap_vb1_n2
  have hb20 := blk_grew hb20 hg57 hap_vb1_n10
  have hm1 := blk_grew hm1 hg57 hap_vb1_n23
  clear hk53
  clear ho1
  refine oS rfl (Yk.fieldAt wr28_fo53_0 T3 (oS rfl (Yk.storeC (i := 0) (v := v54) (vr (PQ n23 0) rfl) (vr v54 rfl) hm1 (by rw [refs_len]; decide) wr28_isz51 (RG.one (RG.ofOwn ho56)).1 (RG.one (RG.ofOwn ho56)).2 fun w61 hb62 hg63 hs64 => ?_)))
  have hE := row_fresh hE hg63 (Nat.le_trans hz32 (by omega))
  have hb8 := kb hg63 hb8 (by omega)
  have hb20 := kb hg63 hb20 (by omega)
  have ho56 := OG.kept ho56 hg63 hap60
  clear hm1
  have hm1 : w61.heap[n23]? = some (.cells (refsC ((⟨(y.1.branches.take i1) ++ [(⟨(((y.1.branches).getD (i1) dNmd).name), ((y.1.branches).getD (i1) dNmd).id⟩ : Nmd)], [], (((⟨[], [], [], zid, []⟩, ⟨.slice none 0 0, .slice none 0 0, .slice none 0 0⟩) : RefsV)).1.head, (((⟨[], [], [], zid, []⟩, ⟨.slice none 0 0, .slice none 0 0, .slice none 0 0⟩) : RefsV)).1.at_, []⟩, ⟨v54, (Value.slice none 0 0), (Value.slice none 0 0)⟩) : RefsV)).toArray 53 (0, 0)) := blk_eq hb62 (refs_s0 ((⟨(y.1.branches.take i1), [], (((⟨[], [], [], zid, []⟩, ⟨.slice none 0 0, .slice none 0 0, .slice none 0 0⟩) : RefsV)).1.head, (((⟨[], [], [], zid, []⟩, ⟨.slice none 0 0, .slice none 0 0, .slice none 0 0⟩) : RefsV)).1.at_, []⟩, ⟨vb1, (Value.slice none 0 0), (Value.slice none 0 0)⟩) : RefsV) v54 ((y.1.branches.take i1) ++ [(⟨(((y.1.branches).getD (i1) dNmd).name), ((y.1.branches).getD (i1) dNmd).id⟩ : Nmd)])); clear hb62
  have hl65 := bl hm1
  refine oZ (bN (tN (hK48 _ _ (wt (oM rfl (oS rfl (Yk.bin (xv := NI i1) (yv := NI 1) T4 rfl rfl (i64_add _ _ _ (by omega)) (oA rfl (oL_ [(0, .agg (refsC y).toArray), (1, PQ n2 0), (2, PQ n10 0), (3, PQ n23 0), (4, NI ((i1) + (1)))] ⟨T0, T1, T2, T3, rfl, trivial⟩ fun ρ66 ⟨T0, T1, T2, T3, T4, _⟩ => (tN (And.intro ⟨i1 + 1, v54, T0, T1, T2, T3, T4, hE, hb8, hb20, hm1, og_eq ho56 (take_snoc hlt1), by omega, hap58, hap59, hap60, trivial⟩ ?_)))))))))))
  show y.1.branches.length - (intOf (ρ66 4)).toNat < y.1.branches.length - (intOf (ρ41 4)).toNat
  rw [T4, q4]
  simp only [intOf, Int.toNat_natCast]; omega
 refine wpF_exit (thenF_exit (thenF_exit (inBlockF_hit (tN (hK38 _ _ (sk fun K67 hK67 => (sk fun K68 hK68 => (wt (oA rfl (oL_ [(0, .agg (refsC y).toArray), (1, PQ n2 0), (2, PQ n10 0), (3, PQ n23 0), (4, NI i1), (5, NI 0)] ⟨T0, T1, T2, T3, T4, rfl, trivial⟩ fun ρ69 ⟨T0, T1, T2, T3, T4, T5, _⟩ => (tN (hK68 _ _ (wpF_block (wpF_loop (fun (ρ : Slots) (wz : World) => ∃ i2 : Nat, ∃ vb2 : Value, ρ 0 = (.agg (refsC y).toArray : Value) ∧ ρ 1 = (PQ n2 0 : Value) ∧ ρ 2 = (PQ n10 0 : Value) ∧ ρ 3 = (PQ n23 0 : Value) ∧ ρ 4 = (NI i1 : Value) ∧ ρ 5 = (NI i2 : Value) ∧ Ext w wz ∧ wz.heap[n2]? = some (.cells (refsC y).toArray 49 (0, 0)) ∧ wz.heap[n10]? = some (.cells (refsC ((⟨[], [], [], zid, []⟩, ⟨.slice none 0 0, .slice none 0 0, .slice none 0 0⟩) : RefsV)).toArray 53 (0, 0)) ∧ OG w.heap.size 70 33 (nmdC) wz vb1 (y.1.branches.take i1) ∧ wz.heap[n23]? = some (.cells (refsC ((⟨(y.1.branches.take i1), (y.1.tags.take i2), (((⟨[], [], [], zid, []⟩, ⟨.slice none 0 0, .slice none 0 0, .slice none 0 0⟩) : RefsV)).1.head, (((⟨[], [], [], zid, []⟩, ⟨.slice none 0 0, .slice none 0 0, .slice none 0 0⟩) : RefsV)).1.at_, []⟩, ⟨vb1, vb2, (Value.slice none 0 0)⟩) : RefsV)).toArray 53 (0, 0)) ∧ OG w.heap.size 70 33 (nmdC) wz vb2 (y.1.tags.take i2) ∧ (i2 ≤ y.1.tags.length) ∧ (OB vb2 n2) ∧ (OB vb2 n10) ∧ (OB vb2 n23) ∧ (ApartV vb2 vb1) ∧ True) (fun ρ _ => y.1.tags.length - (intOf (ρ 5)).toNat) ⟨0, (Value.slice none 0 0), T0, T1, T2, T3, T4, T5, hE, hb8, hb20, ho1, hm1, OG.nil _ _ _ _ _, Nat.zero_le _, (fun h => by cases h), (fun h => by cases h), (fun h => by cases h), (fun k h => by cases h), trivial⟩ ?_))))))))))))))
 clear hm1
 clear hE hb8 hb20 ho1
 rintro ρ70 w71 ⟨i2, vb2, T0, T1, T2, T3, T4, T5, hE, hb8, hb20, ho1, hm2, ho2, hi2, hap_vb2_n2, hap_vb2_n10, hap_vb2_n23, hap_vb2_vb1, -⟩
 have q5 := T5
 have hl72 := (bl hb8)
 have hl73 := (bl hb20)
 have hl74 := (bl hm2)
 refine sk fun K75 hK75 => (sk fun K76 hK76 => (wt (oM rfl (oS rfl (Yk.fieldAt wr28_fo49_1 T1 (oS rfl (Yk.cell1 wr28_ty46 rfl (vr (PQ n2 1) rfl) (cellAt hb8 (show (refsC y)[1]? = some (y.2.tags : Value) from refs_g1 y)) (oS rfl (Yk.lenRG wr28_ty46 (RG.of (hmg.keep hE) (vr y.2.tags rfl)) (oS rfl (Yk.eqI (a := (i2 : Nat)) (b := ((y.1.tags).length : Nat)) T5 rfl (k_lss _ _ _ _) (oZ (tN (hK76 _ _ ?_))))))))))))))
 refine wpF_cond ((i2) < ((y.1.tags).length)) (vr (.bool (decide ((i2) < ((y.1.tags).length)))) rfl) (fun hc1 => ?_) (fun hc1 => ?_)
 ·have hlt2 : i2 < y.1.tags.length := hc1
  refine wpF_skip (tN (hK75 _ _ (sk fun K77 hK77 => (wpF_block ?_))))
  refine wpF_draw_cut 16 [Is (PQ n23 1), Is (vb2), Is (PQ n2 1), Is (y.2.tags), Is (NI i2), fun x w' => PR (nmdC ((y.1.tags).getD (i2) dNmd)) x w', PCell (St (((y.1.tags).getD (i2) dNmd).name)), Is (St (((y.1.tags).getD (i2) dNmd).name)), Is (PQ n2 1), Is (y.2.tags), Is (NI i2), fun x w' => PR (nmdC ((y.1.tags).getD (i2) dNmd)) x w', fun x w' => PR (Lib.byteCells ((y.1.tags).getD (i2) dNmd).id.1) x w', Is (AB (((y.1.tags).getD (i2) dNmd).id.1)), Is (.agg (nmdC (⟨(((y.1.tags).getD (i2) dNmd).name), ((y.1.tags).getD (i2) dNmd).id⟩ : Nmd)).toArray), fun x w' => RG 33 (nmdC) w' x ([(⟨(((y.1.tags).getD (i2) dNmd).name), ((y.1.tags).getD (i2) dNmd).id⟩ : Nmd)])] (by kernel_rfl) [38, 39, 40, 41, 42, 43, 44, 45, 46, 47, 48, 49, 50, 51, 52, 53, 54, 55] (by kernel_rfl) (by kernel_rfl) (by kernel_rfl) (by kernel_rfl) rfl rfl (si5 ⟨(fun _ _ _ h k => PR.keep h k), Stab.pcell _, (si4 ⟨(fun _ _ _ h k => PR.keep h k), (fun _ _ _ h k => PR.keep h k), (si2 ⟨(fun _ _ _ h k => RG.keep h k), trivial⟩)⟩)⟩) ?hs3009 ?hQ3009
  case hs3009 =>
   refine ⟨?_, ?_, ?_, ?_, ?_, ?_, ?_, ?_, ?_, ?_, ?_, ?_, ?_, ?_, ?_, ?_, ?_, ?_, ?_, trivial⟩
   ·refine stepFC (stepN rfl fun σ w1 hC h => ?_)
    have e3 := (eqo (h 3 (by decide))).trans T3
    exact Yk.fieldAt wr28_fo53_1 e3 ⟨Ext.refl _, rfl⟩
   ·refine stepFC (stepN rfl fun σ w1 hC h => ?_)
    have e38 := eqo (h 38 (by decide))
    exact Yk.cell1 wr28_ty51 rfl e38 (cellAt (eb hC hm2) (show (refsC ((⟨(y.1.branches.take i1), (y.1.tags.take i2), (((⟨[], [], [], zid, []⟩, ⟨.slice none 0 0, .slice none 0 0, .slice none 0 0⟩) : RefsV)).1.head, (((⟨[], [], [], zid, []⟩, ⟨.slice none 0 0, .slice none 0 0, .slice none 0 0⟩) : RefsV)).1.at_, []⟩, ⟨vb1, vb2, (Value.slice none 0 0)⟩) : RefsV))[1]? = some (vb2 : Value) from refs_g1 ((⟨(y.1.branches.take i1), (y.1.tags.take i2), (((⟨[], [], [], zid, []⟩, ⟨.slice none 0 0, .slice none 0 0, .slice none 0 0⟩) : RefsV)).1.head, (((⟨[], [], [], zid, []⟩, ⟨.slice none 0 0, .slice none 0 0, .slice none 0 0⟩) : RefsV)).1.at_, []⟩, ⟨vb1, vb2, (Value.slice none 0 0)⟩) : RefsV))) ⟨Ext.refl _, rfl⟩
   ·refine stepFC (stepN rfl fun σ w1 hC h => ?_)
    have e1 := (eqo (h 1 (by decide))).trans T1
    exact Yk.fieldAt wr28_fo49_1 e1 ⟨Ext.refl _, rfl⟩
   ·refine stepFC (stepN rfl fun σ w1 hC h => ?_)
    have e40 := eqo (h 40 (by decide))
    exact Yk.cell1 wr28_ty46 rfl e40 (cellAt (eb hC hb8) (show (refsC y)[1]? = some (y.2.tags : Value) from refs_g1 y)) ⟨Ext.refl _, rfl⟩
   ·refine stepFC (stepN rfl fun σ w1 hC h => ?_)
    have e5 := (eqo (h 5 (by decide))).trans T5
    exact Yk.move e5 ⟨Ext.refl _, rfl⟩
   ·refine stepFC (stepN rfl fun σ w1 hC h => ?_)
    have e41 := eqo (h 41 (by decide))
    have e42 := eqo (h 42 (by decide))
    exact Yk.atRG wr28_ty46 wr28_szg69 (by decide) dNmd (RG.of (hmg.keep (hE.trans hC)) e41) e42 (by omega) fun v h => ⟨Ext.refl _, h⟩
   ·refine stepFC (stepN rfl fun σ w1 hC h => ?_)
    have e43 : (fun x w' => PR (nmdC ((y.1.tags).getD (i2) dNmd)) x w') (σ 43) w1 := h 43 (by decide)
    exact Yk.fieldPR (n := 1) wr28_fo69_0 e43 fun v h => ⟨Ext.refl _, PR.pcell (by rw [nmd_f0] at h; exact h)⟩
   ·refine stepFC (stepN rfl fun σ w1 hC h => ?_)
    have e44 : (PCell (St (((y.1.tags).getD (i2) dNmd).name))) (σ 44) w1 := h 44 (by decide)
    exact Yk.loadC wr28_ty9 rfl e44 ⟨Ext.refl _, rfl⟩
   ·refine stepFC (stepN rfl fun σ w1 hC h => ?_)
    have e1 := (eqo (h 1 (by decide))).trans T1
    exact Yk.fieldAt wr28_fo49_1 e1 ⟨Ext.refl _, rfl⟩
   ·refine stepFC (stepN rfl fun σ w1 hC h => ?_)
    have e46 := eqo (h 46 (by decide))
    exact Yk.cell1 wr28_ty46 rfl e46 (cellAt (eb hC hb8) (show (refsC y)[1]? = some (y.2.tags : Value) from refs_g1 y)) ⟨Ext.refl _, rfl⟩
   ·refine stepFC (stepN rfl fun σ w1 hC h => ?_)
    have e5 := (eqo (h 5 (by decide))).trans T5
    exact Yk.move e5 ⟨Ext.refl _, rfl⟩
   ·refine stepFC (stepN rfl fun σ w1 hC h => ?_)
    have e47 := eqo (h 47 (by decide))
    have e48 := eqo (h 48 (by decide))
    exact Yk.atRG wr28_ty46 wr28_szg69 (by decide) dNmd (RG.of (hmg.keep (hE.trans hC)) e47) e48 (by omega) fun v h => ⟨Ext.refl _, h⟩
   ·refine stepFC (stepN rfl fun σ w1 hC h => ?_)
    have e49 : (fun x w' => PR (nmdC ((y.1.tags).getD (i2) dNmd)) x w') (σ 49) w1 := h 49 (by decide)
    exact Yk.fieldPR (n := 32) wr28_fo69_1 e49 fun v h => ⟨Ext.refl _, by rw [nmd_f1] at h; exact h⟩
   ·refine stepFC (stepN rfl fun σ w1 hC h => ?_)
    have e50 : (fun x w' => PR (Lib.byteCells ((y.1.tags).getD (i2) dNmd).id.1) x w') (σ 50) w1 := h 50 (by decide)
    exact Yk.loadPR e50 wr28_ty25 rfl (by rw [Lib.byteCells_length, ((y.1.tags).getD (i2) dNmd).id.2]; exact wr28_isz25) ⟨Ext.refl _, rfl⟩
   ·refine stepFC (stepN rfl fun σ w1 hC h => ?_)
    have e45 := eqo (h 45 (by decide))
    have e51 := eqo (h 51 (by decide))
    exact Yk.build2 e45 e51 (fun w => wr28_bs70_0_1 (((y.1.tags).getD (i2) dNmd).name) (((y.1.tags).getD (i2) dNmd).id) w) ⟨Ext.refl _, rfl⟩
   ·refine stepFC (stepN rfl fun σ w1 hC h => ?_)
    have e52 := eqo (h 52 (by decide))
    exact Yk.lit1G (a := (⟨(((y.1.tags).getD (i2) dNmd).name), ((y.1.tags).getD (i2) dNmd).id⟩ : Nmd)) (enc := nmdC) e52 (nmd_len _) wr28_lg51 fun v w2 h hx => ⟨hx, h⟩
   ·exact trivial
   ·exact trivial
   ·exact trivial
  intro ρ78 w79 hx80 he hf
  obtain ⟨-, k39, -, -, -, -, -, -, -, -, -, -, -, -, -, k53, -⟩ := hf
  obtain ⟨T0, T1, T2, T3, T4, T5, -⟩ := he.hold [(0, _), (1, _), (2, _), (3, _), (4, _), (5, _)] ⟨T0, T1, T2, T3, T4, T5, trivial⟩ rfl
  clear he
  have hE := hE.trans hx80
  have hb8 := eb hx80 hb8
  have hb20 := eb hx80 hb20
  have ho1 := ho1.keep hx80
  have hm2 := eb hx80 hm2
  have ho2 := ho2.keep hx80
  have T39 : ρ78 39 = vb2 := k39
  have k53 : (fun x w' => RG 33 (nmdC) w' x ([(⟨(((y.1.tags).getD (i2) dNmd).name), ((y.1.tags).getD (i2) dNmd).id⟩ : Nmd)])) (ρ78 53) w79 := k53
  obtain ⟨v81, T53⟩ : ∃ v, ρ78 53 = v := ⟨_, rfl⟩
  rw [T53] at k53
  have hk82 := k53; clear k53
  clear k39
  refine oS rfl (Yk.appendRG _ _ w.heap.size _ 48 wr28_ty51 wr28_ig70.choose_spec.1 wr28_ig70.choose_spec.2 wr28_ty51 (y.1.tags.take i2) ([(⟨(((y.1.tags).getD (i2) dNmd).name), ((y.1.tags).getD (i2) dNmd).id⟩ : Nmd)]) (OG.of ho2 T39) (RG.of hk82 T53) (fun _ _ => nmd_one) (by simp only [List.length_take, List.length_append, List.length_cons, List.length_nil]; omega) (by simp only [List.length_take, List.length_append, List.length_cons, List.length_nil]; omega) hE.size fun v83 w84 ho85 hg86 => ?_)
  have hg86 : Grew w79 w84 vb2 v83 := .eqv T39 hg86
  have hap87 : OB v83 n2 := apart_grew hg86 hap_vb2_n2 (bl hb8)
  have hap88 : OB v83 n10 := apart_grew hg86 hap_vb2_n10 (bl hb20)
  have hap89 : OB v83 n23 := apart_grew hg86 hap_vb2_n23 (bl hm2)
  have hap90 : ApartV v83 vb1 := apartv_grew hg86 hap_vb2_vb1 ho1.2
  have hap91 : ApartV vb1 v83 := fun k h1 h2 => hap90 k h2 h1
  have hE := ext_grew hE hg86 ho2.2 (Nat.le_refl _)
  have hb8 := blk_grew hb8 hg86 hap_vb2_n2
  have hb20 := blk_grew hb20 hg86 hap_vb2_n10
  have ho1 := og_grew ho1 hg86 hap_vb2_vb1
  have hm2 := blk_grew hm2 hg86 hap_vb2_n23
  clear hk82
  clear ho2
  refine oS rfl (Yk.fieldAt wr28_fo53_1 T3 (oS rfl (Yk.storeC (i := 1) (v := v83) (vr (PQ n23 1) rfl) (vr v83 rfl) hm2 (by rw [refs_len]; decide) wr28_isz51 (RG.one (RG.ofOwn ho85)).1 (RG.one (RG.ofOwn ho85)).2 fun w92 hb93 hg94 hs95 => ?_)))
  have hE := row_fresh hE hg94 (Nat.le_trans hz32 (by omega))
  have hb8 := kb hg94 hb8 (by omega)
  have hb20 := kb hg94 hb20 (by omega)
  have ho1 := OG.kept ho1 hg94 hap_vb1_n23
  have ho85 := OG.kept ho85 hg94 hap89
  clear hm2
  have hm2 : w92.heap[n23]? = some (.cells (refsC ((⟨(y.1.branches.take i1), (y.1.tags.take i2) ++ [(⟨(((y.1.tags).getD (i2) dNmd).name), ((y.1.tags).getD (i2) dNmd).id⟩ : Nmd)], (((⟨[], [], [], zid, []⟩, ⟨.slice none 0 0, .slice none 0 0, .slice none 0 0⟩) : RefsV)).1.head, (((⟨[], [], [], zid, []⟩, ⟨.slice none 0 0, .slice none 0 0, .slice none 0 0⟩) : RefsV)).1.at_, []⟩, ⟨vb1, v83, (Value.slice none 0 0)⟩) : RefsV)).toArray 53 (0, 0)) := blk_eq hb93 (refs_s1 ((⟨(y.1.branches.take i1), (y.1.tags.take i2), (((⟨[], [], [], zid, []⟩, ⟨.slice none 0 0, .slice none 0 0, .slice none 0 0⟩) : RefsV)).1.head, (((⟨[], [], [], zid, []⟩, ⟨.slice none 0 0, .slice none 0 0, .slice none 0 0⟩) : RefsV)).1.at_, []⟩, ⟨vb1, vb2, (Value.slice none 0 0)⟩) : RefsV) v83 ((y.1.tags.take i2) ++ [(⟨(((y.1.tags).getD (i2) dNmd).name), ((y.1.tags).getD (i2) dNmd).id⟩ : Nmd)])); clear hb93
  have hl96 := bl hm2
  refine oZ (bN (tN (hK77 _ _ (wt (oM rfl (oS rfl (Yk.bin (xv := NI i2) (yv := NI 1) T5 rfl rfl (i64_add _ _ _ (by omega)) (oA rfl (oL_ [(0, .agg (refsC y).toArray), (1, PQ n2 0), (2, PQ n10 0), (3, PQ n23 0), (4, NI i1), (5, NI ((i2) + (1)))] ⟨T0, T1, T2, T3, T4, rfl, trivial⟩ fun ρ97 ⟨T0, T1, T2, T3, T4, T5, _⟩ => (tN (And.intro ⟨i2 + 1, v83, T0, T1, T2, T3, T4, T5, hE, hb8, hb20, ho1, hm2, og_eq ho85 (take_snoc hlt2), by omega, hap87, hap88, hap89, hap90, trivial⟩ ?_)))))))))))
  show y.1.tags.length - (intOf (ρ97 5)).toNat < y.1.tags.length - (intOf (ρ70 5)).toNat
  rw [T5, q5]
  simp only [intOf, Int.toNat_natCast]; omega
 refine wpF_exit (thenF_exit (thenF_exit (inBlockF_hit (tN (hK67 _ _ (sk fun K98 hK98 => ?_))))))
 have hx99 : Ext w71 (World.drew w71) := (Below.refl _ _).drew
 have hE := hE.trans hx99
 have hb8 := eb hx99 hb8
 have hb20 := eb hx99 hb20
 have ho1 := ho1.keep hx99
 have hm2 := eb hx99 hm2
 have ho2 := ho2.keep hx99
 refine wpF_float [(0, 56, PQ n2 2), (1, 57, St (y.1.head)), (2, 58, PQ n2 3), (3, 59, AB y.1.at_.1), (4, 60, PQ n23 2), (6, 61, PQ n23 3)] [5, 7] (fun wz => Ext w wz ∧ wz.heap[n2]? = some (.cells (refsC y).toArray 49 (0, 0)) ∧ wz.heap[n10]? = some (.cells (refsC ((⟨[], [], [], zid, []⟩, ⟨.slice none 0 0, .slice none 0 0, .slice none 0 0⟩) : RefsV)).toArray 53 (0, 0)) ∧ True) (by kernel_rfl) (by kernel_rfl) (by kernel_rfl) ⟨hE, hb8, hb20, trivial⟩ ⟨fun w100 ⟨hE, hb8, hb20, _⟩ => Yk.fieldAt wr28_fo49_2 T1 ⟨rfl, rfl⟩, fun w100 ⟨hE, hb8, hb20, _⟩ => Yk.cell1 wr28_ty9 rfl (vr (PQ n2 2) rfl) (cellAt hb8 (show (refsC y)[2]? = some (St (y.1.head) : Value) from refs_g2 y)) ⟨rfl, rfl⟩, fun w100 ⟨hE, hb8, hb20, _⟩ => Yk.fieldAt wr28_fo49_3 T1 ⟨rfl, rfl⟩, fun w100 ⟨hE, hb8, hb20, _⟩ => Yk.loadPR (PR.blk hb8 (refs_m3 y) (refs_n3 y) (vr (PQ n2 3) rfl)) wr28_ty25 rfl (sizeId_of y.1.at_.2) ⟨rfl, rfl⟩, fun w100 ⟨hE, hb8, hb20, _⟩ => Yk.fieldAt wr28_fo53_2 T3 ⟨rfl, rfl⟩, fun w100 ⟨hE, hb8, hb20, _⟩ => Yk.fieldAt wr28_fo53_3 T3 ⟨rfl, rfl⟩, trivial⟩ (chF_step rfl (Yk.storeC (i := 2) (v := St (y.1.head)) (vr (PQ n23 2) rfl) (vr (St (y.1.head)) rfl) hm2 (by rw [refs_len]; decide) wr28_isz9 rfl rfl fun w101 hb102 hg103 hs104 => ?_))
 have hE := row_fresh hE hg103 (Nat.le_trans hz32 (by omega))
 have hb8 := kb hg103 hb8 (by omega)
 have hb20 := kb hg103 hb20 (by omega)
 have ho1 := OG.kept ho1 hg103 hap_vb1_n23
 have ho2 := OG.kept ho2 hg103 hap_vb2_n23
 clear hm2
 have hm2 : w101.heap[n23]? = some (.cells (refsC ((⟨(y.1.branches.take i1), (y.1.tags.take i2), y.1.head, (((⟨[], [], [], zid, []⟩, ⟨.slice none 0 0, .slice none 0 0, .slice none 0 0⟩) : RefsV)).1.at_, []⟩, ⟨vb1, vb2, (Value.slice none 0 0)⟩) : RefsV)).toArray 53 (0, 0)) := blk_eq hb102 (refs_s2 ((⟨(y.1.branches.take i1), (y.1.tags.take i2), (((⟨[], [], [], zid, []⟩, ⟨.slice none 0 0, .slice none 0 0, .slice none 0 0⟩) : RefsV)).1.head, (((⟨[], [], [], zid, []⟩, ⟨.slice none 0 0, .slice none 0 0, .slice none 0 0⟩) : RefsV)).1.at_, []⟩, ⟨vb1, vb2, (Value.slice none 0 0)⟩) : RefsV) y.1.head); clear hb102
 have hl105 := bl hm2
 refine ⟨.inr ⟨hE, hb8, hb20, trivial⟩, ?_⟩
 refine chF_step rfl (Yk.storeMid (a := refs_a3 ((⟨(y.1.branches.take i1), (y.1.tags.take i2), y.1.head, (((⟨[], [], [], zid, []⟩, ⟨.slice none 0 0, .slice none 0 0, .slice none 0 0⟩) : RefsV)).1.at_, []⟩, ⟨vb1, vb2, (Value.slice none 0 0)⟩) : RefsV)) (m := Lib.byteCells ((((⟨[], [], [], zid, []⟩, ⟨.slice none 0 0, .slice none 0 0, .slice none 0 0⟩) : RefsV)).1.at_).1) (z := refs_z3 ((⟨(y.1.branches.take i1), (y.1.tags.take i2), y.1.head, (((⟨[], [], [], zid, []⟩, ⟨.slice none 0 0, .slice none 0 0, .slice none 0 0⟩) : RefsV)).1.at_, []⟩, ⟨vb1, vb2, (Value.slice none 0 0)⟩) : RefsV)) (cells := Lib.byteCells y.1.at_.1) (vr (PQ n23 3) rfl) (vr (AB y.1.at_.1) rfl) (refs_m3 ((⟨(y.1.branches.take i1), (y.1.tags.take i2), y.1.head, (((⟨[], [], [], zid, []⟩, ⟨.slice none 0 0, .slice none 0 0, .slice none 0 0⟩) : RefsV)).1.at_, []⟩, ⟨vb1, vb2, (Value.slice none 0 0)⟩) : RefsV) ▸ hm2) (refs_n3 ((⟨(y.1.branches.take i1), (y.1.tags.take i2), y.1.head, (((⟨[], [], [], zid, []⟩, ⟨.slice none 0 0, .slice none 0 0, .slice none 0 0⟩) : RefsV)).1.at_, []⟩, ⟨vb1, vb2, (Value.slice none 0 0)⟩) : RefsV)) (by rw [Lib.byteCells_length, Lib.byteCells_length, ((((⟨[], [], [], zid, []⟩, ⟨.slice none 0 0, .slice none 0 0, .slice none 0 0⟩) : RefsV)).1.at_).2, y.1.at_.2]) (by rw [Lib.byteCells_length, y.1.at_.2]; exact wr28_isz25) (byteCells_one _) fun w106 hb107 hg108 hs109 => ?_)
 have hE := row_fresh hE hg108 (Nat.le_trans hz32 (by omega))
 have hb8 := kb hg108 hb8 (by omega)
 have hb20 := kb hg108 hb20 (by omega)
 have ho1 := OG.kept ho1 hg108 hap_vb1_n23
 have ho2 := OG.kept ho2 hg108 hap_vb2_n23
 clear hm2
 have hm2 : w106.heap[n23]? = some (.cells (refsC ((⟨(y.1.branches.take i1), (y.1.tags.take i2), y.1.head, y.1.at_, []⟩, ⟨vb1, vb2, (Value.slice none 0 0)⟩) : RefsV)).toArray 53 (0, 0)) := blk_eq hb107 (refs_s3 ((⟨(y.1.branches.take i1), (y.1.tags.take i2), y.1.head, (((⟨[], [], [], zid, []⟩, ⟨.slice none 0 0, .slice none 0 0, .slice none 0 0⟩) : RefsV)).1.at_, []⟩, ⟨vb1, vb2, (Value.slice none 0 0)⟩) : RefsV) y.1.at_); clear hb107
 have hl110 := bl hm2
 refine ⟨.inl rfl, ?_⟩
 refine chF_nil (tN (hK98 _ _ (sk fun K111 hK111 => (wt (oS rfl (Yk.fieldAt wr28_fo53_4 T3 (oS rfl (Yk.cell1 wr28_ty47 rfl (vr (PQ n23 35) rfl) (cellAt hm2 (show (refsC ((⟨(y.1.branches.take i1), (y.1.tags.take i2), y.1.head, y.1.at_, []⟩, ⟨vb1, vb2, (Value.slice none 0 0)⟩) : RefsV))[35]? = some ((Value.slice none 0 0) : Value) from refs_g4 ((⟨(y.1.branches.take i1), (y.1.tags.take i2), y.1.head, y.1.at_, []⟩, ⟨vb1, vb2, (Value.slice none 0 0)⟩) : RefsV))) (oS rfl (Yk.fieldAt wr28_fo49_4 T1 (oS rfl (Yk.cell1 wr28_ty47 rfl (vr (PQ n2 35) rfl) (cellAt hb8 (show (refsC y)[35]? = some (y.2.log : Value) from refs_g4 y)) ?_))))))))))))
 have hA112 := Ext.refl w106
 have hea113 := hE
 have hz114 := hE.size
 refine oS rfl (Yk.appendRG _ _ w106.heap.size _ 104 wr28_ty47 wr28_ig122.choose_spec.1 wr28_ig122.choose_spec.2 wr28_ty47 ([]) (y.1.log) (OG.of (OG.nil _ _ _ _ _) (vr (Value.slice none 0 0) rfl)) (RG.of (hml.keep hE) (vr y.2.log rfl)) (fun _ _ => ent_one) (by simp only [List.length_nil]; omega) (by simp only [List.length_nil]; omega) hA112.size fun v115 w116 ho117 hg118 => ?_)
 have hg118 : Grew w106 w116 (.slice none 0 0) v115 := hg118
 have hlt119 := (bl hb8)
 have hlt120 := (bl hb20)
 have hlt121 := (bl hm2)
 have hx_ : Ext w106 w116 := Ext.of (by have := hg118.by_; exact this)
 have hE := hE.trans hx_
 have hb8 := eb hx_ hb8
 have hb20 := eb hx_ hb20
 have ho1 := ho1.keep hx_
 have ho2 := ho2.keep hx_
 have hm2 := eb hx_ hm2
 have hA112 := hA112.trans hx_
 have hap122 : OB v115 n2 := own_older ho117.2 hlt119
 have hap123 : OB v115 n10 := own_older ho117.2 hlt120
 have hap124 : OB v115 n23 := own_older ho117.2 hlt121
 refine oS rfl (Yk.fieldAt wr28_fo53_4 T3 (oS rfl (Yk.storeC (i := 35) (v := v115) (vr (PQ n23 35) rfl) (vr v115 rfl) hm2 (by rw [refs_len]; decide) wr28_isz47 (RG.one (RG.ofOwn ho117)).1 (RG.one (RG.ofOwn ho117)).2 fun w125 hb126 hg127 hs128 => ?_)))
 have hE := row_fresh hE hg127 (Nat.le_trans hz32 (by omega))
 have hb8 := kb hg127 hb8 (by omega)
 have hb20 := kb hg127 hb20 (by omega)
 have ho1 := OG.kept ho1 hg127 hap_vb1_n23
 have ho2 := OG.kept ho2 hg127 hap_vb2_n23
 clear hA112
 have ho117 := OG.kept ho117 hg127 hap124
 clear hm2
 have hm2 : w125.heap[n23]? = some (.cells (refsC ((⟨(y.1.branches.take i1), (y.1.tags.take i2), y.1.head, y.1.at_, ([]) ++ y.1.log⟩, ⟨vb1, vb2, v115⟩) : RefsV)).toArray 53 (0, 0)) := blk_eq hb126 (refs_s4 ((⟨(y.1.branches.take i1), (y.1.tags.take i2), y.1.head, y.1.at_, []⟩, ⟨vb1, vb2, (Value.slice none 0 0)⟩) : RefsV) v115 (([]) ++ y.1.log)); clear hb126
 have hl129 := bl hm2
 refine oZ (tN (hK111 _ _ (sk fun K130 hK130 => (wt (oS rfl (Yk.loadAll T3 hm2 (wr28_ty53).choose_spec rfl (st_isz (refs_len ((⟨(y.1.branches.take i1), (y.1.tags.take i2), y.1.head, y.1.at_, ([]) ++ y.1.log⟩, ⟨vb1, vb2, v115⟩) : RefsV)) wr28_isz53) (oS rfl (Yk.storeAll T2 (vr (.agg (refsC ((⟨(y.1.branches.take i1), (y.1.tags.take i2), y.1.head, y.1.at_, ([]) ++ y.1.log⟩, ⟨vb1, vb2, v115⟩) : RefsV)).toArray) rfl) hb20 (by simp only [List.size_toArray, refs_len]) (st_isz (refs_len _) wr28_isz53) (refs_one (x := ((⟨(y.1.branches.take i1), (y.1.tags.take i2), y.1.head, y.1.at_, ([]) ++ y.1.log⟩, ⟨vb1, vb2, v115⟩) : RefsV)) (RG.one (RG.ofOwn ho1)).2 (RG.one (RG.ofOwn ho2)).2 (RG.one (RG.ofOwn ho117)).2) fun w131 hb132 hg133 hs134 => ?_))))))))
 have hE := row_fresh hE hg133 (Nat.le_trans hz18 (by omega))
 have hb8 := kb hg133 hb8 (by omega)
 have ho1 := OG.kept ho1 hg133 hap_vb1_n10
 have ho2 := OG.kept ho2 hg133 hap_vb2_n10
 have ho117 := OG.kept ho117 hg133 hap123
 have hm2 := kb hg133 hm2 (by omega)
 clear hb20
 have hb20 : w131.heap[n10]? = some (.cells (refsC ((⟨(y.1.branches.take i1), (y.1.tags.take i2), y.1.head, y.1.at_, ([]) ++ y.1.log⟩, ⟨vb1, vb2, v115⟩) : RefsV)).toArray 53 (0, 0)) := hb132; clear hb132
 have hl135 := bl hb20
 refine oZ (tN (hK130 _ _ (wpF_ret (postF_ret (fn := Tryd.f27) _ rfl [.agg (refsC ((⟨(y.1.branches.take i1), (y.1.tags.take i2), y.1.head, y.1.at_, ([]) ++ y.1.log⟩, ⟨vb1, vb2, v115⟩) : RefsV)).toArray] (.agg (refsC ((⟨(y.1.branches.take i1), (y.1.tags.take i2), y.1.head, y.1.at_, ([]) ++ y.1.log⟩, ⟨vb1, vb2, v115⟩) : RefsV)).toArray) rfl ⟨ResF.row T2 hb20 (wr28_ty53).choose_spec rfl (st_isz (refs_len _) wr28_isz53), trivial⟩ ?_))))
 have e1 : y.1.branches.take i1 = y.1.branches := List.take_of_length_le (by omega)
 have e2 : y.1.tags.take i2 = y.1.tags := List.take_of_length_le (by omega)
 refine ⟨⟨_, _, _⟩, ?_, ⟨RG.ofOwn (og_eq ho1 e1), RG.ofOwn (og_eq ho2 e2), RG.ofOwn (og_eq ho117 (by simp))⟩, hE⟩
 rw [e1, e2]; rfl

theorem of20_any (w : World) (y : RefsV) (hm : RefsAt w y) (hc : y.1.branches.length ≤ 80 ∧ y.1.tags.length ≤ 80 ∧ y.1.log.length ≤ 80) :
  Calls Tryd.prog 30 #[.agg (refsC y).toArray] w fun e w' => ∃ z, e = .returned (.agg (refsC (y.1, z)).toArray) ∧ RefsAt w' (y.1, z) ∧ Ext w w' := by
 have hmt := hm.branches
 have hmg := hm.tags
 have hml := hm.log
 obtain ⟨hc1, hc2, hc3⟩ := hc
 refine calls_of_wpF (args := [.agg (refsC y).toArray]) Tryd.func30 rfl 69 rfl (Nat.le_of_ble_eq_true rfl) ?_
 intro ρ0 hb
 have T0 : ρ0 0 = (.agg (refsC y).toArray : Value) := hb.get 0
 clear hb
 have hE := Ext.refl w
 refine sk fun K1 hK1 => (wt (oS rfl (Yk.box (cs := (refsC y : List Value).toArray) T0 fun n2 w3 hn4 hb5 hx6 hs7 => ?_)))
 have hE := hE.trans hx6
 have hb8 := hb5; clear hb5
 have hl9 : n2 < w3.heap.size := by omega
 refine oS rfl (Yk.alloc (cs := (refsC ((⟨[], [], [], zid, []⟩, ⟨.slice none 0 0, .slice none 0 0, .slice none 0 0⟩) : RefsV)).toArray) wr28_al49 fun n10 w11 hn12 hb13 hx14 hs15 => ?_)
 have hA16 := Ext.refl w3
 have hea17 := hE
 have hz18 := hE.size
 have hlt19 := lte (bl hb8) hn12
 have hE := hE.trans hx14
 have hb8 := eb hx14 hb8
 have hA16 := hA16.trans hx14
 have hb20 := hb13; clear hb13
 have hl21 : n10 < w11.heap.size := by omega
 refine oZ (tN (hK1 _ _ (sk fun K22 hK22 => (wt (oS rfl (Yk.alloc (cs := (refsC ((⟨[], [], [], zid, []⟩, ⟨.slice none 0 0, .slice none 0 0, .slice none 0 0⟩) : RefsV)).toArray) wr28_al49 fun n23 w24 hn25 hb26 hx27 hs28 => ?_))))))
 have hA29 := Ext.refl w11
 have hea30 := hE
 have hea31 := hA16
 have hz32 := hE.size
 have hz33 := hA16.size
 have hlt34 := lte (bl hb8) hn25
 have hlt35 := lte (bl hb20) hn25
 have hE := hE.trans hx27
 have hb8 := eb hx27 hb8
 have hA16 := hA16.trans hx27
 have hb20 := eb hx27 hb20
 have hA29 := hA29.trans hx27
 have hb36 := hb26; clear hb26
 have hl37 : n23 < w24.heap.size := by omega
 refine oZ (tN (hK22 _ _ (sk fun K38 hK38 => (sk fun K39 hK39 => (wt (oA rfl (oL_ [(0, .agg (refsC y).toArray), (1, PQ n2 0), (2, PQ n10 0), (3, PQ n23 0), (4, NI 0)] ⟨T0, rfl, rfl, rfl, rfl, trivial⟩ fun ρ40 ⟨T0, T1, T2, T3, T4, _⟩ => (tN (hK39 _ _ (wpF_block (wpF_loop (fun (ρ : Slots) (wz : World) => ∃ i1 : Nat, ∃ vb1 : Value, ρ 0 = (.agg (refsC y).toArray : Value) ∧ ρ 1 = (PQ n2 0 : Value) ∧ ρ 2 = (PQ n10 0 : Value) ∧ ρ 3 = (PQ n23 0 : Value) ∧ ρ 4 = (NI i1 : Value) ∧ Ext w wz ∧ wz.heap[n2]? = some (.cells (refsC y).toArray 53 (0, 0)) ∧ wz.heap[n10]? = some (.cells (refsC ((⟨[], [], [], zid, []⟩, ⟨.slice none 0 0, .slice none 0 0, .slice none 0 0⟩) : RefsV)).toArray 49 (0, 0)) ∧ wz.heap[n23]? = some (.cells (refsC ((⟨(y.1.branches.take i1), [], (((⟨[], [], [], zid, []⟩, ⟨.slice none 0 0, .slice none 0 0, .slice none 0 0⟩) : RefsV)).1.head, (((⟨[], [], [], zid, []⟩, ⟨.slice none 0 0, .slice none 0 0, .slice none 0 0⟩) : RefsV)).1.at_, []⟩, ⟨vb1, (Value.slice none 0 0), (Value.slice none 0 0)⟩) : RefsV)).toArray 49 (0, 0)) ∧ OG w.heap.size 69 33 (nmdC) wz vb1 (y.1.branches.take i1) ∧ (i1 ≤ y.1.branches.length) ∧ (OB vb1 n2) ∧ (OB vb1 n10) ∧ (OB vb1 n23) ∧ True) (fun ρ _ => y.1.branches.length - (intOf (ρ 4)).toNat) ⟨0, (Value.slice none 0 0), T0, T1, T2, T3, T4, hE, hb8, hb20, hb36, OG.nil _ _ _ _ _, Nat.zero_le _, (fun h => by cases h), (fun h => by cases h), (fun h => by cases h), trivial⟩ ?_)))))))))))
 clear hA16
 clear hA29
 clear hb36
 clear hE hb8 hb20
 rintro ρ41 w42 ⟨i1, vb1, T0, T1, T2, T3, T4, hE, hb8, hb20, hm1, ho1, hi1, hap_vb1_n2, hap_vb1_n10, hap_vb1_n23, -⟩
 have q4 := T4
 have hl43 := (bl hb8)
 have hl44 := (bl hb20)
 have hl45 := (bl hm1)
 refine sk fun K46 hK46 => (sk fun K47 hK47 => (wt (oM rfl (oS rfl (Yk.fieldAt wr28_fo53_0 T1 (oS rfl (Yk.cell1 wr28_ty51 rfl (vr (PQ n2 0) rfl) (cellAt hb8 (show (refsC y)[0]? = some (y.2.branches : Value) from refs_g0 y)) (oS rfl (Yk.lenRG wr28_ty51 (RG.of (hmt.keep hE) (vr y.2.branches rfl)) (oS rfl (Yk.eqI (a := (i1 : Nat)) (b := ((y.1.branches).length : Nat)) T4 rfl (k_lss _ _ _ _) (oZ (tN (hK47 _ _ ?_))))))))))))))
 refine wpF_cond ((i1) < ((y.1.branches).length)) (vr (.bool (decide ((i1) < ((y.1.branches).length)))) rfl) (fun hc0 => ?_) (fun hc0 => ?_)
 ·have hlt1 : i1 < y.1.branches.length := hc0
  refine wpF_skip (tN (hK46 _ _ (sk fun K48 hK48 => (wpF_block ?_))))
  refine wpF_draw_cut 16 [Is (PQ n23 0), Is (vb1), Is (PQ n2 0), Is (y.2.branches), Is (NI i1), fun x w' => PR (nmdC ((y.1.branches).getD (i1) dNmd)) x w', PCell (St (((y.1.branches).getD (i1) dNmd).name)), Is (St (((y.1.branches).getD (i1) dNmd).name)), Is (PQ n2 0), Is (y.2.branches), Is (NI i1), fun x w' => PR (nmdC ((y.1.branches).getD (i1) dNmd)) x w', fun x w' => PR (Lib.byteCells ((y.1.branches).getD (i1) dNmd).id.1) x w', Is (AB (((y.1.branches).getD (i1) dNmd).id.1)), Is (.agg (nmdC (⟨(((y.1.branches).getD (i1) dNmd).name), ((y.1.branches).getD (i1) dNmd).id⟩ : Nmd)).toArray), fun x w' => RG 33 (nmdC) w' x ([(⟨(((y.1.branches).getD (i1) dNmd).name), ((y.1.branches).getD (i1) dNmd).id⟩ : Nmd)])] (by kernel_rfl) [13, 14, 15, 16, 17, 18, 19, 20, 21, 22, 23, 24, 25, 26, 27, 28, 29, 30] (by kernel_rfl) (by kernel_rfl) (by kernel_rfl) (by kernel_rfl) rfl rfl (si5 ⟨(fun _ _ _ h k => PR.keep h k), Stab.pcell _, (si4 ⟨(fun _ _ _ h k => PR.keep h k), (fun _ _ _ h k => PR.keep h k), (si2 ⟨(fun _ _ _ h k => RG.keep h k), trivial⟩)⟩)⟩) ?hs2005 ?hQ2005
  case hs2005 =>
   refine ⟨?_, ?_, ?_, ?_, ?_, ?_, ?_, ?_, ?_, ?_, ?_, ?_, ?_, ?_, ?_, ?_, ?_, ?_, ?_, trivial⟩
   ·refine stepFC (stepN rfl fun σ w1 hC h => ?_)
    have e3 := (eqo (h 3 (by decide))).trans T3
    exact Yk.fieldAt wr28_fo49_0 e3 ⟨Ext.refl _, rfl⟩
   ·refine stepFC (stepN rfl fun σ w1 hC h => ?_)
    have e13 := eqo (h 13 (by decide))
    exact Yk.cell1 wr28_ty46 rfl e13 (cellAt (eb hC hm1) (show (refsC ((⟨(y.1.branches.take i1), [], (((⟨[], [], [], zid, []⟩, ⟨.slice none 0 0, .slice none 0 0, .slice none 0 0⟩) : RefsV)).1.head, (((⟨[], [], [], zid, []⟩, ⟨.slice none 0 0, .slice none 0 0, .slice none 0 0⟩) : RefsV)).1.at_, []⟩, ⟨vb1, (Value.slice none 0 0), (Value.slice none 0 0)⟩) : RefsV))[0]? = some (vb1 : Value) from refs_g0 ((⟨(y.1.branches.take i1), [], (((⟨[], [], [], zid, []⟩, ⟨.slice none 0 0, .slice none 0 0, .slice none 0 0⟩) : RefsV)).1.head, (((⟨[], [], [], zid, []⟩, ⟨.slice none 0 0, .slice none 0 0, .slice none 0 0⟩) : RefsV)).1.at_, []⟩, ⟨vb1, (Value.slice none 0 0), (Value.slice none 0 0)⟩) : RefsV))) ⟨Ext.refl _, rfl⟩
   ·refine stepFC (stepN rfl fun σ w1 hC h => ?_)
    have e1 := (eqo (h 1 (by decide))).trans T1
    exact Yk.fieldAt wr28_fo53_0 e1 ⟨Ext.refl _, rfl⟩
   ·refine stepFC (stepN rfl fun σ w1 hC h => ?_)
    have e15 := eqo (h 15 (by decide))
    exact Yk.cell1 wr28_ty51 rfl e15 (cellAt (eb hC hb8) (show (refsC y)[0]? = some (y.2.branches : Value) from refs_g0 y)) ⟨Ext.refl _, rfl⟩
   ·refine stepFC (stepN rfl fun σ w1 hC h => ?_)
    have e4 := (eqo (h 4 (by decide))).trans T4
    exact Yk.move e4 ⟨Ext.refl _, rfl⟩
   ·refine stepFC (stepN rfl fun σ w1 hC h => ?_)
    have e16 := eqo (h 16 (by decide))
    have e17 := eqo (h 17 (by decide))
    exact Yk.atRG wr28_ty51 wr28_szg70 (by decide) dNmd (RG.of (hmt.keep (hE.trans hC)) e16) e17 (by omega) fun v h => ⟨Ext.refl _, h⟩
   ·refine stepFC (stepN rfl fun σ w1 hC h => ?_)
    have e18 : (fun x w' => PR (nmdC ((y.1.branches).getD (i1) dNmd)) x w') (σ 18) w1 := h 18 (by decide)
    exact Yk.fieldPR (n := 1) wr28_fo70_0 e18 fun v h => ⟨Ext.refl _, PR.pcell (by rw [nmd_f0] at h; exact h)⟩
   ·refine stepFC (stepN rfl fun σ w1 hC h => ?_)
    have e19 : (PCell (St (((y.1.branches).getD (i1) dNmd).name))) (σ 19) w1 := h 19 (by decide)
    exact Yk.loadC wr28_ty9 rfl e19 ⟨Ext.refl _, rfl⟩
   ·refine stepFC (stepN rfl fun σ w1 hC h => ?_)
    have e1 := (eqo (h 1 (by decide))).trans T1
    exact Yk.fieldAt wr28_fo53_0 e1 ⟨Ext.refl _, rfl⟩
   ·refine stepFC (stepN rfl fun σ w1 hC h => ?_)
    have e21 := eqo (h 21 (by decide))
    exact Yk.cell1 wr28_ty51 rfl e21 (cellAt (eb hC hb8) (show (refsC y)[0]? = some (y.2.branches : Value) from refs_g0 y)) ⟨Ext.refl _, rfl⟩
   ·refine stepFC (stepN rfl fun σ w1 hC h => ?_)
    have e4 := (eqo (h 4 (by decide))).trans T4
    exact Yk.move e4 ⟨Ext.refl _, rfl⟩
   ·refine stepFC (stepN rfl fun σ w1 hC h => ?_)
    have e22 := eqo (h 22 (by decide))
    have e23 := eqo (h 23 (by decide))
    exact Yk.atRG wr28_ty51 wr28_szg70 (by decide) dNmd (RG.of (hmt.keep (hE.trans hC)) e22) e23 (by omega) fun v h => ⟨Ext.refl _, h⟩
   ·refine stepFC (stepN rfl fun σ w1 hC h => ?_)
    have e24 : (fun x w' => PR (nmdC ((y.1.branches).getD (i1) dNmd)) x w') (σ 24) w1 := h 24 (by decide)
    exact Yk.fieldPR (n := 32) wr28_fo70_1 e24 fun v h => ⟨Ext.refl _, by rw [nmd_f1] at h; exact h⟩
   ·refine stepFC (stepN rfl fun σ w1 hC h => ?_)
    have e25 : (fun x w' => PR (Lib.byteCells ((y.1.branches).getD (i1) dNmd).id.1) x w') (σ 25) w1 := h 25 (by decide)
    exact Yk.loadPR e25 wr28_ty25 rfl (by rw [Lib.byteCells_length, ((y.1.branches).getD (i1) dNmd).id.2]; exact wr28_isz25) ⟨Ext.refl _, rfl⟩
   ·refine stepFC (stepN rfl fun σ w1 hC h => ?_)
    have e20 := eqo (h 20 (by decide))
    have e26 := eqo (h 26 (by decide))
    exact Yk.build2 e20 e26 (fun w => wr28_bs69_0_1 (((y.1.branches).getD (i1) dNmd).name) (((y.1.branches).getD (i1) dNmd).id) w) ⟨Ext.refl _, rfl⟩
   ·refine stepFC (stepN rfl fun σ w1 hC h => ?_)
    have e27 := eqo (h 27 (by decide))
    exact Yk.lit1G (a := (⟨(((y.1.branches).getD (i1) dNmd).name), ((y.1.branches).getD (i1) dNmd).id⟩ : Nmd)) (enc := nmdC) e27 (nmd_len _) wr28_lg46 fun v w2 h hx => ⟨hx, h⟩
   ·exact trivial
   ·exact trivial
   ·exact trivial
  intro ρ49 w50 hx51 he hf
  obtain ⟨-, k14, -, -, -, -, -, -, -, -, -, -, -, -, -, k28, -⟩ := hf
  obtain ⟨T0, T1, T2, T3, T4, -⟩ := he.hold [(0, _), (1, _), (2, _), (3, _), (4, _)] ⟨T0, T1, T2, T3, T4, trivial⟩ rfl
  clear he
  have hE := hE.trans hx51
  have hb8 := eb hx51 hb8
  have hb20 := eb hx51 hb20
  have hm1 := eb hx51 hm1
  have ho1 := ho1.keep hx51
  have T14 : ρ49 14 = vb1 := k14
  have k28 : (fun x w' => RG 33 (nmdC) w' x ([(⟨(((y.1.branches).getD (i1) dNmd).name), ((y.1.branches).getD (i1) dNmd).id⟩ : Nmd)])) (ρ49 28) w50 := k28
  obtain ⟨v52, T28⟩ : ∃ v, ρ49 28 = v := ⟨_, rfl⟩
  rw [T28] at k28
  have hk53 := k28; clear k28
  clear k14
  refine oS rfl (Yk.appendRG _ _ w.heap.size _ 48 wr28_ty46 wr28_ig69.choose_spec.1 wr28_ig69.choose_spec.2 wr28_ty46 (y.1.branches.take i1) ([(⟨(((y.1.branches).getD (i1) dNmd).name), ((y.1.branches).getD (i1) dNmd).id⟩ : Nmd)]) (OG.of ho1 T14) (RG.of hk53 T28) (fun _ _ => nmd_one) (by simp only [List.length_take, List.length_append, List.length_cons, List.length_nil]; omega) (by simp only [List.length_take, List.length_append, List.length_cons, List.length_nil]; omega) hE.size fun v54 w55 ho56 hg57 => ?_)
  have hg57 : Grew w50 w55 vb1 v54 := .eqv T14 hg57
  have hap58 : OB v54 n2 := apart_grew hg57 hap_vb1_n2 (bl hb8)
  have hap59 : OB v54 n10 := apart_grew hg57 hap_vb1_n10 (bl hb20)
  have hap60 : OB v54 n23 := apart_grew hg57 hap_vb1_n23 (bl hm1)
  have hE := ext_grew hE hg57 ho1.2 (Nat.le_refl _)
  have hb8 := blk_grew hb8 hg57 hap_vb1_n2
  have hb20 := blk_grew hb20 hg57 hap_vb1_n10
  have hm1 := blk_grew hm1 hg57 hap_vb1_n23
  clear hk53
  clear ho1
  refine oS rfl (Yk.fieldAt wr28_fo49_0 T3 (oS rfl (Yk.storeC (i := 0) (v := v54) (vr (PQ n23 0) rfl) (vr v54 rfl) hm1 (by rw [refs_len]; decide) wr28_isz46 (RG.one (RG.ofOwn ho56)).1 (RG.one (RG.ofOwn ho56)).2 fun w61 hb62 hg63 hs64 => ?_)))
  have hE := row_fresh hE hg63 (Nat.le_trans hz32 (by omega))
  have hb8 := kb hg63 hb8 (by omega)
  have hb20 := kb hg63 hb20 (by omega)
  have ho56 := OG.kept ho56 hg63 hap60
  clear hm1
  have hm1 : w61.heap[n23]? = some (.cells (refsC ((⟨(y.1.branches.take i1) ++ [(⟨(((y.1.branches).getD (i1) dNmd).name), ((y.1.branches).getD (i1) dNmd).id⟩ : Nmd)], [], (((⟨[], [], [], zid, []⟩, ⟨.slice none 0 0, .slice none 0 0, .slice none 0 0⟩) : RefsV)).1.head, (((⟨[], [], [], zid, []⟩, ⟨.slice none 0 0, .slice none 0 0, .slice none 0 0⟩) : RefsV)).1.at_, []⟩, ⟨v54, (Value.slice none 0 0), (Value.slice none 0 0)⟩) : RefsV)).toArray 49 (0, 0)) := blk_eq hb62 (refs_s0 ((⟨(y.1.branches.take i1), [], (((⟨[], [], [], zid, []⟩, ⟨.slice none 0 0, .slice none 0 0, .slice none 0 0⟩) : RefsV)).1.head, (((⟨[], [], [], zid, []⟩, ⟨.slice none 0 0, .slice none 0 0, .slice none 0 0⟩) : RefsV)).1.at_, []⟩, ⟨vb1, (Value.slice none 0 0), (Value.slice none 0 0)⟩) : RefsV) v54 ((y.1.branches.take i1) ++ [(⟨(((y.1.branches).getD (i1) dNmd).name), ((y.1.branches).getD (i1) dNmd).id⟩ : Nmd)])); clear hb62
  have hl65 := bl hm1
  refine oZ (bN (tN (hK48 _ _ (wt (oM rfl (oS rfl (Yk.bin (xv := NI i1) (yv := NI 1) T4 rfl rfl (i64_add _ _ _ (by omega)) (oA rfl (oL_ [(0, .agg (refsC y).toArray), (1, PQ n2 0), (2, PQ n10 0), (3, PQ n23 0), (4, NI ((i1) + (1)))] ⟨T0, T1, T2, T3, rfl, trivial⟩ fun ρ66 ⟨T0, T1, T2, T3, T4, _⟩ => (tN (And.intro ⟨i1 + 1, v54, T0, T1, T2, T3, T4, hE, hb8, hb20, hm1, og_eq ho56 (take_snoc hlt1), by omega, hap58, hap59, hap60, trivial⟩ ?_)))))))))))
  show y.1.branches.length - (intOf (ρ66 4)).toNat < y.1.branches.length - (intOf (ρ41 4)).toNat
  rw [T4, q4]
  simp only [intOf, Int.toNat_natCast]; omega
 refine wpF_exit (thenF_exit (thenF_exit (inBlockF_hit (tN (hK38 _ _ (sk fun K67 hK67 => (sk fun K68 hK68 => (wt (oA rfl (oL_ [(0, .agg (refsC y).toArray), (1, PQ n2 0), (2, PQ n10 0), (3, PQ n23 0), (4, NI i1), (5, NI 0)] ⟨T0, T1, T2, T3, T4, rfl, trivial⟩ fun ρ69 ⟨T0, T1, T2, T3, T4, T5, _⟩ => (tN (hK68 _ _ (wpF_block (wpF_loop (fun (ρ : Slots) (wz : World) => ∃ i2 : Nat, ∃ vb2 : Value, ρ 0 = (.agg (refsC y).toArray : Value) ∧ ρ 1 = (PQ n2 0 : Value) ∧ ρ 2 = (PQ n10 0 : Value) ∧ ρ 3 = (PQ n23 0 : Value) ∧ ρ 4 = (NI i1 : Value) ∧ ρ 5 = (NI i2 : Value) ∧ Ext w wz ∧ wz.heap[n2]? = some (.cells (refsC y).toArray 53 (0, 0)) ∧ wz.heap[n10]? = some (.cells (refsC ((⟨[], [], [], zid, []⟩, ⟨.slice none 0 0, .slice none 0 0, .slice none 0 0⟩) : RefsV)).toArray 49 (0, 0)) ∧ OG w.heap.size 69 33 (nmdC) wz vb1 (y.1.branches.take i1) ∧ wz.heap[n23]? = some (.cells (refsC ((⟨(y.1.branches.take i1), (y.1.tags.take i2), (((⟨[], [], [], zid, []⟩, ⟨.slice none 0 0, .slice none 0 0, .slice none 0 0⟩) : RefsV)).1.head, (((⟨[], [], [], zid, []⟩, ⟨.slice none 0 0, .slice none 0 0, .slice none 0 0⟩) : RefsV)).1.at_, []⟩, ⟨vb1, vb2, (Value.slice none 0 0)⟩) : RefsV)).toArray 49 (0, 0)) ∧ OG w.heap.size 69 33 (nmdC) wz vb2 (y.1.tags.take i2) ∧ (i2 ≤ y.1.tags.length) ∧ (OB vb2 n2) ∧ (OB vb2 n10) ∧ (OB vb2 n23) ∧ (ApartV vb2 vb1) ∧ True) (fun ρ _ => y.1.tags.length - (intOf (ρ 5)).toNat) ⟨0, (Value.slice none 0 0), T0, T1, T2, T3, T4, T5, hE, hb8, hb20, ho1, hm1, OG.nil _ _ _ _ _, Nat.zero_le _, (fun h => by cases h), (fun h => by cases h), (fun h => by cases h), (fun k h => by cases h), trivial⟩ ?_))))))))))))))
 clear hm1
 clear hE hb8 hb20 ho1
 rintro ρ70 w71 ⟨i2, vb2, T0, T1, T2, T3, T4, T5, hE, hb8, hb20, ho1, hm2, ho2, hi2, hap_vb2_n2, hap_vb2_n10, hap_vb2_n23, hap_vb2_vb1, -⟩
 have q5 := T5
 have hl72 := (bl hb8)
 have hl73 := (bl hb20)
 have hl74 := (bl hm2)
 refine sk fun K75 hK75 => (sk fun K76 hK76 => (wt (oM rfl (oS rfl (Yk.fieldAt wr28_fo53_1 T1 (oS rfl (Yk.cell1 wr28_ty51 rfl (vr (PQ n2 1) rfl) (cellAt hb8 (show (refsC y)[1]? = some (y.2.tags : Value) from refs_g1 y)) (oS rfl (Yk.lenRG wr28_ty51 (RG.of (hmg.keep hE) (vr y.2.tags rfl)) (oS rfl (Yk.eqI (a := (i2 : Nat)) (b := ((y.1.tags).length : Nat)) T5 rfl (k_lss _ _ _ _) (oZ (tN (hK76 _ _ ?_))))))))))))))
 refine wpF_cond ((i2) < ((y.1.tags).length)) (vr (.bool (decide ((i2) < ((y.1.tags).length)))) rfl) (fun hc1 => ?_) (fun hc1 => ?_)
 ·have hlt2 : i2 < y.1.tags.length := hc1
  refine wpF_skip (tN (hK75 _ _ (sk fun K77 hK77 => (wpF_block ?_))))
  refine wpF_draw_cut 16 [Is (PQ n23 1), Is (vb2), Is (PQ n2 1), Is (y.2.tags), Is (NI i2), fun x w' => PR (nmdC ((y.1.tags).getD (i2) dNmd)) x w', PCell (St (((y.1.tags).getD (i2) dNmd).name)), Is (St (((y.1.tags).getD (i2) dNmd).name)), Is (PQ n2 1), Is (y.2.tags), Is (NI i2), fun x w' => PR (nmdC ((y.1.tags).getD (i2) dNmd)) x w', fun x w' => PR (Lib.byteCells ((y.1.tags).getD (i2) dNmd).id.1) x w', Is (AB (((y.1.tags).getD (i2) dNmd).id.1)), Is (.agg (nmdC (⟨(((y.1.tags).getD (i2) dNmd).name), ((y.1.tags).getD (i2) dNmd).id⟩ : Nmd)).toArray), fun x w' => RG 33 (nmdC) w' x ([(⟨(((y.1.tags).getD (i2) dNmd).name), ((y.1.tags).getD (i2) dNmd).id⟩ : Nmd)])] (by kernel_rfl) [38, 39, 40, 41, 42, 43, 44, 45, 46, 47, 48, 49, 50, 51, 52, 53, 54, 55] (by kernel_rfl) (by kernel_rfl) (by kernel_rfl) (by kernel_rfl) rfl rfl (si5 ⟨(fun _ _ _ h k => PR.keep h k), Stab.pcell _, (si4 ⟨(fun _ _ _ h k => PR.keep h k), (fun _ _ _ h k => PR.keep h k), (si2 ⟨(fun _ _ _ h k => RG.keep h k), trivial⟩)⟩)⟩) ?hs3009 ?hQ3009
  case hs3009 =>
   refine ⟨?_, ?_, ?_, ?_, ?_, ?_, ?_, ?_, ?_, ?_, ?_, ?_, ?_, ?_, ?_, ?_, ?_, ?_, ?_, trivial⟩
   ·refine stepFC (stepN rfl fun σ w1 hC h => ?_)
    have e3 := (eqo (h 3 (by decide))).trans T3
    exact Yk.fieldAt wr28_fo49_1 e3 ⟨Ext.refl _, rfl⟩
   ·refine stepFC (stepN rfl fun σ w1 hC h => ?_)
    have e38 := eqo (h 38 (by decide))
    exact Yk.cell1 wr28_ty46 rfl e38 (cellAt (eb hC hm2) (show (refsC ((⟨(y.1.branches.take i1), (y.1.tags.take i2), (((⟨[], [], [], zid, []⟩, ⟨.slice none 0 0, .slice none 0 0, .slice none 0 0⟩) : RefsV)).1.head, (((⟨[], [], [], zid, []⟩, ⟨.slice none 0 0, .slice none 0 0, .slice none 0 0⟩) : RefsV)).1.at_, []⟩, ⟨vb1, vb2, (Value.slice none 0 0)⟩) : RefsV))[1]? = some (vb2 : Value) from refs_g1 ((⟨(y.1.branches.take i1), (y.1.tags.take i2), (((⟨[], [], [], zid, []⟩, ⟨.slice none 0 0, .slice none 0 0, .slice none 0 0⟩) : RefsV)).1.head, (((⟨[], [], [], zid, []⟩, ⟨.slice none 0 0, .slice none 0 0, .slice none 0 0⟩) : RefsV)).1.at_, []⟩, ⟨vb1, vb2, (Value.slice none 0 0)⟩) : RefsV))) ⟨Ext.refl _, rfl⟩
   ·refine stepFC (stepN rfl fun σ w1 hC h => ?_)
    have e1 := (eqo (h 1 (by decide))).trans T1
    exact Yk.fieldAt wr28_fo53_1 e1 ⟨Ext.refl _, rfl⟩
   ·refine stepFC (stepN rfl fun σ w1 hC h => ?_)
    have e40 := eqo (h 40 (by decide))
    exact Yk.cell1 wr28_ty51 rfl e40 (cellAt (eb hC hb8) (show (refsC y)[1]? = some (y.2.tags : Value) from refs_g1 y)) ⟨Ext.refl _, rfl⟩
   ·refine stepFC (stepN rfl fun σ w1 hC h => ?_)
    have e5 := (eqo (h 5 (by decide))).trans T5
    exact Yk.move e5 ⟨Ext.refl _, rfl⟩
   ·refine stepFC (stepN rfl fun σ w1 hC h => ?_)
    have e41 := eqo (h 41 (by decide))
    have e42 := eqo (h 42 (by decide))
    exact Yk.atRG wr28_ty51 wr28_szg70 (by decide) dNmd (RG.of (hmg.keep (hE.trans hC)) e41) e42 (by omega) fun v h => ⟨Ext.refl _, h⟩
   ·refine stepFC (stepN rfl fun σ w1 hC h => ?_)
    have e43 : (fun x w' => PR (nmdC ((y.1.tags).getD (i2) dNmd)) x w') (σ 43) w1 := h 43 (by decide)
    exact Yk.fieldPR (n := 1) wr28_fo70_0 e43 fun v h => ⟨Ext.refl _, PR.pcell (by rw [nmd_f0] at h; exact h)⟩
   ·refine stepFC (stepN rfl fun σ w1 hC h => ?_)
    have e44 : (PCell (St (((y.1.tags).getD (i2) dNmd).name))) (σ 44) w1 := h 44 (by decide)
    exact Yk.loadC wr28_ty9 rfl e44 ⟨Ext.refl _, rfl⟩
   ·refine stepFC (stepN rfl fun σ w1 hC h => ?_)
    have e1 := (eqo (h 1 (by decide))).trans T1
    exact Yk.fieldAt wr28_fo53_1 e1 ⟨Ext.refl _, rfl⟩
   ·refine stepFC (stepN rfl fun σ w1 hC h => ?_)
    have e46 := eqo (h 46 (by decide))
    exact Yk.cell1 wr28_ty51 rfl e46 (cellAt (eb hC hb8) (show (refsC y)[1]? = some (y.2.tags : Value) from refs_g1 y)) ⟨Ext.refl _, rfl⟩
   ·refine stepFC (stepN rfl fun σ w1 hC h => ?_)
    have e5 := (eqo (h 5 (by decide))).trans T5
    exact Yk.move e5 ⟨Ext.refl _, rfl⟩
   ·refine stepFC (stepN rfl fun σ w1 hC h => ?_)
    have e47 := eqo (h 47 (by decide))
    have e48 := eqo (h 48 (by decide))
    exact Yk.atRG wr28_ty51 wr28_szg70 (by decide) dNmd (RG.of (hmg.keep (hE.trans hC)) e47) e48 (by omega) fun v h => ⟨Ext.refl _, h⟩
   ·refine stepFC (stepN rfl fun σ w1 hC h => ?_)
    have e49 : (fun x w' => PR (nmdC ((y.1.tags).getD (i2) dNmd)) x w') (σ 49) w1 := h 49 (by decide)
    exact Yk.fieldPR (n := 32) wr28_fo70_1 e49 fun v h => ⟨Ext.refl _, by rw [nmd_f1] at h; exact h⟩
   ·refine stepFC (stepN rfl fun σ w1 hC h => ?_)
    have e50 : (fun x w' => PR (Lib.byteCells ((y.1.tags).getD (i2) dNmd).id.1) x w') (σ 50) w1 := h 50 (by decide)
    exact Yk.loadPR e50 wr28_ty25 rfl (by rw [Lib.byteCells_length, ((y.1.tags).getD (i2) dNmd).id.2]; exact wr28_isz25) ⟨Ext.refl _, rfl⟩
   ·refine stepFC (stepN rfl fun σ w1 hC h => ?_)
    have e45 := eqo (h 45 (by decide))
    have e51 := eqo (h 51 (by decide))
    exact Yk.build2 e45 e51 (fun w => wr28_bs69_0_1 (((y.1.tags).getD (i2) dNmd).name) (((y.1.tags).getD (i2) dNmd).id) w) ⟨Ext.refl _, rfl⟩
   ·refine stepFC (stepN rfl fun σ w1 hC h => ?_)
    have e52 := eqo (h 52 (by decide))
    exact Yk.lit1G (a := (⟨(((y.1.tags).getD (i2) dNmd).name), ((y.1.tags).getD (i2) dNmd).id⟩ : Nmd)) (enc := nmdC) e52 (nmd_len _) wr28_lg46 fun v w2 h hx => ⟨hx, h⟩
   ·exact trivial
   ·exact trivial
   ·exact trivial
  intro ρ78 w79 hx80 he hf
  obtain ⟨-, k39, -, -, -, -, -, -, -, -, -, -, -, -, -, k53, -⟩ := hf
  obtain ⟨T0, T1, T2, T3, T4, T5, -⟩ := he.hold [(0, _), (1, _), (2, _), (3, _), (4, _), (5, _)] ⟨T0, T1, T2, T3, T4, T5, trivial⟩ rfl
  clear he
  have hE := hE.trans hx80
  have hb8 := eb hx80 hb8
  have hb20 := eb hx80 hb20
  have ho1 := ho1.keep hx80
  have hm2 := eb hx80 hm2
  have ho2 := ho2.keep hx80
  have T39 : ρ78 39 = vb2 := k39
  have k53 : (fun x w' => RG 33 (nmdC) w' x ([(⟨(((y.1.tags).getD (i2) dNmd).name), ((y.1.tags).getD (i2) dNmd).id⟩ : Nmd)])) (ρ78 53) w79 := k53
  obtain ⟨v81, T53⟩ : ∃ v, ρ78 53 = v := ⟨_, rfl⟩
  rw [T53] at k53
  have hk82 := k53; clear k53
  clear k39
  refine oS rfl (Yk.appendRG _ _ w.heap.size _ 48 wr28_ty46 wr28_ig69.choose_spec.1 wr28_ig69.choose_spec.2 wr28_ty46 (y.1.tags.take i2) ([(⟨(((y.1.tags).getD (i2) dNmd).name), ((y.1.tags).getD (i2) dNmd).id⟩ : Nmd)]) (OG.of ho2 T39) (RG.of hk82 T53) (fun _ _ => nmd_one) (by simp only [List.length_take, List.length_append, List.length_cons, List.length_nil]; omega) (by simp only [List.length_take, List.length_append, List.length_cons, List.length_nil]; omega) hE.size fun v83 w84 ho85 hg86 => ?_)
  have hg86 : Grew w79 w84 vb2 v83 := .eqv T39 hg86
  have hap87 : OB v83 n2 := apart_grew hg86 hap_vb2_n2 (bl hb8)
  have hap88 : OB v83 n10 := apart_grew hg86 hap_vb2_n10 (bl hb20)
  have hap89 : OB v83 n23 := apart_grew hg86 hap_vb2_n23 (bl hm2)
  have hap90 : ApartV v83 vb1 := apartv_grew hg86 hap_vb2_vb1 ho1.2
  have hap91 : ApartV vb1 v83 := fun k h1 h2 => hap90 k h2 h1
  have hE := ext_grew hE hg86 ho2.2 (Nat.le_refl _)
  have hb8 := blk_grew hb8 hg86 hap_vb2_n2
  have hb20 := blk_grew hb20 hg86 hap_vb2_n10
  have ho1 := og_grew ho1 hg86 hap_vb2_vb1
  have hm2 := blk_grew hm2 hg86 hap_vb2_n23
  clear hk82
  clear ho2
  refine oS rfl (Yk.fieldAt wr28_fo49_1 T3 (oS rfl (Yk.storeC (i := 1) (v := v83) (vr (PQ n23 1) rfl) (vr v83 rfl) hm2 (by rw [refs_len]; decide) wr28_isz46 (RG.one (RG.ofOwn ho85)).1 (RG.one (RG.ofOwn ho85)).2 fun w92 hb93 hg94 hs95 => ?_)))
  have hE := row_fresh hE hg94 (Nat.le_trans hz32 (by omega))
  have hb8 := kb hg94 hb8 (by omega)
  have hb20 := kb hg94 hb20 (by omega)
  have ho1 := OG.kept ho1 hg94 hap_vb1_n23
  have ho85 := OG.kept ho85 hg94 hap89
  clear hm2
  have hm2 : w92.heap[n23]? = some (.cells (refsC ((⟨(y.1.branches.take i1), (y.1.tags.take i2) ++ [(⟨(((y.1.tags).getD (i2) dNmd).name), ((y.1.tags).getD (i2) dNmd).id⟩ : Nmd)], (((⟨[], [], [], zid, []⟩, ⟨.slice none 0 0, .slice none 0 0, .slice none 0 0⟩) : RefsV)).1.head, (((⟨[], [], [], zid, []⟩, ⟨.slice none 0 0, .slice none 0 0, .slice none 0 0⟩) : RefsV)).1.at_, []⟩, ⟨vb1, v83, (Value.slice none 0 0)⟩) : RefsV)).toArray 49 (0, 0)) := blk_eq hb93 (refs_s1 ((⟨(y.1.branches.take i1), (y.1.tags.take i2), (((⟨[], [], [], zid, []⟩, ⟨.slice none 0 0, .slice none 0 0, .slice none 0 0⟩) : RefsV)).1.head, (((⟨[], [], [], zid, []⟩, ⟨.slice none 0 0, .slice none 0 0, .slice none 0 0⟩) : RefsV)).1.at_, []⟩, ⟨vb1, vb2, (Value.slice none 0 0)⟩) : RefsV) v83 ((y.1.tags.take i2) ++ [(⟨(((y.1.tags).getD (i2) dNmd).name), ((y.1.tags).getD (i2) dNmd).id⟩ : Nmd)])); clear hb93
  have hl96 := bl hm2
  refine oZ (bN (tN (hK77 _ _ (wt (oM rfl (oS rfl (Yk.bin (xv := NI i2) (yv := NI 1) T5 rfl rfl (i64_add _ _ _ (by omega)) (oA rfl (oL_ [(0, .agg (refsC y).toArray), (1, PQ n2 0), (2, PQ n10 0), (3, PQ n23 0), (4, NI i1), (5, NI ((i2) + (1)))] ⟨T0, T1, T2, T3, T4, rfl, trivial⟩ fun ρ97 ⟨T0, T1, T2, T3, T4, T5, _⟩ => (tN (And.intro ⟨i2 + 1, v83, T0, T1, T2, T3, T4, T5, hE, hb8, hb20, ho1, hm2, og_eq ho85 (take_snoc hlt2), by omega, hap87, hap88, hap89, hap90, trivial⟩ ?_)))))))))))
  show y.1.tags.length - (intOf (ρ97 5)).toNat < y.1.tags.length - (intOf (ρ70 5)).toNat
  rw [T5, q5]
  simp only [intOf, Int.toNat_natCast]; omega
 refine wpF_exit (thenF_exit (thenF_exit (inBlockF_hit (tN (hK67 _ _ (sk fun K98 hK98 => ?_))))))
 have hx99 : Ext w71 (World.drew w71) := (Below.refl _ _).drew
 have hE := hE.trans hx99
 have hb8 := eb hx99 hb8
 have hb20 := eb hx99 hb20
 have ho1 := ho1.keep hx99
 have hm2 := eb hx99 hm2
 have ho2 := ho2.keep hx99
 refine wpF_float [(0, 56, PQ n2 2), (1, 57, St (y.1.head)), (2, 58, PQ n2 3), (3, 59, AB y.1.at_.1), (4, 60, PQ n23 2), (6, 61, PQ n23 3)] [5, 7] (fun wz => Ext w wz ∧ wz.heap[n2]? = some (.cells (refsC y).toArray 53 (0, 0)) ∧ wz.heap[n10]? = some (.cells (refsC ((⟨[], [], [], zid, []⟩, ⟨.slice none 0 0, .slice none 0 0, .slice none 0 0⟩) : RefsV)).toArray 49 (0, 0)) ∧ True) (by kernel_rfl) (by kernel_rfl) (by kernel_rfl) ⟨hE, hb8, hb20, trivial⟩ ⟨fun w100 ⟨hE, hb8, hb20, _⟩ => Yk.fieldAt wr28_fo53_2 T1 ⟨rfl, rfl⟩, fun w100 ⟨hE, hb8, hb20, _⟩ => Yk.cell1 wr28_ty9 rfl (vr (PQ n2 2) rfl) (cellAt hb8 (show (refsC y)[2]? = some (St (y.1.head) : Value) from refs_g2 y)) ⟨rfl, rfl⟩, fun w100 ⟨hE, hb8, hb20, _⟩ => Yk.fieldAt wr28_fo53_3 T1 ⟨rfl, rfl⟩, fun w100 ⟨hE, hb8, hb20, _⟩ => Yk.loadPR (PR.blk hb8 (refs_m3 y) (refs_n3 y) (vr (PQ n2 3) rfl)) wr28_ty25 rfl (sizeId_of y.1.at_.2) ⟨rfl, rfl⟩, fun w100 ⟨hE, hb8, hb20, _⟩ => Yk.fieldAt wr28_fo49_2 T3 ⟨rfl, rfl⟩, fun w100 ⟨hE, hb8, hb20, _⟩ => Yk.fieldAt wr28_fo49_3 T3 ⟨rfl, rfl⟩, trivial⟩ (chF_step rfl (Yk.storeC (i := 2) (v := St (y.1.head)) (vr (PQ n23 2) rfl) (vr (St (y.1.head)) rfl) hm2 (by rw [refs_len]; decide) wr28_isz9 rfl rfl fun w101 hb102 hg103 hs104 => ?_))
 have hE := row_fresh hE hg103 (Nat.le_trans hz32 (by omega))
 have hb8 := kb hg103 hb8 (by omega)
 have hb20 := kb hg103 hb20 (by omega)
 have ho1 := OG.kept ho1 hg103 hap_vb1_n23
 have ho2 := OG.kept ho2 hg103 hap_vb2_n23
 clear hm2
 have hm2 : w101.heap[n23]? = some (.cells (refsC ((⟨(y.1.branches.take i1), (y.1.tags.take i2), y.1.head, (((⟨[], [], [], zid, []⟩, ⟨.slice none 0 0, .slice none 0 0, .slice none 0 0⟩) : RefsV)).1.at_, []⟩, ⟨vb1, vb2, (Value.slice none 0 0)⟩) : RefsV)).toArray 49 (0, 0)) := blk_eq hb102 (refs_s2 ((⟨(y.1.branches.take i1), (y.1.tags.take i2), (((⟨[], [], [], zid, []⟩, ⟨.slice none 0 0, .slice none 0 0, .slice none 0 0⟩) : RefsV)).1.head, (((⟨[], [], [], zid, []⟩, ⟨.slice none 0 0, .slice none 0 0, .slice none 0 0⟩) : RefsV)).1.at_, []⟩, ⟨vb1, vb2, (Value.slice none 0 0)⟩) : RefsV) y.1.head); clear hb102
 have hl105 := bl hm2
 refine ⟨.inr ⟨hE, hb8, hb20, trivial⟩, ?_⟩
 refine chF_step rfl (Yk.storeMid (a := refs_a3 ((⟨(y.1.branches.take i1), (y.1.tags.take i2), y.1.head, (((⟨[], [], [], zid, []⟩, ⟨.slice none 0 0, .slice none 0 0, .slice none 0 0⟩) : RefsV)).1.at_, []⟩, ⟨vb1, vb2, (Value.slice none 0 0)⟩) : RefsV)) (m := Lib.byteCells ((((⟨[], [], [], zid, []⟩, ⟨.slice none 0 0, .slice none 0 0, .slice none 0 0⟩) : RefsV)).1.at_).1) (z := refs_z3 ((⟨(y.1.branches.take i1), (y.1.tags.take i2), y.1.head, (((⟨[], [], [], zid, []⟩, ⟨.slice none 0 0, .slice none 0 0, .slice none 0 0⟩) : RefsV)).1.at_, []⟩, ⟨vb1, vb2, (Value.slice none 0 0)⟩) : RefsV)) (cells := Lib.byteCells y.1.at_.1) (vr (PQ n23 3) rfl) (vr (AB y.1.at_.1) rfl) (refs_m3 ((⟨(y.1.branches.take i1), (y.1.tags.take i2), y.1.head, (((⟨[], [], [], zid, []⟩, ⟨.slice none 0 0, .slice none 0 0, .slice none 0 0⟩) : RefsV)).1.at_, []⟩, ⟨vb1, vb2, (Value.slice none 0 0)⟩) : RefsV) ▸ hm2) (refs_n3 ((⟨(y.1.branches.take i1), (y.1.tags.take i2), y.1.head, (((⟨[], [], [], zid, []⟩, ⟨.slice none 0 0, .slice none 0 0, .slice none 0 0⟩) : RefsV)).1.at_, []⟩, ⟨vb1, vb2, (Value.slice none 0 0)⟩) : RefsV)) (by rw [Lib.byteCells_length, Lib.byteCells_length, ((((⟨[], [], [], zid, []⟩, ⟨.slice none 0 0, .slice none 0 0, .slice none 0 0⟩) : RefsV)).1.at_).2, y.1.at_.2]) (by rw [Lib.byteCells_length, y.1.at_.2]; exact wr28_isz25) (byteCells_one _) fun w106 hb107 hg108 hs109 => ?_)
 have hE := row_fresh hE hg108 (Nat.le_trans hz32 (by omega))
 have hb8 := kb hg108 hb8 (by omega)
 have hb20 := kb hg108 hb20 (by omega)
 have ho1 := OG.kept ho1 hg108 hap_vb1_n23
 have ho2 := OG.kept ho2 hg108 hap_vb2_n23
 clear hm2
 have hm2 : w106.heap[n23]? = some (.cells (refsC ((⟨(y.1.branches.take i1), (y.1.tags.take i2), y.1.head, y.1.at_, []⟩, ⟨vb1, vb2, (Value.slice none 0 0)⟩) : RefsV)).toArray 49 (0, 0)) := blk_eq hb107 (refs_s3 ((⟨(y.1.branches.take i1), (y.1.tags.take i2), y.1.head, (((⟨[], [], [], zid, []⟩, ⟨.slice none 0 0, .slice none 0 0, .slice none 0 0⟩) : RefsV)).1.at_, []⟩, ⟨vb1, vb2, (Value.slice none 0 0)⟩) : RefsV) y.1.at_); clear hb107
 have hl110 := bl hm2
 refine ⟨.inl rfl, ?_⟩
 refine chF_nil (tN (hK98 _ _ (sk fun K111 hK111 => (wt (oS rfl (Yk.fieldAt wr28_fo49_4 T3 (oS rfl (Yk.cell1 wr28_ty47 rfl (vr (PQ n23 35) rfl) (cellAt hm2 (show (refsC ((⟨(y.1.branches.take i1), (y.1.tags.take i2), y.1.head, y.1.at_, []⟩, ⟨vb1, vb2, (Value.slice none 0 0)⟩) : RefsV))[35]? = some ((Value.slice none 0 0) : Value) from refs_g4 ((⟨(y.1.branches.take i1), (y.1.tags.take i2), y.1.head, y.1.at_, []⟩, ⟨vb1, vb2, (Value.slice none 0 0)⟩) : RefsV))) (oS rfl (Yk.fieldAt wr28_fo53_4 T1 (oS rfl (Yk.cell1 wr28_ty47 rfl (vr (PQ n2 35) rfl) (cellAt hb8 (show (refsC y)[35]? = some (y.2.log : Value) from refs_g4 y)) ?_))))))))))))
 have hA112 := Ext.refl w106
 have hea113 := hE
 have hz114 := hE.size
 refine oS rfl (Yk.appendRG _ _ w106.heap.size _ 104 wr28_ty47 wr28_ig122.choose_spec.1 wr28_ig122.choose_spec.2 wr28_ty47 ([]) (y.1.log) (OG.of (OG.nil _ _ _ _ _) (vr (Value.slice none 0 0) rfl)) (RG.of (hml.keep hE) (vr y.2.log rfl)) (fun _ _ => ent_one) (by simp only [List.length_nil]; omega) (by simp only [List.length_nil]; omega) hA112.size fun v115 w116 ho117 hg118 => ?_)
 have hg118 : Grew w106 w116 (.slice none 0 0) v115 := hg118
 have hlt119 := (bl hb8)
 have hlt120 := (bl hb20)
 have hlt121 := (bl hm2)
 have hx_ : Ext w106 w116 := Ext.of (by have := hg118.by_; exact this)
 have hE := hE.trans hx_
 have hb8 := eb hx_ hb8
 have hb20 := eb hx_ hb20
 have ho1 := ho1.keep hx_
 have ho2 := ho2.keep hx_
 have hm2 := eb hx_ hm2
 have hA112 := hA112.trans hx_
 have hap122 : OB v115 n2 := own_older ho117.2 hlt119
 have hap123 : OB v115 n10 := own_older ho117.2 hlt120
 have hap124 : OB v115 n23 := own_older ho117.2 hlt121
 refine oS rfl (Yk.fieldAt wr28_fo49_4 T3 (oS rfl (Yk.storeC (i := 35) (v := v115) (vr (PQ n23 35) rfl) (vr v115 rfl) hm2 (by rw [refs_len]; decide) wr28_isz47 (RG.one (RG.ofOwn ho117)).1 (RG.one (RG.ofOwn ho117)).2 fun w125 hb126 hg127 hs128 => ?_)))
 have hE := row_fresh hE hg127 (Nat.le_trans hz32 (by omega))
 have hb8 := kb hg127 hb8 (by omega)
 have hb20 := kb hg127 hb20 (by omega)
 have ho1 := OG.kept ho1 hg127 hap_vb1_n23
 have ho2 := OG.kept ho2 hg127 hap_vb2_n23
 clear hA112
 have ho117 := OG.kept ho117 hg127 hap124
 clear hm2
 have hm2 : w125.heap[n23]? = some (.cells (refsC ((⟨(y.1.branches.take i1), (y.1.tags.take i2), y.1.head, y.1.at_, ([]) ++ y.1.log⟩, ⟨vb1, vb2, v115⟩) : RefsV)).toArray 49 (0, 0)) := blk_eq hb126 (refs_s4 ((⟨(y.1.branches.take i1), (y.1.tags.take i2), y.1.head, y.1.at_, []⟩, ⟨vb1, vb2, (Value.slice none 0 0)⟩) : RefsV) v115 (([]) ++ y.1.log)); clear hb126
 have hl129 := bl hm2
 refine oZ (tN (hK111 _ _ (sk fun K130 hK130 => (wt (oS rfl (Yk.loadAll T3 hm2 (wr28_ty49).choose_spec rfl (st_isz (refs_len ((⟨(y.1.branches.take i1), (y.1.tags.take i2), y.1.head, y.1.at_, ([]) ++ y.1.log⟩, ⟨vb1, vb2, v115⟩) : RefsV)) wr28_isz49) (oS rfl (Yk.storeAll T2 (vr (.agg (refsC ((⟨(y.1.branches.take i1), (y.1.tags.take i2), y.1.head, y.1.at_, ([]) ++ y.1.log⟩, ⟨vb1, vb2, v115⟩) : RefsV)).toArray) rfl) hb20 (by simp only [List.size_toArray, refs_len]) (st_isz (refs_len _) wr28_isz49) (refs_one (x := ((⟨(y.1.branches.take i1), (y.1.tags.take i2), y.1.head, y.1.at_, ([]) ++ y.1.log⟩, ⟨vb1, vb2, v115⟩) : RefsV)) (RG.one (RG.ofOwn ho1)).2 (RG.one (RG.ofOwn ho2)).2 (RG.one (RG.ofOwn ho117)).2) fun w131 hb132 hg133 hs134 => ?_))))))))
 have hE := row_fresh hE hg133 (Nat.le_trans hz18 (by omega))
 have hb8 := kb hg133 hb8 (by omega)
 have ho1 := OG.kept ho1 hg133 hap_vb1_n10
 have ho2 := OG.kept ho2 hg133 hap_vb2_n10
 have ho117 := OG.kept ho117 hg133 hap123
 have hm2 := kb hg133 hm2 (by omega)
 clear hb20
 have hb20 : w131.heap[n10]? = some (.cells (refsC ((⟨(y.1.branches.take i1), (y.1.tags.take i2), y.1.head, y.1.at_, ([]) ++ y.1.log⟩, ⟨vb1, vb2, v115⟩) : RefsV)).toArray 49 (0, 0)) := hb132; clear hb132
 have hl135 := bl hb20
 refine oZ (tN (hK130 _ _ (wpF_ret (postF_ret (fn := Tryd.f30) _ rfl [.agg (refsC ((⟨(y.1.branches.take i1), (y.1.tags.take i2), y.1.head, y.1.at_, ([]) ++ y.1.log⟩, ⟨vb1, vb2, v115⟩) : RefsV)).toArray] (.agg (refsC ((⟨(y.1.branches.take i1), (y.1.tags.take i2), y.1.head, y.1.at_, ([]) ++ y.1.log⟩, ⟨vb1, vb2, v115⟩) : RefsV)).toArray) rfl ⟨ResF.row T2 hb20 (wr28_ty49).choose_spec rfl (st_isz (refs_len _) wr28_isz49), trivial⟩ ?_))))
 have e1 : y.1.branches.take i1 = y.1.branches := List.take_of_length_le (by omega)
 have e2 : y.1.tags.take i2 = y.1.tags := List.take_of_length_le (by omega)
 refine ⟨⟨_, _, _⟩, ?_, ⟨RG.ofOwn (og_eq ho1 e1), RG.ofOwn (og_eq ho2 e2), RG.ofOwn (og_eq ho117 (by simp))⟩, hE⟩
 rw [e1, e2]; rfl
open Go.RowKit
set_option maxRecDepth 100000
theorem lightR_few {r : Refs} (h : lightR r = true) : r.branches.length ≤ 80 ∧ r.tags.length ≤ 80 ∧ r.log.length ≤ 80 := by
 unfold lightR at h
 simp only [Bool.and_eq_true] at h
 have h1 := h.1
 exact few_of (by simpa using h1)
set_option maxHeartbeats 1600000
open Go.RowKit
theorem opsF_offU {P : Program} {n : Nat} {Q : PostF} {ρ : Slots} {w : World} {ops : Array Oper} {rest : List Oper} {o : Oper} {g : Nat} {want : Bool} {d : Tmp} (hgd : o.guard = some (g, want)) (hd : (match o.dst with | some d => Nat.blt d n | none => true) = true) (hg : (ops[g]?).bind (·.dst) = some d) (hv : ρ d = undef)
    (h : opsF P ops n Q rest (updO ρ o.dst undef) w) : opsF P ops n Q (o :: rest) ρ w := by
  intro a ha
  have hdn : ∀ t, o.dst = some t → t < n := fun t ht => by rw [ht] at hd; exact Nat.le_of_ble_eq_true hd
  have hw : Region.wanted o (yielded ops a.tmps) = false := by
    have h1 := (ha.get d).trans hv
    rw [Array.getD_eq_getD_getElem?] at h1
    simp only [Region.wanted, hgd, yielded, hg, Option.bind_some]
    cases hx : a.tmps[d]? with
    | none => simp
    | some x =>
      rw [hx] at h1
      obtain rfl : x = undef := by simpa using h1
      simp [undef]
  refine wpList_step fun K hK => ?_
  rw [if_neg (by rw [hw]; simp)]
  exact hK _ _ (h _ (ha.put o.dst hdn undef))
def fldB (f : Field) (x : Nat × Nat) : Bool := f.name != "_" && (f.type == x.1 && f.offset == x.2)
def fldsB : List Field → List (Nat × Nat) → Bool
  | [], [] => true
  | f :: fs, x :: r => fldB f x && fldsB fs r
  | _, _ => false
section
variable {P : Program} {w : World} {d : Nat} {xs ys : Array Value}
theorem eqS_nil {fs : List Field} (h : fldsB fs [] = true) : (Op.eqFields d xs ys fs).run P w = .ok true w := by
  cases fs with
  | nil => simp [Op.eqFields, Sem.run_pure]
  | cons f fs => cases h
theorem eqS_step {fs : List Field} {t o : Nat} {r : List (Nat × Nat)} {a b : Value} {q q2 : Bool} (h : fldsB fs ((t, o) :: r) = true) (ha : (part t xs o).run P w = .ok a w) (hb : (part t ys o).run P w = .ok b w) (he : (Op.equalIn d t a b).run P w = .ok q w)
    (hr : ∀ fs', fldsB fs' r = true → (Op.eqFields d xs ys fs').run P w = .ok q2 w) : (Op.eqFields d xs ys fs).run P w = .ok (q && q2) w := by
  cases fs with
  | nil => cases h
  | cons f fs =>
    simp only [fldsB, fldB, Bool.and_eq_true, bne_iff_ne, beq_iff_eq] at h
    obtain ⟨⟨hn, ht, ho⟩, h2⟩ := h
    have hr := hr fs h2
    simp only [Op.eqFields, if_pos hn, Sem.run_bind, ht, ho, ha, hb, he, Result.andThen_ok]
    cases q
    · simp [Sem.run_pure]
    · simpa using hr
theorem part_one {t o : Nat} {cs : List Value} {v : Value} (h : (isAgg t).run P w = .ok false w) (hv : cs[o]? = some v) : (part t cs.toArray o).run P w = .ok v w := by
  unfold part
  rw [Sem.run_bind, h]
  simp [hv, Sem.run_pure]
theorem part_id {t o : Nat} {cs a z : List Value} {l : List UInt8} (h : (isAgg t).run P w = .ok true w) (hs : (sizeOf t).run P w = .ok 32 w) (hc : cs = a ++ Lib.byteCells l ++ z) (ha : a.length = o) (hl : l.length = 32) : (part t cs.toArray o).run P w = .ok (.agg (Lib.byteCells l).toArray) w := by
  unfold part
  have e : (cs.drop o).take 32 = Lib.byteCells l := by
    rw [hc, List.append_assoc, ← ha, List.drop_left, List.take_left' (by rw [Lib.byteCells_length, hl])]
  rw [Sem.run_bind, h]
  simp [hs, e]
theorem eqF_u8 {t : Nat} {a b : UInt8} (h : P.underlying t = some (.int .u8)) : (Op.equalIn (d + 1) t (B8 a) (B8 b)).run P w = .ok (decide (a = b)) w := by
  rw [run_equalIn_int w d t .u8 .u8 _ _ h, byte_eq]
theorem eqF_str {t : Nat} {a b : Bs} (h : P.underlying t = some .string) : (Op.equalIn (d + 1) t (St a) (St b)).run P w = .ok (decide (a = b)) w := by
  have e := run_equalIn_string (P := P) w d t ⟨a.toArray⟩ ⟨b.toArray⟩ h
  rw [ba_list, ba_list] at e
  refine e.trans ?_
  congr 1
  rw [Bool.eq_iff_iff]
  simp
theorem eqF_id {t e : Nat} {a b : Id32} (ht : P.underlying t = some (.array 32 e)) (he : P.underlying e = some (.int .u8)) (hs : (sizeOf e).run P w = .ok 1 w) : (Op.equalIn (d + 1 + 1) t (.agg (Lib.byteCells a.1).toArray) (.agg (Lib.byteCells b.1).toArray)).run P w = .ok (decide (a = b)) w := by
  rw [run_eqArray w ht he hs a.1 b.1 a.2 b.2]
  congr 1
  exact decide_eq_decide.2 ⟨fun h => Subtype.ext h, fun h => by rw [h]⟩
end
section
variable {P : Program} {K : Value → World → Prop} {ρ : Slots} {w : World} {d : Option Tmp} {ty : TypeId} {pos : String} {af : Array Edge} {gd : Option (Nat × Bool)}
theorem Yk.neStr {t ty2 : TypeId} {x y : Operand} {cx cy : Array Value} {b : Bool} (hg : P.eqGuardType P.depth t = false) (hx : evalR ρ x = .agg cx) (hy : evalR ρ y = .agg cy) (h : (Op.equalIn 10000 t (.agg cx) (.agg cy)).run P w = .ok b w) (hk : K (.bool (!b)) w) : Yk P K ((execOp (evalR ρ) ⟨d, .binOp .neq t x y ty2, ty, pos, af, gd⟩).run P w) := by
  refine Yk.value (v := .bool (!b)) (w' := w) ?_ hk
  unfold execOp
  simp only [hx, hy, Sem.run_bind, run_eqGuard_agg w .neq t x y cx cy hg, Result.andThen_ok, run_neq_struct, h]
  rfl
end
open Go.RowKit
theorem part_agg {P : Program} {w : World} {t o n : Nat} {cs a m z : List Value} (h : (isAgg t).run P w = .ok true w) (hs : (sizeOf t).run P w = .ok n w) (hc : cs = a ++ m ++ z) (ha : a.length = o) (hl : m.length = n) : (part t cs.toArray o).run P w = .ok (.agg m.toArray) w := by
  unfold part
  have e : (cs.drop o).take n = m := by rw [hc, List.append_assoc, ← ha, List.drop_left, List.take_left' hl]
  rw [Sem.run_bind, h]
  simp [hs, e]
theorem eqUpdR (w : World) (d : Nat) (x : Upd) : (Op.equalIn (d + 3) 67 (.agg (updC x).toArray) (.agg (updC x).toArray)).run Tryd.prog w = .ok true w := by
  refine (run_equalIn_struct w (d + 2) _ _ _ (by kernel_rfl) (by kernel_rfl)).trans ?_
  rw [show true = (decide (x.kind = x.kind) && (decide (x.name = x.name) && (decide (x.old = x.old) && (decide (x.new = x.new) && true)))) by simp]
  exact eqS_step (t := 5) (o := 0) (r := [(9, 1), (25, 2), (25, 34)]) (by kernel_rfl) (part_one (by kernel_rfl) (upd_g0 x)) (part_one (by kernel_rfl) (upd_g0 x)) (eqF_u8 (d := d + 1) (by kernel_rfl)) fun _ h =>
    eqS_step h (part_one (by kernel_rfl) (upd_g1 x)) (part_one (by kernel_rfl) (upd_g1 x)) (eqF_str (d := d + 1) (by kernel_rfl)) fun _ h =>
    eqS_step h (part_id (by kernel_rfl) (by kernel_rfl) (upd_m2 x) (upd_n2 x) x.old.2) (part_id (by kernel_rfl) (by kernel_rfl) (upd_m2 x) (upd_n2 x) x.old.2) (eqF_id (d := d) (e := 5) (by kernel_rfl) (by kernel_rfl) (by kernel_rfl)) fun _ h =>
    eqS_step h (part_id (by kernel_rfl) (by kernel_rfl) (upd_m3 x) (upd_n3 x) x.new.2) (part_id (by kernel_rfl) (by kernel_rfl) (upd_m3 x) (upd_n3 x) x.new.2) (eqF_id (d := d) (e := 5) (by kernel_rfl) (by kernel_rfl) (by kernel_rfl)) fun _ h => eqS_nil h
theorem eqRnmd (w : World) (x : Nmd) : (Op.equalIn 10000 69 (.agg (nmdC x).toArray) (.agg (nmdC x).toArray)).run Tryd.prog w = .ok true w := by
  refine (run_equalIn_struct w 9999 _ _ _ (by kernel_rfl) (by kernel_rfl)).trans ?_
  rw [show true = (decide (x.name = x.name) && (decide (x.id = x.id) && true)) by simp]
  exact eqS_step (t := 9) (o := 0) (r := [(25, 1)]) (by kernel_rfl) (part_one (by kernel_rfl) (nmd_g0 x)) (part_one (by kernel_rfl) (nmd_g0 x)) (eqF_str (d := 9998) (by kernel_rfl)) fun _ h =>
    eqS_step h (part_id (by kernel_rfl) (by kernel_rfl) (nmd_m1 x) (nmd_n1 x) x.id.2) (part_id (by kernel_rfl) (by kernel_rfl) (nmd_m1 x) (nmd_n1 x) x.id.2) (eqF_id (d := 9997) (e := 5) (by kernel_rfl) (by kernel_rfl) (by kernel_rfl)) fun _ h => eqS_nil h
theorem ent_split (x : Ent) : entC x = [] ++ updC ⟨x.kind, x.name, x.old, x.new⟩ ++ [St x.note] := by simp [entC, updC]
theorem eqEnt (w : World) (x : Ent) : (Op.equalIn 10000 122 (.agg (entC x).toArray) (.agg (entC x).toArray)).run Tryd.prog w = .ok true w := by
  refine (run_equalIn_struct w 9999 _ _ _ (by kernel_rfl) (by kernel_rfl)).trans ?_
  rw [show true = (true && (decide (x.note = x.note) && true)) by simp]
  exact eqS_step (t := 67) (o := 0) (r := [(9, 66)]) (by kernel_rfl) (part_agg (by kernel_rfl) (by kernel_rfl) (ent_split x) rfl (upd_len _)) (part_agg (by kernel_rfl) (by kernel_rfl) (ent_split x) rfl (upd_len _)) (eqUpdR w 9996 _) fun _ h =>
    eqS_step h (part_one (by kernel_rfl) (ent_g4 x)) (part_one (by kernel_rfl) (ent_g4 x)) (eqF_str (d := 9998) (by kernel_rfl)) fun _ h => eqS_nil h
open Go.RowKit
set_option maxRecDepth 100000
theorem wr40_ty46 : Tryd.prog.underlying 46 = some (.slice 69) := by kernel_rfl
theorem wr40_szg69 : ∀ w' : World, (sizeOf 69).run Tryd.prog w' = .ok 33 w' := fun _ => by kernel_rfl
theorem wr40_ty69 : ∃ fs, Tryd.prog.underlying 69 = some (.struct fs) := struct_of (by kernel_rfl)
theorem wr40_isz69 : (Tryd.prog.info? 69).map (·.size) = some 33 := by kernel_rfl
theorem wr40_eg69 : Tryd.prog.eqGuardType Tryd.prog.depth 69 = false := by kernel_rfl
theorem wr40_fo49_0 : FieldOff Tryd.prog 49 0 0 := fun b o w => by simp [go_sem]
theorem wr40_pl81 : Plain Tryd.prog 81 := fun _ _ => by kernel_rfl
theorem wr40_fo49_1 : FieldOff Tryd.prog 49 1 1 := fun b o w => by simp [go_sem]
theorem wr40_fo49_2 : FieldOff Tryd.prog 49 2 2 := fun b o w => by simp [go_sem]
theorem wr40_ty9 : Tryd.prog.underlying 9 = some (.string) := by kernel_rfl
theorem wr40_fo49_3 : FieldOff Tryd.prog 49 3 3 := fun b o w => by simp [go_sem]
theorem wr40_ty25 : Tryd.prog.underlying 25 = some (.array 32 5) := by kernel_rfl
theorem wr40_eg25 : Tryd.prog.eqGuardType Tryd.prog.depth 25 = false := by kernel_rfl
theorem wr40_ty5 : Tryd.prog.underlying 5 = some (.int .u8) := by kernel_rfl
theorem wr40_sz5 : ∀ w' : World, (sizeOf 5).run Tryd.prog w' = .ok 1 w' := fun _ => by kernel_rfl
theorem wr40_fo49_4 : FieldOff Tryd.prog 49 4 35 := fun b o w => by simp [go_sem]
theorem wr40_ty47 : Tryd.prog.underlying 47 = some (.slice 122) := by kernel_rfl
theorem wr40_szg122 : ∀ w' : World, (sizeOf 122).run Tryd.prog w' = .ok 67 w' := fun _ => by kernel_rfl
theorem wr40_ty122 : ∃ fs, Tryd.prog.underlying 122 = some (.struct fs) := struct_of (by kernel_rfl)
theorem wr40_isz122 : (Tryd.prog.info? 122).map (·.size) = some 67 := by kernel_rfl
theorem wr40_eg122 : Tryd.prog.eqGuardType Tryd.prog.depth 122 = false := by kernel_rfl
set_option maxHeartbeats 1600000
theorem lists_true (w : World) (v v2 : Value) (l : List Nmd) (hr : RG 33 nmdC w v l) (hr2 : RG 33 nmdC w v2 l) (hl : l.length < 9223372036854775807) :
  Calls Tryd.prog 81 #[v, v2] w fun e w' => e = .returned (.bool true) ∧ Ext w w' := by
 refine calls_of_wpF (args := [v, v2]) Tryd.func81 rfl 26 rfl (Nat.le_of_ble_eq_true rfl) ?_
 intro ρ0 hb
 have T0 : ρ0 0 = (v : Value) := hb.get 0
 have T1 : ρ0 1 = (v2 : Value) := hb.get 1
 clear hb
 have hE := Ext.refl w
 refine sk fun K1 hK1 => (wt (oA rfl (oZ (tN (hK1 _ _ (sk fun K2 hK2 => (sk fun K3 hK3 => (wt (oM rfl (oS rfl (Yk.lenRG wr40_ty46 (RG.of hr T0) (oM rfl (oS rfl (Yk.lenRG wr40_ty46 (RG.of hr2 T1) (oS rfl (Yk.eqI (a := (l.length : Nat)) (b := (l.length : Nat)) rfl rfl (k_neq _ _ _ _) (oZ (tN (hK3 _ _ (wpF_false (vr (.bool (false)) (congrArg Value.bool (decide_eq_false (fun h => h rfl)))) ?_))))))))))))))))))))
 refine wpF_skip (tN (hK2 _ _ (sk fun K4 hK4 => (sk fun K5 hK5 => (wt (oA rfl (oL_ [(0, v), (1, v2), (4, .bool (false)), (5, NI 0), (10, .bool (false))] ⟨T0, T1, rfl, rfl, (congrArg Value.bool (decide_eq_false (fun h => h rfl))), trivial⟩ fun ρ6 ⟨T0, T1, T4, T5, T10, _⟩ => (tN (hK5 _ _ (wpF_block (wpF_loop (fun (ρ : Slots) (wz : World) => ∃ i : Nat, ρ 0 = (v : Value) ∧ ρ 1 = (v2 : Value) ∧ ρ 10 = (.bool (false) : Value) ∧ ρ 5 = (NI i : Value) ∧ RG 33 nmdC wz v l ∧ RG 33 nmdC wz v2 l ∧ Ext w wz ∧ (i ≤ l.length) ∧ True) (fun ρ _ => l.length - (intOf (ρ 5)).toNat) ⟨0, T0, T1, T10, T5, hr, hr2, hE, Nat.zero_le _, trivial⟩ ?_)))))))))))
 clear hr hr2 hE
 rintro ρ7 w8 ⟨i, T0, T1, T10, T5, hr, hr2, hE, hi, -⟩
 have q5 := T5
 refine sk fun K9 hK9 => (sk fun K10 hK10 => (wt (oM rfl (oM rfl (oS rfl (Yk.lenRG wr40_ty46 (RG.of hr T0) (oS rfl (Yk.eqI (a := (i : Nat)) (b := (l.length : Nat)) T5 rfl (k_lss _ _ _ _) (oZ (tN (hK10 _ _ ?_)))))))))))
 refine wpF_cond ((i) < (l.length)) (vr (.bool (decide ((i) < (l.length)))) rfl) (fun hc1 => ?_) (fun hc1 => ?_)
 ·have hlt : i < l.length := hc1
  refine wpF_skip (tN (hK9 _ _ (sk fun K11 hK11 => (wpF_block (sk fun K12 hK12 => ?_)))))
  refine wpF_draw [Is (v), Is (NI i), fun x w' => PR (nmdC (l.getD (i) dNmd)) x w', Is (.agg (nmdC (l.getD (i) dNmd)).toArray), Is (v2), Is (NI i), fun x w' => PR (nmdC (l.getD (i) dNmd)) x w', Is (.agg (nmdC (l.getD (i) dNmd)).toArray), Is (.bool (false))] (by kernel_rfl) [17, 18, 19, 20, 21, 22, 23, 24, 25] (by kernel_rfl) (by kernel_rfl) (si2 ⟨(fun _ _ _ h k => PR.keep h k), (si3 ⟨(fun _ _ _ h k => PR.keep h k), (si2 trivial)⟩)⟩) ?hs1006 ?hQ1006
  case hs1006 =>
   refine ⟨?_, ?_, ?_, ?_, ?_, ?_, ?_, ?_, ?_, trivial⟩
   ·refine stepN rfl fun σ w1 hC h => ?_
    have e0 := (eqo (h 0 (by decide))).trans T0
    exact Yk.move e0 ⟨Ext.refl _, rfl⟩
   ·refine stepN rfl fun σ w1 hC h => ?_
    have e5 := (eqo (h 5 (by decide))).trans T5
    exact Yk.move e5 ⟨Ext.refl _, rfl⟩
   ·refine stepN rfl fun σ w1 hC h => ?_
    have e17 := eqo (h 17 (by decide))
    have e18 := eqo (h 18 (by decide))
    exact Yk.atRG wr40_ty46 wr40_szg69 (by decide) dNmd (RG.of (hr.keep hC) e17) e18 (by omega) fun v h => ⟨Ext.refl _, h⟩
   ·refine stepN rfl fun σ w1 hC h => ?_
    have e19 : (fun x w' => PR (nmdC (l.getD (i) dNmd)) x w') (σ 19) w1 := h 19 (by decide)
    exact Yk.loadPR e19 (wr40_ty69).choose_spec rfl (by rw [nmd_len]; exact wr40_isz69) ⟨Ext.refl _, rfl⟩
   ·refine stepN rfl fun σ w1 hC h => ?_
    have e1 := (eqo (h 1 (by decide))).trans T1
    exact Yk.move e1 ⟨Ext.refl _, rfl⟩
   ·refine stepN rfl fun σ w1 hC h => ?_
    have e5 := (eqo (h 5 (by decide))).trans T5
    exact Yk.move e5 ⟨Ext.refl _, rfl⟩
   ·refine stepN rfl fun σ w1 hC h => ?_
    have e21 := eqo (h 21 (by decide))
    have e22 := eqo (h 22 (by decide))
    exact Yk.atRG wr40_ty46 wr40_szg69 (by decide) dNmd (RG.of (hr2.keep hC) e21) e22 (by omega) fun v h => ⟨Ext.refl _, h⟩
   ·refine stepN rfl fun σ w1 hC h => ?_
    have e23 : (fun x w' => PR (nmdC (l.getD (i) dNmd)) x w') (σ 23) w1 := h 23 (by decide)
    exact Yk.loadPR e23 (wr40_ty69).choose_spec rfl (by rw [nmd_len]; exact wr40_isz69) ⟨Ext.refl _, rfl⟩
   ·refine stepN rfl fun σ w1 hC h => ?_
    have e20 := eqo (h 20 (by decide))
    have e24 := eqo (h 24 (by decide))
    exact Yk.neStr wr40_eg69 e20 e24 (eqRnmd _ (l.getD i dNmd)) ⟨Ext.refl _, rfl⟩
  intro ρ13 w14 hx15 he hf
  obtain ⟨-, -, -, -, -, -, -, -, k25, -⟩ := hf
  obtain ⟨T0, T1, T5, T10, -⟩ := he.hold [(0, _), (1, _), (5, _), (10, _)] ⟨T0, T1, T5, T10, trivial⟩ rfl
  clear he
  have hr := hr.keep hx15
  have hr2 := hr2.keep hx15
  have hE := hE.trans hx15
  have T25 : ρ13 25 = .bool (false) := k25
  clear k25
  refine tN (hK12 _ _ (wpF_false T25 (wpF_skip (bN (tN (hK11 _ _ (wt (oM rfl (oS rfl (Yk.bin (xv := NI i) (yv := NI 1) T5 rfl rfl (i64_add _ _ _ (by omega)) (oA rfl (oL_ [(0, v), (1, v2), (5, NI ((i) + (1))), (10, .bool (false)), (25, .bool (false))] ⟨T0, T1, rfl, T10, T25, trivial⟩ fun ρ16 ⟨T0, T1, T5, T10, T25, _⟩ => (tN (And.intro ⟨i + 1, T0, T1, T10, T5, hr, hr2, hE, by omega, trivial⟩ ?_))))))))))))))
  show l.length - (intOf (ρ16 5)).toNat < l.length - (intOf (ρ7 5)).toNat
  rw [T5, q5]
  simp only [intOf, Int.toNat_natCast]; omega
 refine wpF_exit (thenF_exit (thenF_exit (inBlockF_hit (tN (hK4 _ _ (sk fun K17 hK17 => (wt (oA rfl (oZ (tN (hK17 _ _ (wpF_ret (postF_ret (fn := Tryd.f81) _ rfl [.bool (true)] (.bool (true)) rfl ⟨rfl, trivial⟩ ?_)))))))))))))
 exact ⟨rfl, hE⟩

theorem same20_true (w : World) (y z : RefsV) (hm : RefsAt w y) (hn : RefsAt w z) (he : z.1 = y.1) (hL : RefsLt y.1) :
  Calls Tryd.prog 29 #[.agg (refsC y).toArray, .agg (refsC z).toArray] w fun e w' => e = .returned (.bool true) ∧ Ext w w' := by
 have hmt := hm.branches
 have hmg := hm.tags
 have hml := hm.log
 have hnt := he ▸ hn.branches
 have hng := he ▸ hn.tags
 have hnl := he ▸ hn.log
 refine calls_of_wpF (args := [.agg (refsC y).toArray, .agg (refsC z).toArray]) Tryd.func29 rfl 61 rfl (Nat.le_of_ble_eq_true rfl) ?_
 intro ρ0 hb
 have T0 : ρ0 0 = (.agg (refsC y).toArray : Value) := hb.get 0
 have T1 : ρ0 1 = (.agg (refsC z).toArray : Value) := hb.get 1
 clear hb
 have hE := Ext.refl w
 refine sk fun K1 hK1 => (wt (oS rfl (Yk.box (cs := (refsC y : List Value).toArray) T0 fun n2 w3 hn4 hb5 hx6 hs7 => ?_)))
 have hE := hE.trans hx6
 have hb8 := hb5; clear hb5
 have hl9 : n2 < w3.heap.size := by omega
 refine oS rfl (Yk.box (cs := (refsC z : List Value).toArray) T1 fun n10 w11 hn12 hb13 hx14 hs15 => ?_)
 have hA16 := Ext.refl w3
 have hea17 := hE
 have hz18 := hE.size
 have hlt19 := lte (bl hb8) hn12
 have hE := hE.trans hx14
 have hb8 := eb hx14 hb8
 have hA16 := hA16.trans hx14
 have hb20 := hb13; clear hb13
 have hl21 : n10 < w11.heap.size := by omega
 refine oA rfl (oZ (tN (hK1 _ _ (sk fun K22 hK22 => (sk fun K23 hK23 => (wt (oS rfl (Yk.fieldAt wr40_fo49_0 (vr (PQ n2 0) rfl) (oS rfl (Yk.cell1 wr40_ty46 rfl (vr (PQ n2 0) rfl) (cellAt hb8 (show (refsC y)[0]? = some (y.2.branches : Value) from refs_g0 y)) (oS rfl (Yk.fieldAt wr40_fo49_0 (vr (PQ n10 0) rfl) (oS rfl (Yk.cell1 wr40_ty46 rfl (vr (PQ n10 0) rfl) (cellAt hb20 (show (refsC z)[0]? = some (z.2.branches : Value) from refs_g0 z)) (oS rfl (Yk.callA2 wr40_pl81 (vr y.2.branches rfl) (vr z.2.branches rfl) ((lists_true _ y.2.branches z.2.branches y.1.branches (hmt.keep hE) (hnt.keep hE) hL.branches).mono ?_)))))))))))))))))
 rintro e w25 ⟨rfl, hx24⟩
 refine ⟨_, rfl, ?_⟩
 have hE := hE.trans hx24
 have hb8 := eb hx24 hb8
 have hA16 := hA16.trans hx24
 have hb20 := eb hx24 hb20
 refine oS rfl (Yk.notB (vr (.bool (true)) rfl) (oM rfl (oY (d := 12) rfl rfl (vr (.bool (false)) rfl) (Yk.fieldAt wr40_fo49_1 (vr (PQ n2 0) rfl) (oY (d := 12) rfl rfl (vr (.bool (false)) rfl) (Yk.cell1 wr40_ty46 rfl (vr (PQ n2 1) rfl) (cellAt hb8 (show (refsC y)[1]? = some (y.2.tags : Value) from refs_g1 y)) (oY (d := 12) rfl rfl (vr (.bool (false)) rfl) (Yk.fieldAt wr40_fo49_1 (vr (PQ n10 0) rfl) (oY (d := 12) rfl rfl (vr (.bool (false)) rfl) (Yk.cell1 wr40_ty46 rfl (vr (PQ n10 1) rfl) (cellAt hb20 (show (refsC z)[1]? = some (z.2.tags : Value) from refs_g1 z)) (oY (d := 12) rfl rfl (vr (.bool (false)) rfl) (Yk.callA2 wr40_pl81 (vr y.2.tags rfl) (vr z.2.tags rfl) ((lists_true _ y.2.tags z.2.tags y.1.tags (hmg.keep hE) (hng.keep hE) hL.tags).mono ?_)))))))))))))
 rintro e w27 ⟨rfl, hx26⟩
 refine ⟨_, rfl, ?_⟩
 have hE := hE.trans hx26
 have hb8 := eb hx26 hb8
 have hA16 := hA16.trans hx26
 have hb20 := eb hx26 hb20
 refine oY (d := 12) rfl rfl (vr (.bool (false)) rfl) (Yk.notB (vr (.bool (true)) rfl) (oS rfl (Yk.pickF (vr (.bool (false)) rfl) (vr (.bool (false)) rfl) (oM rfl (oY (d := 20) rfl rfl (vr (.bool (false)) rfl) (Yk.fieldAt wr40_fo49_2 (vr (PQ n2 0) rfl) (oY (d := 20) rfl rfl (vr (.bool (false)) rfl) (Yk.cell1 wr40_ty9 rfl (vr (PQ n2 2) rfl) (cellAt hb8 (show (refsC y)[2]? = some (St (y.1.head) : Value) from refs_g2 y)) (oY (d := 20) rfl rfl (vr (.bool (false)) rfl) (Yk.fieldAt wr40_fo49_2 (vr (PQ n10 0) rfl) (oY (d := 20) rfl rfl (vr (.bool (false)) rfl) (Yk.cell1 wr40_ty9 rfl (vr (PQ n10 2) rfl) (cellAt hb20 (show (refsC z)[2]? = some (St (z.1.head) : Value) from refs_g2 z)) (oY (d := 20) rfl rfl (vr (.bool (false)) rfl) (Yk.eqSt (l := y.1.head) (m := z.1.head) (.inr rfl) (vr (St (y.1.head)) rfl) (vr (St (z.1.head)) rfl) (decide ((y.1.head : List UInt8) ≠ (z.1.head : List UInt8))) rfl (oS rfl (Yk.pickF (vr (.bool (false)) rfl) (vr (.bool (false)) (congrArg Value.bool (decide_eq_false (fun h => h (by rw [he]))))) (oM rfl (oY (d := 27) rfl rfl (vr (.bool (false)) rfl) (Yk.fieldAt wr40_fo49_3 (vr (PQ n2 0) rfl) (oY (d := 27) rfl rfl (vr (.bool (false)) rfl) (Yk.loadPR (PR.blk hb8 (refs_m3 y) (refs_n3 y) (vr (PQ n2 3) rfl)) wr40_ty25 rfl (sizeId_of y.1.at_.2) (oY (d := 27) rfl rfl (vr (.bool (false)) rfl) (Yk.fieldAt wr40_fo49_3 (vr (PQ n10 0) rfl) (oY (d := 27) rfl rfl (vr (.bool (false)) rfl) (Yk.loadPR (PR.blk hb20 (refs_m3 z) (refs_n3 z) (vr (PQ n10 3) rfl)) wr40_ty25 rfl (sizeId_of z.1.at_.2) (oY (d := 27) rfl rfl (vr (.bool (false)) rfl) (Yk.neArr (l1 := y.1.at_.1) (l2 := z.1.at_.1) wr40_ty25 wr40_ty5 wr40_sz5 wr40_eg25 (vr (AB y.1.at_.1) rfl) (vr (AB z.1.at_.1) rfl) (y.1.at_.2) (z.1.at_.2) (oS rfl (Yk.pickF (vr (.bool (false)) rfl) (vr (.bool (false)) (congrArg Value.bool (decide_eq_false (fun h => h (by rw [he]))))) ?_)))))))))))))))))))))))))))))
 refine oM rfl (oY (d := 34) rfl rfl (vr (.bool (false)) rfl) (Yk.fieldAt wr40_fo49_4 (vr (PQ n2 0) rfl) (oY (d := 34) rfl rfl (vr (.bool (false)) rfl) (Yk.cell1 wr40_ty47 rfl (vr (PQ n2 35) rfl) (cellAt hb8 (show (refsC y)[35]? = some (y.2.log : Value) from refs_g4 y)) (oY (d := 34) rfl rfl (vr (.bool (false)) rfl) (Yk.lenRG wr40_ty47 (RG.of (hml.keep hE) (vr y.2.log rfl)) (oY (d := 34) rfl rfl (vr (.bool (false)) rfl) (Yk.fieldAt wr40_fo49_4 (vr (PQ n10 0) rfl) (oY (d := 34) rfl rfl (vr (.bool (false)) rfl) (Yk.cell1 wr40_ty47 rfl (vr (PQ n10 35) rfl) (cellAt hb20 (show (refsC z)[35]? = some (z.2.log : Value) from refs_g4 z)) (oY (d := 34) rfl rfl (vr (.bool (false)) rfl) (Yk.lenRG wr40_ty47 (RG.of (hnl.keep hE) (vr z.2.log rfl)) (oY (d := 34) rfl rfl (vr (.bool (false)) rfl) (Yk.eqI (a := ((y.1.log).length : Nat)) (b := ((y.1.log).length : Nat)) rfl rfl (k_neq _ _ _ _) (oS rfl (Yk.pickF (vr (.bool (false)) rfl) (vr (.bool (false)) (congrArg Value.bool (decide_eq_false (fun h => h rfl)))) (oL_ [(0, .agg (refsC y).toArray), (1, .agg (refsC z).toArray), (2, PQ n2 0), (3, PQ n10 0), (4, .bool (false)), (42, .bool (false))] ⟨T0, T1, rfl, rfl, rfl, rfl, trivial⟩ fun ρ28 ⟨T0, T1, T2, T3, T4, T42, _⟩ => (tN (hK23 _ _ (wpF_false T42 (wpF_skip (tN (hK22 _ _ (sk fun K29 hK29 => (sk fun K30 hK30 => ?_)))))))))))))))))))))))))
 refine wt (oA rfl (oL_ [(0, .agg (refsC y).toArray), (1, .agg (refsC z).toArray), (2, PQ n2 0), (3, PQ n10 0), (4, .bool (false)), (5, NI 0), (42, .bool (false))] ⟨T0, T1, T2, T3, T4, rfl, T42, trivial⟩ fun ρ31 ⟨T0, T1, T2, T3, T4, T5, T42, _⟩ => (tN (hK30 _ _ (wpF_block (wpF_loop (fun (ρ : Slots) (wz : World) => ∃ i : Nat, ρ 0 = (.agg (refsC y).toArray : Value) ∧ ρ 1 = (.agg (refsC z).toArray : Value) ∧ ρ 2 = (PQ n2 0 : Value) ∧ ρ 3 = (PQ n10 0 : Value) ∧ ρ 42 = (.bool (false) : Value) ∧ ρ 5 = (NI i : Value) ∧ Ext w wz ∧ wz.heap[n2]? = some (.cells (refsC y).toArray 49 (0, 0)) ∧ Ext w3 wz ∧ wz.heap[n10]? = some (.cells (refsC z).toArray 49 (0, 0)) ∧ (i ≤ y.1.log.length) ∧ True) (fun ρ _ => y.1.log.length - (intOf (ρ 5)).toNat) ⟨0, T0, T1, T2, T3, T42, T5, hE, hb8, hA16, hb20, Nat.zero_le _, trivial⟩ ?_))))))
 clear hE hb8 hA16 hb20
 rintro ρ32 w33 ⟨i, T0, T1, T2, T3, T42, T5, hE, hb8, hA16, hb20, hi, -⟩
 have q5 := T5
 refine sk fun K34 hK34 => (sk fun K35 hK35 => (wt (oM rfl (oS rfl (Yk.fieldAt wr40_fo49_4 T2 (oS rfl (Yk.cell1 wr40_ty47 rfl (vr (PQ n2 35) rfl) (cellAt hb8 (show (refsC y)[35]? = some (y.2.log : Value) from refs_g4 y)) (oS rfl (Yk.lenRG wr40_ty47 (RG.of (hml.keep hE) (vr y.2.log rfl)) (oS rfl (Yk.eqI (a := (i : Nat)) (b := ((y.1.log).length : Nat)) T5 rfl (k_lss _ _ _ _) (oZ (tN (hK35 _ _ ?_))))))))))))))
 refine wpF_cond ((i) < ((y.1.log).length)) (vr (.bool (decide ((i) < ((y.1.log).length)))) rfl) (fun hc1 => ?_) (fun hc1 => ?_)
 ·have hlt : i < y.1.log.length := hc1
  have hll := hL.log
  refine wpF_skip (tN (hK34 _ _ (sk fun K36 hK36 => (wpF_block (sk fun K37 hK37 => ?_)))))
  refine wpF_draw [Is (PQ n2 35), Is (y.2.log), Is (NI i), fun x w' => PR (entC ((y.1.log).getD (i) dEntry)) x w', Is (.agg (entC ((y.1.log).getD (i) dEntry)).toArray), Is (PQ n10 35), Is (z.2.log), Is (NI i), fun x w' => PR (entC ((y.1.log).getD (i) dEntry)) x w', Is (.agg (entC ((y.1.log).getD (i) dEntry)).toArray), Is (.bool (false))] (by kernel_rfl) [50, 51, 52, 53, 54, 55, 56, 57, 58, 59, 60] (by kernel_rfl) (by kernel_rfl) (si3 ⟨(fun _ _ _ h k => PR.keep h k), (si4 ⟨(fun _ _ _ h k => PR.keep h k), (si2 trivial)⟩)⟩) ?hs1006 ?hQ1006
  case hs1006 =>
   refine ⟨?_, ?_, ?_, ?_, ?_, ?_, ?_, ?_, ?_, ?_, ?_, trivial⟩
   ·refine stepN rfl fun σ w1 hC h => ?_
    have e2 := (eqo (h 2 (by decide))).trans T2
    exact Yk.fieldAt wr40_fo49_4 e2 ⟨Ext.refl _, rfl⟩
   ·refine stepN rfl fun σ w1 hC h => ?_
    have e50 := eqo (h 50 (by decide))
    exact Yk.cell1 wr40_ty47 rfl e50 (cellAt (eb hC hb8) (show (refsC y)[35]? = some (y.2.log : Value) from refs_g4 y)) ⟨Ext.refl _, rfl⟩
   ·refine stepN rfl fun σ w1 hC h => ?_
    have e5 := (eqo (h 5 (by decide))).trans T5
    exact Yk.move e5 ⟨Ext.refl _, rfl⟩
   ·refine stepN rfl fun σ w1 hC h => ?_
    have e51 := eqo (h 51 (by decide))
    have e52 := eqo (h 52 (by decide))
    exact Yk.atRG wr40_ty47 wr40_szg122 (by decide) dEntry (RG.of (hml.keep (hE.trans hC)) e51) e52 (by omega) fun v h => ⟨Ext.refl _, h⟩
   ·refine stepN rfl fun σ w1 hC h => ?_
    have e53 : (fun x w' => PR (entC ((y.1.log).getD (i) dEntry)) x w') (σ 53) w1 := h 53 (by decide)
    exact Yk.loadPR e53 (wr40_ty122).choose_spec rfl (by rw [ent_len]; exact wr40_isz122) ⟨Ext.refl _, rfl⟩
   ·refine stepN rfl fun σ w1 hC h => ?_
    have e3 := (eqo (h 3 (by decide))).trans T3
    exact Yk.fieldAt wr40_fo49_4 e3 ⟨Ext.refl _, rfl⟩
   ·refine stepN rfl fun σ w1 hC h => ?_
    have e55 := eqo (h 55 (by decide))
    exact Yk.cell1 wr40_ty47 rfl e55 (cellAt (eb hC hb20) (show (refsC z)[35]? = some (z.2.log : Value) from refs_g4 z)) ⟨Ext.refl _, rfl⟩
   ·refine stepN rfl fun σ w1 hC h => ?_
    have e5 := (eqo (h 5 (by decide))).trans T5
    exact Yk.move e5 ⟨Ext.refl _, rfl⟩
   ·refine stepN rfl fun σ w1 hC h => ?_
    have e56 := eqo (h 56 (by decide))
    have e57 := eqo (h 57 (by decide))
    exact Yk.atRG wr40_ty47 wr40_szg122 (by decide) dEntry (RG.of (hnl.keep (hE.trans hC)) e56) e57 (by omega) fun v h => ⟨Ext.refl _, h⟩
   ·refine stepN rfl fun σ w1 hC h => ?_
    have e58 : (fun x w' => PR (entC ((y.1.log).getD (i) dEntry)) x w') (σ 58) w1 := h 58 (by decide)
    exact Yk.loadPR e58 (wr40_ty122).choose_spec rfl (by rw [ent_len]; exact wr40_isz122) ⟨Ext.refl _, rfl⟩
   ·refine stepN rfl fun σ w1 hC h => ?_
    have e54 := eqo (h 54 (by decide))
    have e59 := eqo (h 59 (by decide))
    exact Yk.neStr wr40_eg122 e54 e59 (eqEnt _ (y.1.log.getD i dEntry)) ⟨Ext.refl _, rfl⟩
  intro ρ38 w39 hx40 he hf
  obtain ⟨-, -, -, -, -, -, -, -, -, -, k60, -⟩ := hf
  obtain ⟨T0, T1, T2, T3, T5, T42, -⟩ := he.hold [(0, _), (1, _), (2, _), (3, _), (5, _), (42, _)] ⟨T0, T1, T2, T3, T5, T42, trivial⟩ rfl
  clear he
  have hE := hE.trans hx40
  have hb8 := eb hx40 hb8
  have hA16 := hA16.trans hx40
  have hb20 := eb hx40 hb20
  have T60 : ρ38 60 = .bool (false) := k60
  clear k60
  refine tN (hK37 _ _ (wpF_false T60 (wpF_skip (bN (tN (hK36 _ _ (wt (oM rfl (oS rfl (Yk.bin (xv := NI i) (yv := NI 1) T5 rfl rfl (i64_add _ _ _ (by have := hL.log; omega)) (oA rfl (oL_ [(0, .agg (refsC y).toArray), (1, .agg (refsC z).toArray), (2, PQ n2 0), (3, PQ n10 0), (5, NI ((i) + (1))), (42, .bool (false)), (60, .bool (false))] ⟨T0, T1, T2, T3, rfl, T42, T60, trivial⟩ fun ρ41 ⟨T0, T1, T2, T3, T5, T42, T60, _⟩ => (tN (And.intro ⟨i + 1, T0, T1, T2, T3, T42, T5, hE, hb8, hA16, hb20, by omega, trivial⟩ ?_))))))))))))))
  show y.1.log.length - (intOf (ρ41 5)).toNat < y.1.log.length - (intOf (ρ32 5)).toNat
  rw [T5, q5]
  simp only [intOf, Int.toNat_natCast]; omega
 refine wpF_exit (thenF_exit (thenF_exit (inBlockF_hit (tN (hK29 _ _ (sk fun K42 hK42 => (wt (oA rfl (oZ (tN (hK42 _ _ (wpF_ret (postF_ret (fn := Tryd.f29) _ rfl [.bool (true)] (.bool (true)) rfl ⟨rfl, trivial⟩ ?_)))))))))))))
 exact ⟨rfl, hE⟩
open Go.RowKit
set_option maxRecDepth 100000
theorem zeroR_lt : RefsLt zeroR := ⟨by decide, by decide, by decide, by decide, by decide, by decide⟩
theorem right_lt {r : Refs} (h : rightF r = true) : RefsLt r := by
 obtain ⟨h1, h2⟩ := rightF_iff.1 h
 have h3 := nlistB_iff.1 h1.br
 have h4 := nlistB_iff.1 h1.tg
 refine ⟨by have := h3.2.2; omega, by have := h4.2.2; omega, by omega, fun u hu => by have := (nameB_len (h3.1 u hu).1).2; omega, fun u hu => by have := (nameB_len (h4.1 u hu).1).2; omega, ?_⟩
 have hh := h1.hd
 unfold rE2 at hh
 by_cases h0 : r.head = []
 ·rw [h0]; simp
 ·simp only [decide_eq_true h0, Bool.true_and, Bool.or_eq_false_iff, Bool.not_eq_false'] at hh
  have := (nameB_len hh.1.1).2
  omega
set_option maxHeartbeats 1600000
open Go.RowKit
set_option maxRecDepth 100000
theorem take_flat_snoc {α β : Type} {f : α → List β} {l : List α} {i : Nat} (d : α) (h : i < l.length) : (l.take (i + 1)).flatMap f = (l.take i).flatMap f ++ f (l.getD i d) := by
 rw [List.take_succ_eq_append_getElem h, List.flatMap_append, List.flatMap_cons, List.flatMap_nil, List.append_nil, List.getD_eq_getElem?_getD, List.getElem?_eq_getElem h]; rfl
set_option maxHeartbeats 1600000
set_option maxHeartbeats 1600000
open Go.RowKit
def nmdB (n : Nmd) : Bs := textB n.name ++ n.id.1
def nlB (l : List Nmd) : Bs := Lib.uvarint l.length ++ l.flatMap nmdB
def entB (e : Ent) : Bs := (((([e.kind] ++ textB e.name) ++ e.old.1) ++ e.new.1)) ++ textB e.note
def encR (r : Refs) : Bs := ((((nlB r.branches ++ nlB r.tags) ++ textB r.head) ++ r.at_.1) ++ Lib.uvarint r.log.length) ++ r.log.flatMap entB
def lsB (r : Refs) (i : Nat) : Bs := if i = 0 then [] else if i = 1 then nlB r.branches else nlB r.branches ++ nlB r.tags
theorem lsB_0 {r : Refs} {i : Nat} (h : i = 0) : lsB r i = [] := if_pos h
theorem lsB_1 {r : Refs} {i : Nat} (h : i = 1) : lsB r i = nlB r.branches := by subst h; rfl
theorem lsB_2 {r : Refs} {i : Nat} (h : i = 2) : lsB r i = nlB r.branches ++ nlB r.tags := by subst h; rfl
theorem textR_len {s : Bs} {n : Nat} (h : s.length ≤ n) (hn : n ≤ 4611686018427387904) : (textB s).length ≤ n + 9 := by
  have := uvarint_len9 (n := s.length) (by omega)
  unfold textB; rw [List.length_append]; omega
theorem flatR_len {α : Type} {f : α → Bs} {c : Nat} : ∀ {l : List α}, (∀ a ∈ l, (f a).length ≤ c) → (l.flatMap f).length ≤ c * l.length
  | [], _ => Nat.zero_le _
  | a :: l, h => by
    have h1 := h a (by simp)
    have h2 := flatR_len (l := l) (fun x hx => h x (by simp [hx]))
    rw [List.flatMap_cons, List.length_append, List.length_cons, Nat.mul_add, Nat.mul_one]
    omega
theorem nmdB_len {n : Nmd} (h : n.name.length ≤ 32) : (nmdB n).length ≤ 73 := by
  unfold nmdB
  have := textR_len h (by omega)
  rw [List.length_append, n.id.2]; omega
theorem entB_len {e : Ent} (h : e.name.length ≤ 32) (h2 : e.note.length ≤ 256) : (entB e).length ≤ 371 := by
  unfold entB
  have := textR_len h (by omega)
  have := textR_len h2 (by omega)
  simp only [List.length_append, List.length_singleton, e.old.2, e.new.2]; omega
structure LenR (r : Refs) : Prop where
  bl : r.branches.length ≤ 64
  tl : r.tags.length ≤ 64
  ll : r.log.length ≤ 64
  bn : ∀ n ∈ r.branches, n.name.length ≤ 32
  tn : ∀ n ∈ r.tags, n.name.length ≤ 32
  hd : r.head.length ≤ 32
  ln : ∀ e ∈ r.log, e.name.length ≤ 32 ∧ e.note.length ≤ 256
theorem right_len {r : Refs} (h : rightF r = true) : LenR r := by
  obtain ⟨h1, h2⟩ := rightF_iff.1 h
  have h3 := nlistB_iff.1 h1.br
  have h4 := nlistB_iff.1 h1.tg
  refine ⟨h3.2.2, h4.2.2, h2, fun n hn => (nameB_len (h3.1 n hn).1).2, fun n hn => (nameB_len (h4.1 n hn).1).2, ?_, fun e he => ⟨(h1.lg e he).2.2, ?_⟩⟩
  · have hh := h1.hd
    unfold rE2 at hh
    by_cases h0 : r.head = []
    · rw [h0]; simp
    · simp only [decide_eq_true h0, Bool.true_and, Bool.or_eq_false_iff, Bool.not_eq_false'] at hh
      exact (nameB_len hh.1.1).2
  · have h5 := (h1.lg e he).2.1
    unfold noteB at h5
    rw [Bool.and_eq_true] at h5
    exact of_decide_eq_true h5.1
theorem nl_len {l : List Nmd} (h : l.length ≤ 64) (hn : ∀ n ∈ l, n.name.length ≤ 32) : (nlB l).length ≤ 4681 := by
  unfold nlB
  have h1 := flatR_len (f := nmdB) (c := 73) (l := l) (fun n hm => nmdB_len (hn n hm))
  have h2 := uvarint_len9 (n := l.length) (by omega)
  rw [List.length_append]; omega
theorem lsB_len {r : Refs} (h : LenR r) (i : Nat) : (lsB r i).length ≤ 9362 := by
  have h1 := nl_len h.bl h.bn
  have h2 := nl_len h.tl h.tn
  unfold lsB
  split
  · simp
  · split
    · omega
    · rw [List.length_append]; omega
theorem nmdR_len {l : List Nmd} (h : l.length ≤ 64) (hn : ∀ n ∈ l, n.name.length ≤ 32) (i : Nat) : ((l.take i).flatMap nmdB).length ≤ 4672 := by
  have h1 := flatR_len (f := nmdB) (c := 73) (l := l.take i) (fun n hm => nmdB_len (hn n (List.mem_of_mem_take hm)))
  have h2 := List.length_take_le i l
  have h3 : (l.take i).length ≤ l.length := by rw [List.length_take]; omega
  omega
theorem ents_len {r : Refs} (h : LenR r) (i : Nat) : ((r.log.take i).flatMap entB).length ≤ 23744 := by
  have h1 := flatR_len (f := entB) (c := 371) (l := r.log.take i) (fun e hm => entB_len (h.ln e (List.mem_of_mem_take hm)).1 (h.ln e (List.mem_of_mem_take hm)).2)
  have h3 : (r.log.take i).length ≤ r.log.length := by rw [List.length_take]; omega
  have := h.ll
  omega
open Go.RowKit
set_option maxRecDepth 100000
theorem wr5_ty25 : Tryd.prog.underlying 25 = some (.array 32 5) := by kernel_rfl
theorem wr5_sz5 : ∀ w' : World, (sizeOf 5).run Tryd.prog w' = .ok 1 w' := fun _ => by kernel_rfl
theorem wr5_pl100 : Plain Tryd.prog 100 := fun _ _ => by kernel_rfl
theorem wr5_ty26 : Tryd.prog.underlying 26 = some (.slice 5) := by kernel_rfl
theorem wr5_inf5 : (Tryd.prog.info? 5).map (fun i => (i.zero, i.size, i.bytes)) = some (some (.int .u8 0), 1, 1) := by kernel_rfl
set_option maxHeartbeats 1600000
theorem putId_any (w : World) (v : Value) (l : Bs) (hr : RB w v l) (hl : l.length + 64 ≤ 140737488355328) (id : Id32) :
  Calls Tryd.prog 51 #[v, AB id.1] w fun e w' => ∃ v', e = .returned v' ∧ NewB 5 w w' v' (l ++ id.1) := by
 refine calls_of_wpF (args := [v, AB id.1]) Tryd.func51 rfl 9 rfl (Nat.le_of_ble_eq_true rfl) ?_
 intro ρ0 hb
 have T0 : ρ0 0 = (v : Value) := hb.get 0
 have T1 : ρ0 1 = (AB id.1 : Value) := hb.get 1
 clear hb
 have hE := Ext.refl w
 refine sk fun K1 hK1 => (wt (oS rfl (Yk.box (cs := (Lib.byteCells id.1 : List Value).toArray) T1 fun n2 w3 hn4 hb5 hx6 hs7 => ?_)))
 have hE := hE.trans hx6
 have hb8 := hb5; clear hb5
 have hl9 : n2 < w3.heap.size := by omega
 refine oA rfl (oZ (tN (hK1 _ _ (sk fun K10 hK10 => ?_))))
 have hx11 : Ext w3 (World.drew w3) := (Below.refl _ _).drew
 have hE := hE.trans hx11
 have hb8 := eb hx11 hb8
 refine wpF_float [(2, 7, .slice (some ⟨n2, 0, none⟩) 32 32)] [0, 1, 3, 4] (fun wz => Ext w wz ∧ wz.heap[n2]? = some (.cells (Lib.byteCells id.1).toArray 25 (0, 0)) ∧ True) (by kernel_rfl) (by kernel_rfl) (by kernel_rfl) ⟨hE, hb8, trivial⟩ ⟨fun w12 ⟨hE, hb8, _⟩ => Yk.sliceArr wr5_ty25 wr5_sz5 (vr (PQ n2 0) rfl) ⟨rfl, rfl⟩, trivial⟩ (chF_step rfl (Yk.move T0 ?_))
 refine ⟨.inr ⟨hE, hb8, trivial⟩, ?_⟩
 refine chF_step rfl (Yk.callA1 wr5_pl100 (vr v rfl) ((own_any _ v (l) (hr.keep hE) (by omega)).mono ?_))
 rintro e w15 ⟨v13, rfl, hN14⟩
 refine ⟨_, rfl, ?_⟩
 have hA16 := Ext.refl (World.drew w3)
 have hea17 := hE
 have hz18 : w.heap.size ≤ (World.drew w3).heap.size := hE.size
 have hap19 : OB v13 n2 := own_older hN14.own (bl hb8)
 have hE := hE.trans hN14.ext
 have hb8 := eb hN14.ext hb8
 have hA16 := hA16.trans hN14.ext
 have ho20 := hN14.own; clear hN14
 refine ⟨.inr ⟨hE, hb8, trivial⟩, ?_⟩
 refine chF_step rfl (Yk.appendRB _ _ (World.drew w3).heap.size (.int .u8 0) wr5_ty26 wr5_inf5 rfl wr5_ty26 (l) (id.1) (own_of ho20 (vr v13 rfl)) (RB.of (RB.ofBlkN hb8 id.2 (by decide)) (vr (.slice (some ⟨n2, 0, none⟩) 32 32) rfl)) (by rw [id.2]; omega) hA16.size fun v21 w22 ho23 hg24 => ?_)
 have hg24 : Grew w15 w22 v13 v21 := hg24
 have hap25 : OB v21 n2 := apart_grew hg24 hap19 (bl hb8)
 have hE := ext_grew hE hg24 ho20 hz18
 have hb8 := blk_grew hb8 hg24 hap19
 have hA16 := ext_grew hA16 hg24 ho20 (Nat.le_refl _)
 clear ho20
 refine ⟨.inr ⟨hE, hb8, trivial⟩, ?_⟩
 refine chF_step rfl (Yk.assign (vr v21 rfl) ?_)
 refine ⟨.inl rfl, ?_⟩
 refine chF_nil (tN (hK10 _ _ (wpF_ret (postF_ret (fn := Tryd.f51) _ rfl [v21] (v21) rfl ⟨rfl, trivial⟩ ?_))))
 exact ⟨_, rfl, ⟨ownsRow_base ho23 (by omega), hE.grown⟩⟩

open Go.RowKit
abbrev rdX (v : Value) (b : Bs) (i : Nat) : RdV := (⟨b, ((i : Nat) : Int)⟩, ⟨v⟩)
def byteP (b : Bs) (i : Nat) : Option (UInt8 × Nat) := if i < b.length then some (b.getD i 0, i + 1) else none
def numP (b : Bs) (i : Nat) : Option (Nat × Nat) := (lebDec 0 (b.drop i)).map fun x => (x.1, i + x.2)
def txtP (b : Bs) (i most : Nat) : Option (Bs × Nat) := match lebDec 0 (b.drop i) with
  | none => none
  | some x => if most < x.1 then none else if b.length < i + x.2 + x.1 then none else some ((b.drop (i + x.2)).take x.1, i + x.2 + x.1)
def idP (b : Bs) (i : Nat) : Option (Id32 × Nat) := if h : i + 32 ≤ b.length then some (⟨(b.drop i).take 32, by rw [List.length_take, List.length_drop]; omega⟩, i + 32) else none
theorem byteP_le {b : Bs} {i n : Nat} {c : UInt8} (h : byteP b i = some (c, n)) : n ≤ b.length := by
  unfold byteP at h
  split at h
  · cases h; omega
  · cases h
theorem numP_le {b : Bs} {i n k : Nat} (hi : i ≤ b.length) (h : numP b i = some (k, n)) : n ≤ b.length := by
  unfold numP at h
  cases hd : lebDec 0 (b.drop i) with
  | none => rw [hd] at h; cases h
  | some x =>
    rw [hd] at h
    cases h
    have := (lebDec_pos _ _ _ hd).2.1
    rw [List.length_drop] at this
    omega
theorem txtP_le {b : Bs} {i most n : Nat} {s : Bs} (h : txtP b i most = some (s, n)) : n ≤ b.length ∧ s.length ≤ most := by
  unfold txtP at h
  split at h
  · cases h
  · split at h
    · cases h
    · split at h
      · cases h
      · cases h
        rw [List.length_take, List.length_drop]
        omega
theorem idP_le {b : Bs} {i n : Nat} {x : Id32} (h : idP b i = some (x, n)) : n ≤ b.length := by
  unfold idP at h
  split at h
  · cases h; omega
  · cases h
theorem RB.keptE {w w' : World} {v : Value} {l : List UInt8} (h : RB w v l) {row : Option Nat} (hg : w.grownBy w' row) (hv : l = [] ∨ v.ownBlock ≠ row) : RB w' v l := by
  rcases hv with rfl | hv
  · obtain ⟨h1, ao, cap, rfl, h2, h3, h4, h5⟩ := h
    exact ⟨h1, ao, cap, rfl, h2, h3, h4, fun a ha j u hu => by simp [Lib.byteCells] at hu⟩
  · exact RB.kept h hg (.inr hv)
def itP {σ : Type} (f : σ → Option σ) : Nat → σ → Option σ
  | 0, s => some s
  | n + 1, s => (itP f n s).bind f
theorem itP_none {σ : Type} {f : σ → Option σ} {s : σ} {j : Nat} (h : itP f j s = none) : ∀ n, j ≤ n → itP f n s = none
  | 0, hn => by have : j = 0 := by omega
                rw [this] at h; exact h
  | n + 1, hn => by
    by_cases e : j = n + 1
    · rw [← e]; exact h
    · show (itP f n s).bind f = none
      rw [itP_none h n (by omega)]; rfl
theorem itP_step {σ : Type} {f : σ → Option σ} {s t : σ} {j : Nat} (h : itP f j s = some t) : itP f (j + 1) s = f t := by
  show (itP f j s).bind f = _
  rw [h]; rfl
def listP {σ : Type} (b : Bs) (i most : Nat) (st : σ × Nat → Option (σ × Nat)) (s : σ) : Option (σ × Nat) :=
  (numP b i).bind fun x => if x.1 ≤ most then itP st x.1 (s, x.2) else none
theorem listP_some {σ : Type} {b : Bs} {i most n j : Nat} {st : σ × Nat → Option (σ × Nat)} {s : σ} (h : numP b i = some (n, j)) (hn : n ≤ most) : listP b i most st s = itP st n (s, j) := by
  unfold listP
  rw [h]; exact if_pos hn
theorem itP_succ {σ : Type} {f : σ → Option σ} {s t : σ} {n : Nat} (h : itP f (n + 1) s = some t) : ∃ u, itP f n s = some u ∧ f u = some t := by
  have h : (itP f n s).bind f = some t := h
  exact Option.bind_eq_some_iff.1 h
theorem add_len {σ : Type} {f : List σ × Nat → Option (List σ × Nat)} (hf : ∀ s t, f s = some t → t.1.length = s.1.length + 1) : ∀ (n : Nat) {s t : List σ × Nat}, itP f n s = some t → t.1.length = s.1.length + n
  | 0, s, t, h => by cases h; rfl
  | n + 1, s, t, h => by
    obtain ⟨u, h1, h2⟩ := itP_succ h
    rw [hf u t h2, add_len hf n h1]; omega
theorem listP_get {σ : Type} {b : Bs} {i most : Nat} {st : σ × Nat → Option (σ × Nat)} {s : σ} {t : σ × Nat} (h : listP b i most st s = some t) : ∃ n j, numP b i = some (n, j) ∧ n ≤ most ∧ itP st n (s, j) = some t := by
  unfold listP at h
  rw [Option.bind_eq_some_iff] at h
  obtain ⟨x, h1, h2⟩ := h
  split at h2
  · rename_i hn
    exact ⟨x.1, x.2, h1, hn, h2⟩
  · cases h2
open Go.RowKit
theorem dropOf {α : Type} {b u r : List α} {i : Nat} (h : b.drop i = u ++ r) : b.drop (i + u.length) = r := by
  rw [← List.drop_drop, h, List.drop_left]
theorem lenOf {α : Type} {b u r : List α} {i : Nat} (h : b.drop i = u ++ r) (hu : 0 < u.length) : i + u.length + r.length = b.length := by
  have h1 := congrArg List.length h
  rw [List.length_drop, List.length_append] at h1
  omega
theorem byteP_d {b r : Bs} {c : UInt8} {i : Nat} (h : b.drop i = c :: r) : byteP b i = some (c, i + 1) := by
  have h0 := lenOf (u := [c]) h (by simp)
  have h1 : b[i]? = some c := by have := congrArg (fun l : Bs => l[0]?) h; simpa using this
  unfold byteP
  rw [if_pos (by simp only [List.length_singleton] at h0; omega), List.getD_eq_getElem?_getD, h1]
  rfl
theorem numP_d {b r : Bs} {n i : Nat} (h : b.drop i = Lib.uvarint n ++ r) (hn : n < 9223372036854775808) : numP b i = some (n, i + (Lib.uvarint n).length) := by
  have h4 : (128 : Nat) ^ (8 + 1) = 9223372036854775808 := by decide
  unfold numP
  rw [h, lebDec_uvarint r 8 n 0 (by omega) (by omega) (by omega)]
  rfl
theorem idP_d {b r : Bs} {x : Id32} {i : Nat} (h : b.drop i = x.1 ++ r) : idP b i = some (x, i + x.1.length) := by
  have hx := x.2
  have h0 := lenOf h (by omega)
  unfold idP
  rw [dif_pos (by omega), hx]
  congr 2
  refine Subtype.ext ?_
  show (b.drop i).take 32 = x.1
  rw [h]
  exact List.take_left' hx
theorem txtP_d {b r s : Bs} {most i : Nat} (h : b.drop i = textB s ++ r) (hs : s.length ≤ most) (hm : most < 9223372036854775808) : txtP b i most = some (s, i + (textB s).length) := by
  have h4 : (128 : Nat) ^ (8 + 1) = 9223372036854775808 := by decide
  have h' : b.drop i = Lib.uvarint s.length ++ (s ++ r) := by rw [h]; unfold textB; rw [List.append_assoc]
  have h0 := lenOf h' (Lib.uvarint_pos _)
  have h2 := dropOf h'
  unfold txtP
  rw [h', lebDec_uvarint (s ++ r) 8 s.length 0 (by omega) (by omega) (by omega)]
  simp only
  rw [List.length_append] at h0
  rw [if_neg (by omega), if_neg (by omega), h2, List.take_left]
  unfold textB
  rw [List.length_append, Nat.add_assoc]
theorem itP_head {σ : Type} {f : σ → Option σ} : ∀ (n : Nat) (s : σ), itP f (n + 1) s = (f s).bind (itP f n)
  | 0, s => by
    show f s = _
    cases f s <;> rfl
  | n + 1, s => by
    show (itP f (n + 1) s).bind f = _
    rw [itP_head n s]
    cases f s with
    | none => rfl
    | some t => rfl
theorem itP_d {α : Type} (f : α → Bs) {b : Bs} (st : List α × Nat → Option (List α × Nat)) : ∀ (l : List α) (a : List α) (r : Bs) (i : Nat), b.drop i = l.flatMap f ++ r →
    (∀ x ∈ l, ∀ (a : List α) (i : Nat) (r : Bs), b.drop i = f x ++ r → st (a, i) = some (a ++ [x], i + (f x).length)) → itP st l.length (a, i) = some (a ++ l, i + (l.flatMap f).length)
  | [], a, r, i, _, _ => by simp [itP]
  | x :: l, a, r, i, h, hst => by
    rw [List.flatMap_cons, List.append_assoc] at h
    rw [List.length_cons, itP_head, hst x (by simp) a i _ h, Option.bind_some, itP_d f st l (a ++ [x]) r _ (dropOf h) (fun y hy => hst y (by simp [hy]))]
    simp [Nat.add_assoc]
theorem listP_d {α : Type} (f : α → Bs) {b : Bs} {most : Nat} (st : List α × Nat → Option (List α × Nat)) {l : List α} {r : Bs} {i : Nat} (h : b.drop i = Lib.uvarint l.length ++ (l.flatMap f ++ r)) (hl : l.length ≤ most) (hm : most < 9223372036854775808)
    (hst : ∀ x ∈ l, ∀ (a : List α) (i : Nat) (r : Bs), b.drop i = f x ++ r → st (a, i) = some (a ++ [x], i + (f x).length)) : listP b i most st [] = some (l, i + (Lib.uvarint l.length).length + (l.flatMap f).length) := by
  rw [listP_some (numP_d h (by omega)) hl, itP_d f st l [] r _ (dropOf h) hst, List.nil_append]
theorem lebDec_back : ∀ (l : Bs) (k : Nat) (x : Nat × Nat), lebDec k l = some x → l = Lib.uvarint x.1 ++ l.drop x.2 ∧ (0 < k → 0 < x.1)
  | [], k, x, h => by simp [lebDec] at h
  | c :: r, k, x, h => by
    have hc := c.toNat_lt
    unfold lebDec at h
    split at h
    · split at h
      · cases h
      · obtain ⟨y, hy, rfl⟩ := Option.map_eq_some_iff.1 h
        obtain ⟨h1, h2⟩ := lebDec_back r (k + 1) y hy
        have h2 := h2 (by omega)
        have e1 : (c.toNat - 128 + 128 * y.1) % 128 + 128 = c.toNat := by omega
        have e2 : (c.toNat - 128 + 128 * y.1) / 128 = y.1 := by omega
        refine ⟨?_, fun _ => by simp only; omega⟩
        simp only
        rw [Lib.uvarint_big (by omega), e1, e2, List.drop_succ_cons, List.cons_append, ← h1]
        simp
    · split at h
      · cases h
      · rename_i h1 h2
        cases h
        refine ⟨?_, fun _ => by simp only; omega⟩
        simp only
        rw [Lib.uvarint_small (by omega)]
        simp
theorem byteP_b {b : Bs} {i n : Nat} {c : UInt8} (h : byteP b i = some (c, n)) : b.drop i = [c] ++ b.drop n := by
  unfold byteP at h
  split at h
  · cases h
    rename_i hi
    rw [drop_cons 0 hi]
    rfl
  · cases h
theorem numP_b {b : Bs} {i n k : Nat} (h : numP b i = some (k, n)) : b.drop i = Lib.uvarint k ++ b.drop n := by
  unfold numP at h
  obtain ⟨x, hx, h2⟩ := Option.map_eq_some_iff.1 h
  cases h2
  have := (lebDec_back _ _ _ hx).1
  rwa [List.drop_drop] at this
theorem idP_b {b : Bs} {i n : Nat} {x : Id32} (h : idP b i = some (x, n)) : b.drop i = x.1 ++ b.drop n := by
  unfold idP at h
  split at h
  · cases h
    show b.drop i = (b.drop i).take 32 ++ b.drop (i + 32)
    rw [← List.drop_drop, List.take_append_drop]
  · cases h
theorem txtP_b {b s : Bs} {i n most : Nat} (h : txtP b i most = some (s, n)) : b.drop i = textB s ++ b.drop n := by
  unfold txtP at h
  split at h
  · cases h
  · rename_i x hx
    split at h
    · cases h
    · split at h
      · cases h
      · cases h
        have h1 := (lebDec_back _ _ _ hx).1
        rw [List.drop_drop] at h1
        have hl : ((b.drop (i + x.2)).take x.1).length = x.1 := by rw [List.length_take, List.length_drop]; omega
        unfold textB
        rw [hl, List.append_assoc, ← List.drop_drop (i := x.1), List.take_append_drop]
        exact h1
theorem itP_b {α : Type} {f : α → Bs} {Q : α → Prop} {b : Bs} {st : List α × Nat → Option (List α × Nat)} (hst : ∀ a i t, st (a, i) = some t → ∃ x, t.1 = a ++ [x] ∧ Q x ∧ b.drop i = f x ++ b.drop t.2) : ∀ (n : Nat) (a : List α) (i : Nat) (t : List α × Nat), itP st n (a, i) = some t → ∃ l, t.1 = a ++ l ∧ l.length = n ∧ (∀ x ∈ l, Q x) ∧ b.drop i = l.flatMap f ++ b.drop t.2
  | 0, a, i, t, h => by cases h; exact ⟨[], by simp, rfl, (fun x hx => by cases hx), rfl⟩
  | n + 1, a, i, t, h => by
    obtain ⟨u, h1, h2⟩ := itP_succ h
    obtain ⟨l, e1, e2, e3, e4⟩ := itP_b hst n a i u h1
    obtain ⟨x, f1, f2, f3⟩ := hst u.1 u.2 t h2
    refine ⟨l ++ [x], by rw [f1, e1, List.append_assoc], by simp [e2], fun y hy => ?_, ?_⟩
    · rcases List.mem_append.1 hy with hy | hy
      · exact e3 y hy
      · rw [List.mem_singleton.1 hy]; exact f2
    · rw [e4, f3, List.flatMap_append, List.flatMap_singleton, List.append_assoc]
theorem listP_b {α : Type} {f : α → Bs} {Q : α → Prop} {b : Bs} {most i : Nat} {st : List α × Nat → Option (List α × Nat)} {t : List α × Nat} (hst : ∀ a i t, st (a, i) = some t → ∃ x, t.1 = a ++ [x] ∧ Q x ∧ b.drop i = f x ++ b.drop t.2) (h : listP b i most st [] = some t) : b.drop i = (Lib.uvarint t.1.length ++ t.1.flatMap f) ++ b.drop t.2 ∧ ∀ x ∈ t.1, Q x := by
  obtain ⟨n, j, h1, -, h2⟩ := listP_get h
  obtain ⟨l, e1, e2, e3, e4⟩ := itP_b hst n [] j t h2
  rw [List.nil_append] at e1
  rw [e1, numP_b h1, e2, e4, List.append_assoc]
  exact ⟨rfl, e3⟩
open Go.RowKit
set_option maxRecDepth 100000
def stopR : PanicEntry := { v := .iface 146 (.agg #[]), recovered := false }
def numM (b : Bs) (i most : Nat) : Option (Nat × Nat) := (numP b i).bind fun x => if x.1 ≤ most then some x else none
theorem wr57_ty146 : ∃ fs, Tryd.prog.underlying 146 = some (.struct fs) := struct_of (by kernel_rfl)
theorem wr57_fo150_1 : FieldOff Tryd.prog 150 1 1 := fun b o w => by simp [go_sem]
theorem wr57_ty3 : Tryd.prog.underlying 3 = some (.int .i64) := by kernel_rfl
theorem wr57_fo150_0 : FieldOff Tryd.prog 150 0 0 := fun b o w => by simp [go_sem]
theorem wr57_ty26 : Tryd.prog.underlying 26 = some (.slice 5) := by kernel_rfl
theorem wr57_pl141 : Plain Tryd.prog 141 := fun _ _ => by kernel_rfl
theorem wr57_isz3 : (Tryd.prog.info? 3).map (·.size) = some 1 := by kernel_rfl
theorem wr57_sz5 : ∀ w' : World, (sizeOf 5).run Tryd.prog w' = .ok 1 w' := fun _ => by kernel_rfl
theorem wr57_ty5 : Tryd.prog.underlying 5 = some (.int .u8) := by kernel_rfl
theorem wr57_pl145 : Plain Tryd.prog 145 := fun _ _ => by kernel_rfl
theorem wr57_pl146 : Plain Tryd.prog 146 := fun _ _ => by kernel_rfl
theorem wr57_al25 {d : Option Tmp} {ty : TypeId} {pos : String} {af : Array Edge} {gd : Option (Nat × Bool)} (σ : Operand → Value) (w : World) : (execOp σ ⟨d, .alloc 25, ty, pos, af, gd⟩).run Tryd.prog w = .ok (.value (PQ w.heap.size 0)) (w.alloc (.cells (Lib.byteCells (List.replicate 32 0)).toArray 25)) := by kernel_rfl
theorem wr57_pl147 : Plain Tryd.prog 147 := fun _ _ => by kernel_rfl
theorem wr57_ty25 : Tryd.prog.underlying 25 = some (.array 32 5) := by kernel_rfl
set_option maxHeartbeats 1600000
theorem needR_any (w : World) (b : Bool) :
  Calls Tryd.prog 141 #[.bool b] w fun r w' => (∃ v, r = .returned v ∧ v = .tuple #[] ∧ b = true ∧ Ext w w') ∨ ∃ ch, r = .panicked ch ∧ ch = [stopR] ∧ b = false ∧ Ext w w' := by
 refine calls_of_wpP (args := [.bool (b)]) Tryd.func141 rfl 6 rfl (Nat.le_of_ble_eq_true rfl) ?_
 intro ρ0 hb
 have T0 : ρ0 0 = (.bool (b) : Value) := hb.get 0
 clear hb
 have hE := Ext.refl w
 refine sk fun K1 hK1 => (wt (oM rfl (oS rfl (Yk.notB T0 (oZ (tN (hK1 _ _ ?_)))))))
 refine wpF_condB (!(b)) (vr (.bool (!(b))) rfl) (fun hc0 => ?_) (fun hc0 => ?_)
 ·refine wt (oS rfl (Yk.run (v := .agg #[]) (by kernel_rfl) (oS rfl (Yk.mkIface (wr57_ty146).choose_spec (vr (.agg #[]) rfl) (oP rfl (Yp.panic (vr (.iface 146 (.agg #[])) rfl) (postP_panic ?_)))))))
  exact .inr ⟨_, rfl, rfl, by simpa using hc0, hE⟩
 refine wpF_skip (postP_end (fn := Tryd.f141) [] rfl [] (.tuple #[]) rfl trivial ?_)
 exact .inl ⟨_, rfl, rfl, by simpa using hc0, hE⟩

theorem byteR_any (w : World) (r : Nat) (v : Value) (b : Bs) (i : Nat) (hb : w.heap[r]? = some (.cells (rdC (rdX v b (i))).toArray 150 (0, 0))) (hr : RB w v b) (hap : b = [] ∨ OB v r) (hi : i ≤ b.length) (hl : b.length ≤ 4611686018427387904) :
  Calls Tryd.prog 140 #[PQ r 0] w fun e w' => (∃ x, e = .returned x ∧ ∃ c n, byteP b i = some (c, n) ∧ x = B8 c ∧ w'.heap[r]? = some (.cells (rdC (rdX v b (n))).toArray 150 (0, 0)) ∧ w.grownBy w' (some r)) ∨ ∃ ch, e = .panicked ch ∧ byteP b i = none ∧ ch = [stopR] ∧ w.grownBy w' (some r) := by
 have hlr := (bl hb)
 have hgr := World.grownBy.refl w (some r)
 refine calls_of_wpP (args := [PQ r 0]) Tryd.func140 rfl 32 rfl (Nat.le_of_ble_eq_true rfl) ?_
 intro ρ0 hb
 have T0 : ρ0 0 = (PQ r 0 : Value) := hb.get 0
 clear hb
 have hE := Ext.refl w
 refine sk fun K1 hK1 => (wt (oA rfl (oZ ?_)))
 by_cases hlt : i < b.length
 ·have hP : byteP b i = some (b.getD i 0, i + 1) := if_pos hlt
  refine tN (hK1 _ _ (sk fun K2 hK2 => ?_))
  refine wpF_draw_endE 10 _ [Is (PQ r 0), Is (PQ r 0), Is (PQ r 1), Is (NI i), Is (PQ r 0), Is (PQ r 0), Is (PQ r 0), Is (v), Is (NI b.length), Is (.bool (true))] (by kernel_rfl) [3, 4, 5, 6, 7, 8, 9, 10, 11, 12, 13] (by kernel_rfl) (by kernel_rfl) (by kernel_rfl) rfl rfl rfl (fun _ _ => trivial) (si10 trivial) ?hs1001 ?hQ1001
  case hs1001 =>
   refine ⟨?_, ?_, ?_, ?_, ?_, ?_, ?_, ?_, ?_, ?_, ?_, trivial⟩
   ·refine stepFL (stepN rfl fun σ w1 hC h => ?_)
    have e0 := (eqo (h 0 (by decide))).trans T0
    exact Yk.move e0 ⟨Ext.refl _, rfl⟩
   ·refine stepFL (stepN rfl fun σ w1 hC h => ?_)
    have e3 := eqo (h 3 (by decide))
    exact Yk.nilCheck e3 ⟨Ext.refl _, rfl⟩
   ·refine stepFL (stepN rfl fun σ w1 hC h => ?_)
    have e4 := eqo (h 4 (by decide))
    exact Yk.fieldAt wr57_fo150_1 e4 ⟨Ext.refl _, rfl⟩
   ·refine stepFL (stepN rfl fun σ w1 hC h => ?_)
    have e5 := eqo (h 5 (by decide))
    exact Yk.cell1 wr57_ty3 rfl e5 (cellAt (eb hC hb) (show (rdC (rdX v b (i)))[1]? = some (NI i : Value) from rd_g1 (rdX v b (i)))) ⟨Ext.refl _, rfl⟩
   ·refine stepFL (stepN rfl fun σ w1 hC h => ?_)
    have e0 := (eqo (h 0 (by decide))).trans T0
    exact Yk.move e0 ⟨Ext.refl _, rfl⟩
   ·refine stepFL (stepN rfl fun σ w1 hC h => ?_)
    have e7 := eqo (h 7 (by decide))
    exact Yk.nilCheck e7 ⟨Ext.refl _, rfl⟩
   ·refine stepFL (stepN rfl fun σ w1 hC h => ?_)
    have e8 := eqo (h 8 (by decide))
    exact Yk.fieldAt wr57_fo150_0 e8 ⟨Ext.refl _, rfl⟩
   ·refine stepFL (stepN rfl fun σ w1 hC h => ?_)
    have e9 := eqo (h 9 (by decide))
    exact Yk.cell1 wr57_ty26 rfl e9 (cellAt (eb hC hb) (show (rdC (rdX v b (i)))[0]? = some (v : Value) from rd_g0 (rdX v b (i)))) ⟨Ext.refl _, rfl⟩
   ·refine stepFL (stepN rfl fun σ w1 hC h => ?_)
    have e10 := eqo (h 10 (by decide))
    exact Yk.lenRB wr57_ty26 (RB.of (hr.keep (hE.trans hC)) e10) ⟨Ext.refl _, rfl⟩
   ·refine stepFL (stepN rfl fun σ w1 hC h => ?_)
    have e6 := eqo (h 6 (by decide))
    have e11 := eqo (h 11 (by decide))
    exact Yk.eqI (a := (i : Nat)) (b := (b.length : Nat)) e6 e11 (k_lss _ _ _ _) ⟨Ext.refl _, (congrArg Value.bool (decide_eq_true ((by omega))))⟩
   ·exact trivial
  intro ρ3 w4 hx5 he hf
  obtain ⟨-, -, -, -, -, -, -, -, -, k12, -⟩ := hf
  obtain ⟨T0, T2, -⟩ := he.hold [(0, _), (2, B8 (0))] ⟨T0, rfl, trivial⟩ rfl
  clear he
  have hb := eb hx5 hb
  have hgr : w.grownBy w4 (some r) := grownBy_trans hgr hx5.grown (fun _ e => by cases e)
  have hE := hE.trans hx5
  have T12 : ρ3 12 = .bool (true) := k12
  clear k12
  refine Yp.callA1 wr57_pl141 T12 ?_
  refine calls_either (needR_any _ (true)) ?_ ?_
  rotate_left
  ·
   rintro ch w8 ⟨rfl, hb, hx⟩
   refine thenF_panic (postP_panic ?_)
   cases hb
  rintro v_ w9 ⟨rfl, hb6, hx7⟩
  have hb := eb hx7 hb
  have hgr : w.grownBy w9 (some r) := grownBy_trans hgr hx7.grown (fun _ e => by cases e)
  have hE := hE.trans hx7
  intro ρ10 hu11
  have T0 : ρ10 0 = (PQ r 0 : Value) := (hu11 0 (by decide)).trans T0
  have T2 : ρ10 2 = (B8 (0) : Value) := (hu11 2 (by decide)).trans T2
  have hr := (hr.keep hE)
  refine tN (hK2 _ _ (sk fun K12 hK12 => (wt (oM rfl (oS rfl (Yk.nilCheck T0 (oS rfl (Yk.fieldAt wr57_fo150_1 (vr (PQ r 0) rfl) (oS rfl (Yk.cell1 wr57_ty3 rfl (vr (PQ r 1) rfl) (cellAt hb (show (rdC (rdX v b (i)))[1]? = some (NI i : Value) from rd_g1 (rdX v b (i)))) (oS rfl (Yk.bin (xv := NI i) (yv := NI 1) rfl rfl rfl (i64_add _ _ _ (by omega)) (oS rfl (Yk.nilCheck T0 (oS rfl (Yk.fieldAt wr57_fo150_1 (vr (PQ r 0) rfl) (oS rfl (Yk.storeC (i := 1) (v := NI ((i) + (1))) (vr (PQ r 1) rfl) (vr (NI ((i) + (1))) rfl) hb (by rw [rd_len]; decide) wr57_isz3 rfl rfl fun w13 hb14 hg15 hs16 => ?_))))))))))))))))))
  have hr := RB.keptE hr hg15 hap
  have hgr : w.grownBy w13 (some r) := grownBy_trans hgr hg15 (fun _ e => .inl e)
  clear hE
  clear hb
  have hb : w13.heap[r]? = some (.cells (rdC ((⟨b, (((i) + (1) : Nat) : Int)⟩, ⟨v⟩) : RdV)).toArray 150 (0, 0)) := blk_eq hb14 (rd_s1 (rdX v b (i)) (((i) + (1) : Nat) : Int)); clear hb14
  have hl17 := bl hb
  refine oZ (tN (hK12 _ _ (sk fun K18 hK18 => ?_)))
  refine wpF_draw [Is (PQ r 0), Is (PQ r 0), Is (PQ r 0), Is (v), Is (PQ r 0), Is (PQ r 0), Is (PQ r 1), Is (NI ((i) + (1))), Is (NI (((i) + (1)) - (1))), PCell (B8 (b.getD (((i) + (1)) - (1)) 0)), Is (B8 (b.getD (((i) + (1)) - (1)) 0)), Is (B8 (b.getD (((i) + (1)) - (1)) 0))] (by kernel_rfl) [21, 22, 23, 24, 25, 26, 27, 28, 29, 30, 31, 2] (by kernel_rfl) (by kernel_rfl) (si9 ⟨Stab.pcell _, (si2 trivial)⟩) ?hs2003 ?hQ2003
  case hs2003 =>
   refine ⟨?_, ?_, ?_, ?_, ?_, ?_, ?_, ?_, ?_, ?_, ?_, ?_, trivial⟩
   ·refine stepN rfl fun σ w1 hC h => ?_
    have e0 := (eqo (h 0 (by decide))).trans T0
    exact Yk.move e0 ⟨Ext.refl _, rfl⟩
   ·refine stepN rfl fun σ w1 hC h => ?_
    have e21 := eqo (h 21 (by decide))
    exact Yk.nilCheck e21 ⟨Ext.refl _, rfl⟩
   ·refine stepN rfl fun σ w1 hC h => ?_
    have e22 := eqo (h 22 (by decide))
    exact Yk.fieldAt wr57_fo150_0 e22 ⟨Ext.refl _, rfl⟩
   ·refine stepN rfl fun σ w1 hC h => ?_
    have e23 := eqo (h 23 (by decide))
    exact Yk.cell1 wr57_ty26 rfl e23 (cellAt (eb hC hb) (show (rdC ((⟨b, (((i) + (1) : Nat) : Int)⟩, ⟨v⟩) : RdV))[0]? = some (v : Value) from rd_g0 ((⟨b, (((i) + (1) : Nat) : Int)⟩, ⟨v⟩) : RdV))) ⟨Ext.refl _, rfl⟩
   ·refine stepN rfl fun σ w1 hC h => ?_
    have e0 := (eqo (h 0 (by decide))).trans T0
    exact Yk.move e0 ⟨Ext.refl _, rfl⟩
   ·refine stepN rfl fun σ w1 hC h => ?_
    have e25 := eqo (h 25 (by decide))
    exact Yk.nilCheck e25 ⟨Ext.refl _, rfl⟩
   ·refine stepN rfl fun σ w1 hC h => ?_
    have e26 := eqo (h 26 (by decide))
    exact Yk.fieldAt wr57_fo150_1 e26 ⟨Ext.refl _, rfl⟩
   ·refine stepN rfl fun σ w1 hC h => ?_
    have e27 := eqo (h 27 (by decide))
    exact Yk.cell1 wr57_ty3 rfl e27 (cellAt (eb hC hb) (show (rdC ((⟨b, (((i) + (1) : Nat) : Int)⟩, ⟨v⟩) : RdV))[1]? = some (NI ((i) + (1)) : Value) from rd_g1 ((⟨b, (((i) + (1) : Nat) : Int)⟩, ⟨v⟩) : RdV))) ⟨Ext.refl _, rfl⟩
   ·refine stepN rfl fun σ w1 hC h => ?_
    have e28 := eqo (h 28 (by decide))
    exact Yk.bin (xv := NI ((i) + (1))) (yv := NI 1) e28 rfl rfl (i64_sub _ _ _ (by omega) (by omega)) ⟨Ext.refl _, rfl⟩
   ·refine stepN rfl fun σ w1 hC h => ?_
    have e24 := eqo (h 24 (by decide))
    have e29 := eqo (h 29 (by decide))
    exact Yk.atRB (l := b) (i := ((i) + (1)) - (1)) wr57_ty26 wr57_sz5 (RB.of (hr.keep hC) e24) e29 (by omega) fun _ h => ⟨Ext.refl _, h⟩
   ·refine stepN rfl fun σ w1 hC h => ?_
    have e30 : (PCell (B8 (b.getD (((i) + (1)) - (1)) 0))) (σ 30) w1 := h 30 (by decide)
    exact Yk.loadC wr57_ty5 rfl e30 ⟨Ext.refl _, rfl⟩
   ·refine stepN rfl fun σ w1 hC h => ?_
    have e31 := eqo (h 31 (by decide))
    exact Yk.assign e31 ⟨Ext.refl _, rfl⟩
  intro ρ19 w20 hx21 he hf
  obtain ⟨-, -, -, -, -, -, -, -, -, -, -, k2, -⟩ := hf
  have T0 : ρ19 0 = PQ r 0 := he.at_ T0 rfl
  clear he
  have hr := hr.keep hx21
  have hgr : w.grownBy w20 (some r) := grownBy_trans hgr hx21.grown (fun _ e => by cases e)
  have hb := eb hx21 hb
  have T2 : ρ19 2 = B8 (b.getD (((i) + (1)) - (1)) 0) := k2
  clear k2
  refine tN (hK18 _ _ (wpF_ret (postP_ret (fn := Tryd.f140) _ rfl [B8 (b.getD (((i) + (1)) - (1)) 0)] (B8 (b.getD (((i) + (1)) - (1)) 0)) rfl ⟨T2, trivial⟩ ?_)))
  exact .inl ⟨_, rfl, _, _, hP, rfl, hb, hgr⟩
 have hP : byteP b i = none := if_neg hlt
 refine tN (hK1 _ _ (sk fun K22 hK22 => ?_))
 refine wpF_draw_endE 10 _ [Is (PQ r 0), Is (PQ r 0), Is (PQ r 1), Is (NI i), Is (PQ r 0), Is (PQ r 0), Is (PQ r 0), Is (v), Is (NI b.length), Is (.bool (false))] (by kernel_rfl) [3, 4, 5, 6, 7, 8, 9, 10, 11, 12, 13] (by kernel_rfl) (by kernel_rfl) (by kernel_rfl) rfl rfl rfl (fun _ _ => trivial) (si10 trivial) ?hs3001 ?hQ3001
 case hs3001 =>
  refine ⟨?_, ?_, ?_, ?_, ?_, ?_, ?_, ?_, ?_, ?_, ?_, trivial⟩
  ·refine stepFL (stepN rfl fun σ w1 hC h => ?_)
   have e0 := (eqo (h 0 (by decide))).trans T0
   exact Yk.move e0 ⟨Ext.refl _, rfl⟩
  ·refine stepFL (stepN rfl fun σ w1 hC h => ?_)
   have e3 := eqo (h 3 (by decide))
   exact Yk.nilCheck e3 ⟨Ext.refl _, rfl⟩
  ·refine stepFL (stepN rfl fun σ w1 hC h => ?_)
   have e4 := eqo (h 4 (by decide))
   exact Yk.fieldAt wr57_fo150_1 e4 ⟨Ext.refl _, rfl⟩
  ·refine stepFL (stepN rfl fun σ w1 hC h => ?_)
   have e5 := eqo (h 5 (by decide))
   exact Yk.cell1 wr57_ty3 rfl e5 (cellAt (eb hC hb) (show (rdC (rdX v b (i)))[1]? = some (NI i : Value) from rd_g1 (rdX v b (i)))) ⟨Ext.refl _, rfl⟩
  ·refine stepFL (stepN rfl fun σ w1 hC h => ?_)
   have e0 := (eqo (h 0 (by decide))).trans T0
   exact Yk.move e0 ⟨Ext.refl _, rfl⟩
  ·refine stepFL (stepN rfl fun σ w1 hC h => ?_)
   have e7 := eqo (h 7 (by decide))
   exact Yk.nilCheck e7 ⟨Ext.refl _, rfl⟩
  ·refine stepFL (stepN rfl fun σ w1 hC h => ?_)
   have e8 := eqo (h 8 (by decide))
   exact Yk.fieldAt wr57_fo150_0 e8 ⟨Ext.refl _, rfl⟩
  ·refine stepFL (stepN rfl fun σ w1 hC h => ?_)
   have e9 := eqo (h 9 (by decide))
   exact Yk.cell1 wr57_ty26 rfl e9 (cellAt (eb hC hb) (show (rdC (rdX v b (i)))[0]? = some (v : Value) from rd_g0 (rdX v b (i)))) ⟨Ext.refl _, rfl⟩
  ·refine stepFL (stepN rfl fun σ w1 hC h => ?_)
   have e10 := eqo (h 10 (by decide))
   exact Yk.lenRB wr57_ty26 (RB.of (hr.keep (hE.trans hC)) e10) ⟨Ext.refl _, rfl⟩
  ·refine stepFL (stepN rfl fun σ w1 hC h => ?_)
   have e6 := eqo (h 6 (by decide))
   have e11 := eqo (h 11 (by decide))
   exact Yk.eqI (a := (i : Nat)) (b := (b.length : Nat)) e6 e11 (k_lss _ _ _ _) ⟨Ext.refl _, (congrArg Value.bool (decide_eq_false ((by omega))))⟩
  ·exact trivial
 intro ρ23 w24 hx25 he hf
 obtain ⟨-, -, -, -, -, -, -, -, -, k12, -⟩ := hf
 obtain ⟨T0, T2, -⟩ := he.hold [(0, _), (2, B8 (0))] ⟨T0, rfl, trivial⟩ rfl
 clear he
 have hb := eb hx25 hb
 have hgr : w.grownBy w24 (some r) := grownBy_trans hgr hx25.grown (fun _ e => by cases e)
 have hE := hE.trans hx25
 have T12 : ρ23 12 = .bool (false) := k12
 clear k12
 refine Yp.callA1 wr57_pl141 T12 ?_
 refine calls_either (needR_any _ (false)) ?_ ?_
 rotate_left
 ·
  rintro ch w28 ⟨rfl, hb, hx⟩
  refine thenF_panic (postP_panic ?_)
  exact .inr ⟨_, rfl, hP, rfl, (grownBy_trans hgr hx.grown (fun _ e => by cases e))⟩
 rintro v_ w29 ⟨rfl, hb26, hx27⟩
 cases hb26

theorem numberR_any (w : World) (r : Nat) (v : Value) (b : Bs) (i : Nat) (hb : w.heap[r]? = some (.cells (rdC (rdX v b (i))).toArray 150 (0, 0))) (hr : RB w v b) (hap : b = [] ∨ OB v r) (hi : i ≤ b.length) (hl : b.length ≤ 4611686018427387904) (most : Nat) :
  Calls Tryd.prog 139 #[PQ r 0, NI most] w fun e w' => (∃ x, e = .returned x ∧ ∃ c n, numM b i most = some (c, n) ∧ x = NI c ∧ w'.heap[r]? = some (.cells (rdC (rdX v b (n))).toArray 150 (0, 0)) ∧ w.grownBy w' (some r)) ∨ ∃ ch, e = .panicked ch ∧ numM b i most = none ∧ ch = [stopR] ∧ w.grownBy w' (some r) := by
 have hlr := (bl hb)
 have hgr := World.grownBy.refl w (some r)
 refine calls_of_wpP (args := [PQ r 0, NI most]) Tryd.func139 rfl 34 rfl (Nat.le_of_ble_eq_true rfl) ?_
 intro ρ0 hb
 have T0 : ρ0 0 = (PQ r 0 : Value) := hb.get 0
 have T1 : ρ0 1 = (NI most : Value) := hb.get 1
 clear hb
 have hE := Ext.refl w
 refine sk fun K1 hK1 => (wt (oA rfl (oZ ?_)))
 rcases hd : lebDec 0 (b.drop i) with _ | ⟨xn, xk⟩
 ·have hP : numM b i most = none := by unfold numM numP; rw [hd]; rfl
  refine tN (hK1 _ _ (sk fun K2 hK2 => ?_))
  refine wpF_draw [Is (PQ r 0), Is (PQ r 0), Is (PQ r 0), Is (v), Is (PQ r 0), Is (PQ r 0), Is (PQ r 1), Is (NI i), Is (.tuple #[NI 0, NI 0, NI 6]), Is (.tuple #[NI 0, NI 0, NI 6]), Is (NI 0), Is (NI 0), Is (NI 6), Is (NI 0), Is (NI 0), Is (NI 6)] (by kernel_rfl) [9, 10, 11, 12, 13, 14, 15, 16, 17, 8, 18, 19, 20, 5, 6, 7] (by kernel_rfl) (by kernel_rfl) (si4 (si12 trivial)) ?hs1001 ?hQ1001
  case hs1001 =>
   refine ⟨?_, ?_, ?_, ?_, ?_, ?_, ?_, ?_, ?_, ?_, ?_, ?_, ?_, ?_, ?_, ?_, trivial⟩
   ·refine stepN rfl fun σ w1 hC h => ?_
    have e0 := (eqo (h 0 (by decide))).trans T0
    exact Yk.move e0 ⟨Ext.refl _, rfl⟩
   ·refine stepN rfl fun σ w1 hC h => ?_
    have e9 := eqo (h 9 (by decide))
    exact Yk.nilCheck e9 ⟨Ext.refl _, rfl⟩
   ·refine stepN rfl fun σ w1 hC h => ?_
    have e10 := eqo (h 10 (by decide))
    exact Yk.fieldAt wr57_fo150_0 e10 ⟨Ext.refl _, rfl⟩
   ·refine stepN rfl fun σ w1 hC h => ?_
    have e11 := eqo (h 11 (by decide))
    exact Yk.cell1 wr57_ty26 rfl e11 (cellAt (eb hC hb) (show (rdC (rdX v b (i)))[0]? = some (v : Value) from rd_g0 (rdX v b (i)))) ⟨Ext.refl _, rfl⟩
   ·refine stepN rfl fun σ w1 hC h => ?_
    have e0 := (eqo (h 0 (by decide))).trans T0
    exact Yk.move e0 ⟨Ext.refl _, rfl⟩
   ·refine stepN rfl fun σ w1 hC h => ?_
    have e13 := eqo (h 13 (by decide))
    exact Yk.nilCheck e13 ⟨Ext.refl _, rfl⟩
   ·refine stepN rfl fun σ w1 hC h => ?_
    have e14 := eqo (h 14 (by decide))
    exact Yk.fieldAt wr57_fo150_1 e14 ⟨Ext.refl _, rfl⟩
   ·refine stepN rfl fun σ w1 hC h => ?_
    have e15 := eqo (h 15 (by decide))
    exact Yk.cell1 wr57_ty3 rfl e15 (cellAt (eb hC hb) (show (rdC (rdX v b (i)))[1]? = some (NI i : Value) from rd_g1 (rdX v b (i)))) ⟨Ext.refl _, rfl⟩
   ·refine stepN rfl fun σ w1 hC h => ?_
    have e12 := eqo (h 12 (by decide))
    have e16 := eqo (h 16 (by decide))
    refine Yk.callA2 wr57_pl145 e12 e16 ?_
    refine ((show Calls _ _ _ _ (fun e w2 => e = .returned (.tuple #[NI 0, NI 0, NI 6]) ∧ Ext _ w2) from (get_in _ v b (hr.keep (hE.trans hC)) i hi).mono fun e w2 ⟨h1, h2⟩ => by subst h2; subst h1; refine ⟨?_, Ext.refl _⟩; rw [hd]; rfl)).mono ?_
    rintro e w2 ⟨rfl, hx⟩
    exact ⟨_, rfl, hx, rfl⟩
   ·refine stepN rfl fun σ w1 hC h => ?_
    have e17 := eqo (h 17 (by decide))
    exact Yk.move e17 ⟨Ext.refl _, rfl⟩
   ·refine stepN rfl fun σ w1 hC h => ?_
    have e8 := eqo (h 8 (by decide))
    exact Yk.extract (vs := [NI 0, NI 0, NI 6]) e8 (show _ = some (NI 0 : Value) from rfl) ⟨Ext.refl _, rfl⟩
   ·refine stepN rfl fun σ w1 hC h => ?_
    have e8 := eqo (h 8 (by decide))
    exact Yk.extract (vs := [NI 0, NI 0, NI 6]) e8 (show _ = some (NI 0 : Value) from rfl) ⟨Ext.refl _, rfl⟩
   ·refine stepN rfl fun σ w1 hC h => ?_
    have e8 := eqo (h 8 (by decide))
    exact Yk.extract (vs := [NI 0, NI 0, NI 6]) e8 (show _ = some (NI 6 : Value) from rfl) ⟨Ext.refl _, rfl⟩
   ·refine stepN rfl fun σ w1 hC h => ?_
    have e18 := eqo (h 18 (by decide))
    exact Yk.assign e18 ⟨Ext.refl _, rfl⟩
   ·refine stepN rfl fun σ w1 hC h => ?_
    have e19 := eqo (h 19 (by decide))
    exact Yk.assign e19 ⟨Ext.refl _, rfl⟩
   ·refine stepN rfl fun σ w1 hC h => ?_
    have e20 := eqo (h 20 (by decide))
    exact Yk.assign e20 ⟨Ext.refl _, rfl⟩
  intro ρ3 w4 hx5 he hf
  obtain ⟨-, -, -, -, -, -, -, -, -, -, -, -, -, k5, k6, k7, -⟩ := hf
  obtain ⟨T0, T1, T4, -⟩ := he.hold [(0, _), (1, _), (4, NI 0)] ⟨T0, T1, rfl, trivial⟩ rfl
  clear he
  have hb := eb hx5 hb
  have hgr : w.grownBy w4 (some r) := grownBy_trans hgr hx5.grown (fun _ e => by cases e)
  have hE := hE.trans hx5
  have T5 : ρ3 5 = NI 0 := k5
  have T6 : ρ3 6 = NI 0 := k6
  have T7 : ρ3 7 = NI 6 := k7
  clear k5 k6 k7
  refine tN (hK2 _ _ (sk fun K6 hK6 => (wt (oM rfl (oS rfl (Yk.eqI (a := (6 : Nat)) (b := (0 : Nat)) T7 rfl (k_eql _ _ _ _) (oM rfl (oN (d := 23) rfl rfl rfl (vr (.bool (false)) (congrArg Value.bool (decide_eq_false (by decide)))) rfl (oN (d := 23) rfl rfl rfl (vr (.bool (false)) (congrArg Value.bool (decide_eq_false (by decide)))) rfl (oN (d := 23) rfl rfl rfl (vr (.bool (false)) (congrArg Value.bool (decide_eq_false (by decide)))) rfl (oS rfl (Yk.pickF (vr (.bool (false)) (congrArg Value.bool (decide_eq_false (by decide)))) (vr (.bool (false)) rfl) (oP rfl (Yp.callA1 wr57_pl141 (vr (.bool (false)) rfl) ?_))))))))))))))
  refine calls_either (needR_any _ (false)) ?_ ?_
  rotate_left
  ·
   rintro ch w9 ⟨rfl, hb, hx⟩
   refine thenF_panic (postP_panic ?_)
   exact .inr ⟨_, rfl, hP, rfl, (grownBy_trans hgr hx.grown (fun _ e => by cases e))⟩
  rintro v_ w11 ⟨rfl, hb7, hx8⟩
  cases hb7
 by_cases hm : xn ≤ most
 ·have hP : numM b i most = some (xn, i + xk) := by unfold numM numP; rw [hd]; exact if_pos hm
  refine tN (hK1 _ _ (sk fun K12 hK12 => ?_))
  refine wpF_draw [Is (PQ r 0), Is (PQ r 0), Is (PQ r 0), Is (v), Is (PQ r 0), Is (PQ r 0), Is (PQ r 1), Is (NI i), Is (.tuple #[NI xn, NI (i + xk), NI 0]), Is (.tuple #[NI xn, NI (i + xk), NI 0]), Is (NI xn), Is (NI (i + xk)), Is (NI 0), Is (NI xn), Is (NI (i + xk)), Is (NI 0)] (by kernel_rfl) [9, 10, 11, 12, 13, 14, 15, 16, 17, 8, 18, 19, 20, 5, 6, 7] (by kernel_rfl) (by kernel_rfl) (si4 (si12 trivial)) ?hs2001 ?hQ2001
  case hs2001 =>
   refine ⟨?_, ?_, ?_, ?_, ?_, ?_, ?_, ?_, ?_, ?_, ?_, ?_, ?_, ?_, ?_, ?_, trivial⟩
   ·refine stepN rfl fun σ w1 hC h => ?_
    have e0 := (eqo (h 0 (by decide))).trans T0
    exact Yk.move e0 ⟨Ext.refl _, rfl⟩
   ·refine stepN rfl fun σ w1 hC h => ?_
    have e9 := eqo (h 9 (by decide))
    exact Yk.nilCheck e9 ⟨Ext.refl _, rfl⟩
   ·refine stepN rfl fun σ w1 hC h => ?_
    have e10 := eqo (h 10 (by decide))
    exact Yk.fieldAt wr57_fo150_0 e10 ⟨Ext.refl _, rfl⟩
   ·refine stepN rfl fun σ w1 hC h => ?_
    have e11 := eqo (h 11 (by decide))
    exact Yk.cell1 wr57_ty26 rfl e11 (cellAt (eb hC hb) (show (rdC (rdX v b (i)))[0]? = some (v : Value) from rd_g0 (rdX v b (i)))) ⟨Ext.refl _, rfl⟩
   ·refine stepN rfl fun σ w1 hC h => ?_
    have e0 := (eqo (h 0 (by decide))).trans T0
    exact Yk.move e0 ⟨Ext.refl _, rfl⟩
   ·refine stepN rfl fun σ w1 hC h => ?_
    have e13 := eqo (h 13 (by decide))
    exact Yk.nilCheck e13 ⟨Ext.refl _, rfl⟩
   ·refine stepN rfl fun σ w1 hC h => ?_
    have e14 := eqo (h 14 (by decide))
    exact Yk.fieldAt wr57_fo150_1 e14 ⟨Ext.refl _, rfl⟩
   ·refine stepN rfl fun σ w1 hC h => ?_
    have e15 := eqo (h 15 (by decide))
    exact Yk.cell1 wr57_ty3 rfl e15 (cellAt (eb hC hb) (show (rdC (rdX v b (i)))[1]? = some (NI i : Value) from rd_g1 (rdX v b (i)))) ⟨Ext.refl _, rfl⟩
   ·refine stepN rfl fun σ w1 hC h => ?_
    have e12 := eqo (h 12 (by decide))
    have e16 := eqo (h 16 (by decide))
    refine Yk.callA2 wr57_pl145 e12 e16 ?_
    refine ((show Calls _ _ _ _ (fun e w2 => e = .returned (.tuple #[NI xn, NI (i + xk), NI 0]) ∧ Ext _ w2) from (get_in _ v b (hr.keep (hE.trans hC)) i hi).mono fun e w2 ⟨h1, h2⟩ => by subst h2; subst h1; refine ⟨?_, Ext.refl _⟩; rw [hd]; rfl)).mono ?_
    rintro e w2 ⟨rfl, hx⟩
    exact ⟨_, rfl, hx, rfl⟩
   ·refine stepN rfl fun σ w1 hC h => ?_
    have e17 := eqo (h 17 (by decide))
    exact Yk.move e17 ⟨Ext.refl _, rfl⟩
   ·refine stepN rfl fun σ w1 hC h => ?_
    have e8 := eqo (h 8 (by decide))
    exact Yk.extract (vs := [NI xn, NI (i + xk), NI 0]) e8 (show _ = some (NI xn : Value) from rfl) ⟨Ext.refl _, rfl⟩
   ·refine stepN rfl fun σ w1 hC h => ?_
    have e8 := eqo (h 8 (by decide))
    exact Yk.extract (vs := [NI xn, NI (i + xk), NI 0]) e8 (show _ = some (NI (i + xk) : Value) from rfl) ⟨Ext.refl _, rfl⟩
   ·refine stepN rfl fun σ w1 hC h => ?_
    have e8 := eqo (h 8 (by decide))
    exact Yk.extract (vs := [NI xn, NI (i + xk), NI 0]) e8 (show _ = some (NI 0 : Value) from rfl) ⟨Ext.refl _, rfl⟩
   ·refine stepN rfl fun σ w1 hC h => ?_
    have e18 := eqo (h 18 (by decide))
    exact Yk.assign e18 ⟨Ext.refl _, rfl⟩
   ·refine stepN rfl fun σ w1 hC h => ?_
    have e19 := eqo (h 19 (by decide))
    exact Yk.assign e19 ⟨Ext.refl _, rfl⟩
   ·refine stepN rfl fun σ w1 hC h => ?_
    have e20 := eqo (h 20 (by decide))
    exact Yk.assign e20 ⟨Ext.refl _, rfl⟩
  intro ρ13 w14 hx15 he hf
  obtain ⟨-, -, -, -, -, -, -, -, -, -, -, -, -, k5, k6, k7, -⟩ := hf
  obtain ⟨T0, T1, T4, -⟩ := he.hold [(0, _), (1, _), (4, NI 0)] ⟨T0, T1, rfl, trivial⟩ rfl
  clear he
  have hb := eb hx15 hb
  have hgr : w.grownBy w14 (some r) := grownBy_trans hgr hx15.grown (fun _ e => by cases e)
  have hE := hE.trans hx15
  have T5 : ρ13 5 = NI xn := k5
  have T6 : ρ13 6 = NI (i + xk) := k6
  have T7 : ρ13 7 = NI 0 := k7
  clear k5 k6 k7
  refine tN (hK12 _ _ (sk fun K16 hK16 => (wt (oM rfl (oS rfl (Yk.eqI (a := (0 : Nat)) (b := (0 : Nat)) T7 rfl (k_eql _ _ _ _) (oM rfl (oY (d := 23) rfl rfl (vr (.bool (true)) (congrArg Value.bool (decide_eq_true (rfl)))) (Yk.move T5 (oY (d := 23) rfl rfl (vr (.bool (true)) (congrArg Value.bool (decide_eq_true (rfl)))) (Yk.move T1 (oY (d := 23) rfl rfl (vr (.bool (true)) (congrArg Value.bool (decide_eq_true (rfl)))) (Yk.eqI (a := (xn : Nat)) (b := (most : Nat)) rfl rfl (k_leq _ _ _ _) (oS rfl (Yk.pickT (vr (.bool (true)) (congrArg Value.bool (decide_eq_true (rfl)))) (vr (.bool (true)) (congrArg Value.bool (decide_eq_true (hm)))) (oP rfl (Yp.callA1 wr57_pl141 (vr (.bool (true)) rfl) ?_)))))))))))))))))
  refine calls_either (needR_any _ (true)) ?_ ?_
  rotate_left
  ·
   rintro ch w19 ⟨rfl, hb, hx⟩
   refine thenF_panic (postP_panic ?_)
   cases hb
  rintro v_ w21 ⟨rfl, hb17, hx18⟩
  have hb := eb hx18 hb
  have hgr : w.grownBy w21 (some r) := grownBy_trans hgr hx18.grown (fun _ e => by cases e)
  have hE := hE.trans hx18
  refine oZ (tN (hK16 _ _ (sk fun K22 hK22 => (wt (oM rfl (oM rfl (oS rfl (Yk.nilCheck T0 (oS rfl (Yk.fieldAt wr57_fo150_1 (vr (PQ r 0) rfl) (oS rfl (Yk.storeC (i := 1) (v := NI (i + xk)) (vr (PQ r 1) rfl) T6 hb (by rw [rd_len]; decide) wr57_isz3 rfl rfl fun w23 hb24 hg25 hs26 => ?_))))))))))))
  have hgr : w.grownBy w23 (some r) := grownBy_trans hgr hg25 (fun _ e => .inl e)
  clear hE
  clear hb
  have hb : w23.heap[r]? = some (.cells (rdC ((⟨b, ((i + xk : Nat) : Int)⟩, ⟨v⟩) : RdV)).toArray 150 (0, 0)) := blk_eq hb24 (rd_s1 (rdX v b (i)) ((i + xk : Nat) : Int)); clear hb24
  have hl27 := bl hb
  refine oZ (tN (hK22 _ _ (sk fun K28 hK28 => (wt (oM rfl (oA rfl (oZ (tN (hK28 _ _ (wpF_ret (postP_ret (fn := Tryd.f139) _ rfl [NI xn] (NI xn) rfl ⟨T5, trivial⟩ ?_)))))))))))
  exact .inl ⟨_, rfl, _, _, hP, rfl, hb, hgr⟩
 have hP : numM b i most = none := by unfold numM numP; rw [hd]; exact if_neg hm
 refine tN (hK1 _ _ (sk fun K29 hK29 => ?_))
 refine wpF_draw [Is (PQ r 0), Is (PQ r 0), Is (PQ r 0), Is (v), Is (PQ r 0), Is (PQ r 0), Is (PQ r 1), Is (NI i), Is (.tuple #[NI xn, NI (i + xk), NI 0]), Is (.tuple #[NI xn, NI (i + xk), NI 0]), Is (NI xn), Is (NI (i + xk)), Is (NI 0), Is (NI xn), Is (NI (i + xk)), Is (NI 0)] (by kernel_rfl) [9, 10, 11, 12, 13, 14, 15, 16, 17, 8, 18, 19, 20, 5, 6, 7] (by kernel_rfl) (by kernel_rfl) (si4 (si12 trivial)) ?hs3001 ?hQ3001
 case hs3001 =>
  refine ⟨?_, ?_, ?_, ?_, ?_, ?_, ?_, ?_, ?_, ?_, ?_, ?_, ?_, ?_, ?_, ?_, trivial⟩
  ·refine stepN rfl fun σ w1 hC h => ?_
   have e0 := (eqo (h 0 (by decide))).trans T0
   exact Yk.move e0 ⟨Ext.refl _, rfl⟩
  ·refine stepN rfl fun σ w1 hC h => ?_
   have e9 := eqo (h 9 (by decide))
   exact Yk.nilCheck e9 ⟨Ext.refl _, rfl⟩
  ·refine stepN rfl fun σ w1 hC h => ?_
   have e10 := eqo (h 10 (by decide))
   exact Yk.fieldAt wr57_fo150_0 e10 ⟨Ext.refl _, rfl⟩
  ·refine stepN rfl fun σ w1 hC h => ?_
   have e11 := eqo (h 11 (by decide))
   exact Yk.cell1 wr57_ty26 rfl e11 (cellAt (eb hC hb) (show (rdC (rdX v b (i)))[0]? = some (v : Value) from rd_g0 (rdX v b (i)))) ⟨Ext.refl _, rfl⟩
  ·refine stepN rfl fun σ w1 hC h => ?_
   have e0 := (eqo (h 0 (by decide))).trans T0
   exact Yk.move e0 ⟨Ext.refl _, rfl⟩
  ·refine stepN rfl fun σ w1 hC h => ?_
   have e13 := eqo (h 13 (by decide))
   exact Yk.nilCheck e13 ⟨Ext.refl _, rfl⟩
  ·refine stepN rfl fun σ w1 hC h => ?_
   have e14 := eqo (h 14 (by decide))
   exact Yk.fieldAt wr57_fo150_1 e14 ⟨Ext.refl _, rfl⟩
  ·refine stepN rfl fun σ w1 hC h => ?_
   have e15 := eqo (h 15 (by decide))
   exact Yk.cell1 wr57_ty3 rfl e15 (cellAt (eb hC hb) (show (rdC (rdX v b (i)))[1]? = some (NI i : Value) from rd_g1 (rdX v b (i)))) ⟨Ext.refl _, rfl⟩
  ·refine stepN rfl fun σ w1 hC h => ?_
   have e12 := eqo (h 12 (by decide))
   have e16 := eqo (h 16 (by decide))
   refine Yk.callA2 wr57_pl145 e12 e16 ?_
   refine ((show Calls _ _ _ _ (fun e w2 => e = .returned (.tuple #[NI xn, NI (i + xk), NI 0]) ∧ Ext _ w2) from (get_in _ v b (hr.keep (hE.trans hC)) i hi).mono fun e w2 ⟨h1, h2⟩ => by subst h2; subst h1; refine ⟨?_, Ext.refl _⟩; rw [hd]; rfl)).mono ?_
   rintro e w2 ⟨rfl, hx⟩
   exact ⟨_, rfl, hx, rfl⟩
  ·refine stepN rfl fun σ w1 hC h => ?_
   have e17 := eqo (h 17 (by decide))
   exact Yk.move e17 ⟨Ext.refl _, rfl⟩
  ·refine stepN rfl fun σ w1 hC h => ?_
   have e8 := eqo (h 8 (by decide))
   exact Yk.extract (vs := [NI xn, NI (i + xk), NI 0]) e8 (show _ = some (NI xn : Value) from rfl) ⟨Ext.refl _, rfl⟩
  ·refine stepN rfl fun σ w1 hC h => ?_
   have e8 := eqo (h 8 (by decide))
   exact Yk.extract (vs := [NI xn, NI (i + xk), NI 0]) e8 (show _ = some (NI (i + xk) : Value) from rfl) ⟨Ext.refl _, rfl⟩
  ·refine stepN rfl fun σ w1 hC h => ?_
   have e8 := eqo (h 8 (by decide))
   exact Yk.extract (vs := [NI xn, NI (i + xk), NI 0]) e8 (show _ = some (NI 0 : Value) from rfl) ⟨Ext.refl _, rfl⟩
  ·refine stepN rfl fun σ w1 hC h => ?_
   have e18 := eqo (h 18 (by decide))
   exact Yk.assign e18 ⟨Ext.refl _, rfl⟩
  ·refine stepN rfl fun σ w1 hC h => ?_
   have e19 := eqo (h 19 (by decide))
   exact Yk.assign e19 ⟨Ext.refl _, rfl⟩
  ·refine stepN rfl fun σ w1 hC h => ?_
   have e20 := eqo (h 20 (by decide))
   exact Yk.assign e20 ⟨Ext.refl _, rfl⟩
 intro ρ30 w31 hx32 he hf
 obtain ⟨-, -, -, -, -, -, -, -, -, -, -, -, -, k5, k6, k7, -⟩ := hf
 obtain ⟨T0, T1, T4, -⟩ := he.hold [(0, _), (1, _), (4, NI 0)] ⟨T0, T1, rfl, trivial⟩ rfl
 clear he
 have hb := eb hx32 hb
 have hgr : w.grownBy w31 (some r) := grownBy_trans hgr hx32.grown (fun _ e => by cases e)
 have hE := hE.trans hx32
 have T5 : ρ30 5 = NI xn := k5
 have T6 : ρ30 6 = NI (i + xk) := k6
 have T7 : ρ30 7 = NI 0 := k7
 clear k5 k6 k7
 refine tN (hK29 _ _ (sk fun K33 hK33 => (wt (oM rfl (oS rfl (Yk.eqI (a := (0 : Nat)) (b := (0 : Nat)) T7 rfl (k_eql _ _ _ _) (oM rfl (oY (d := 23) rfl rfl (vr (.bool (true)) (congrArg Value.bool (decide_eq_true (rfl)))) (Yk.move T5 (oY (d := 23) rfl rfl (vr (.bool (true)) (congrArg Value.bool (decide_eq_true (rfl)))) (Yk.move T1 (oY (d := 23) rfl rfl (vr (.bool (true)) (congrArg Value.bool (decide_eq_true (rfl)))) (Yk.eqI (a := (xn : Nat)) (b := (most : Nat)) rfl rfl (k_leq _ _ _ _) (oS rfl (Yk.pickT (vr (.bool (true)) (congrArg Value.bool (decide_eq_true (rfl)))) (vr (.bool (false)) (congrArg Value.bool (decide_eq_false (hm)))) (oP rfl (Yp.callA1 wr57_pl141 (vr (.bool (false)) rfl) ?_)))))))))))))))))
 refine calls_either (needR_any _ (false)) ?_ ?_
 rotate_left
 ·
  rintro ch w36 ⟨rfl, hb, hx⟩
  refine thenF_panic (postP_panic ?_)
  exact .inr ⟨_, rfl, hP, rfl, (grownBy_trans hgr hx.grown (fun _ e => by cases e))⟩
 rintro v_ w38 ⟨rfl, hb34, hx35⟩
 cases hb34

theorem textR_any (w : World) (r : Nat) (v : Value) (b : Bs) (i : Nat) (hb : w.heap[r]? = some (.cells (rdC (rdX v b (i))).toArray 150 (0, 0))) (hr : RB w v b) (hap : b = [] ∨ OB v r) (hi : i ≤ b.length) (hl : b.length ≤ 4611686018427387904) :
  Calls Tryd.prog 137 #[PQ r 0] w fun e w' => (∃ x, e = .returned x ∧ ∃ c n, txtP b i 256 = some (c, n) ∧ x = St c ∧ w'.heap[r]? = some (.cells (rdC (rdX v b (n))).toArray 150 (0, 0)) ∧ w.grownBy w' (some r)) ∨ ∃ ch, e = .panicked ch ∧ txtP b i 256 = none ∧ ch = [stopR] ∧ w.grownBy w' (some r) := by
 have hlr := (bl hb)
 have hgr := World.grownBy.refl w (some r)
 refine calls_of_wpP (args := [PQ r 0]) Tryd.func137 rfl 27 rfl (Nat.le_of_ble_eq_true rfl) ?_
 intro ρ0 hb
 have T0 : ρ0 0 = (PQ r 0 : Value) := hb.get 0
 clear hb
 have hE := Ext.refl w
 refine sk fun K1 hK1 => (wt (oA rfl (oZ ?_)))
 rcases hd : lebDec 0 (b.drop i) with _ | ⟨xn, xk⟩
 ·have hP : txtP b i 256 = none := by unfold txtP; rw [hd]
  refine tN (hK1 _ _ (sk fun K2 hK2 => ?_))
  refine wpF_draw [Is (PQ r 0), Is (PQ r 0), Is (PQ r 0), Is (v), Is (PQ r 0), Is (PQ r 0), Is (PQ r 1), Is (NI i), Is (.tuple #[St (([] : List UInt8)), NI 0, NI 6]), Is (.tuple #[St (([] : List UInt8)), NI 0, NI 6]), Is (St (([] : List UInt8))), Is (NI 0), Is (NI 6), Is (St (([] : List UInt8))), Is (NI 0), Is (NI 6)] (by kernel_rfl) [7, 8, 9, 10, 11, 12, 13, 14, 15, 6, 16, 17, 18, 3, 4, 5] (by kernel_rfl) (by kernel_rfl) (si4 (si12 trivial)) ?hs1001 ?hQ1001
  case hs1001 =>
   refine ⟨?_, ?_, ?_, ?_, ?_, ?_, ?_, ?_, ?_, ?_, ?_, ?_, ?_, ?_, ?_, ?_, trivial⟩
   ·refine stepN rfl fun σ w1 hC h => ?_
    have e0 := (eqo (h 0 (by decide))).trans T0
    exact Yk.move e0 ⟨Ext.refl _, rfl⟩
   ·refine stepN rfl fun σ w1 hC h => ?_
    have e7 := eqo (h 7 (by decide))
    exact Yk.nilCheck e7 ⟨Ext.refl _, rfl⟩
   ·refine stepN rfl fun σ w1 hC h => ?_
    have e8 := eqo (h 8 (by decide))
    exact Yk.fieldAt wr57_fo150_0 e8 ⟨Ext.refl _, rfl⟩
   ·refine stepN rfl fun σ w1 hC h => ?_
    have e9 := eqo (h 9 (by decide))
    exact Yk.cell1 wr57_ty26 rfl e9 (cellAt (eb hC hb) (show (rdC (rdX v b (i)))[0]? = some (v : Value) from rd_g0 (rdX v b (i)))) ⟨Ext.refl _, rfl⟩
   ·refine stepN rfl fun σ w1 hC h => ?_
    have e0 := (eqo (h 0 (by decide))).trans T0
    exact Yk.move e0 ⟨Ext.refl _, rfl⟩
   ·refine stepN rfl fun σ w1 hC h => ?_
    have e11 := eqo (h 11 (by decide))
    exact Yk.nilCheck e11 ⟨Ext.refl _, rfl⟩
   ·refine stepN rfl fun σ w1 hC h => ?_
    have e12 := eqo (h 12 (by decide))
    exact Yk.fieldAt wr57_fo150_1 e12 ⟨Ext.refl _, rfl⟩
   ·refine stepN rfl fun σ w1 hC h => ?_
    have e13 := eqo (h 13 (by decide))
    exact Yk.cell1 wr57_ty3 rfl e13 (cellAt (eb hC hb) (show (rdC (rdX v b (i)))[1]? = some (NI i : Value) from rd_g1 (rdX v b (i)))) ⟨Ext.refl _, rfl⟩
   ·refine stepN rfl fun σ w1 hC h => ?_
    have e10 := eqo (h 10 (by decide))
    have e14 := eqo (h 14 (by decide))
    refine Yk.callA3 wr57_pl146 e10 e14 (vr (NI 256) rfl) ?_
    refine ((show Calls _ _ _ _ (fun e w2 => e = .returned (.tuple #[St (([] : List UInt8)), NI 0, NI 6]) ∧ Ext _ w2) from (getText_in _ v b (hr.keep (hE.trans hC)) i hi 256).mono fun e w2 ⟨h1, h2⟩ => by subst h2; subst h1; refine ⟨?_, Ext.refl _⟩; unfold getTextRes; rw [hd]; simp only; rfl)).mono ?_
    rintro e w2 ⟨rfl, hx⟩
    exact ⟨_, rfl, hx, rfl⟩
   ·refine stepN rfl fun σ w1 hC h => ?_
    have e15 := eqo (h 15 (by decide))
    exact Yk.move e15 ⟨Ext.refl _, rfl⟩
   ·refine stepN rfl fun σ w1 hC h => ?_
    have e6 := eqo (h 6 (by decide))
    exact Yk.extract (vs := [St (([] : List UInt8)), NI 0, NI 6]) e6 (show _ = some (St (([] : List UInt8)) : Value) from rfl) ⟨Ext.refl _, rfl⟩
   ·refine stepN rfl fun σ w1 hC h => ?_
    have e6 := eqo (h 6 (by decide))
    exact Yk.extract (vs := [St (([] : List UInt8)), NI 0, NI 6]) e6 (show _ = some (NI 0 : Value) from rfl) ⟨Ext.refl _, rfl⟩
   ·refine stepN rfl fun σ w1 hC h => ?_
    have e6 := eqo (h 6 (by decide))
    exact Yk.extract (vs := [St (([] : List UInt8)), NI 0, NI 6]) e6 (show _ = some (NI 6 : Value) from rfl) ⟨Ext.refl _, rfl⟩
   ·refine stepN rfl fun σ w1 hC h => ?_
    have e16 := eqo (h 16 (by decide))
    exact Yk.assign e16 ⟨Ext.refl _, rfl⟩
   ·refine stepN rfl fun σ w1 hC h => ?_
    have e17 := eqo (h 17 (by decide))
    exact Yk.assign e17 ⟨Ext.refl _, rfl⟩
   ·refine stepN rfl fun σ w1 hC h => ?_
    have e18 := eqo (h 18 (by decide))
    exact Yk.assign e18 ⟨Ext.refl _, rfl⟩
  intro ρ3 w4 hx5 he hf
  obtain ⟨-, -, -, -, -, -, -, -, -, -, -, -, -, k3, k4, k5, -⟩ := hf
  obtain ⟨T0, T2, -⟩ := he.hold [(0, _), (2, St (([] : List UInt8)))] ⟨T0, rfl, trivial⟩ rfl
  clear he
  have hb := eb hx5 hb
  have hgr : w.grownBy w4 (some r) := grownBy_trans hgr hx5.grown (fun _ e => by cases e)
  have hE := hE.trans hx5
  have T3 : ρ3 3 = St (([] : List UInt8)) := k3
  have T4 : ρ3 4 = NI 0 := k4
  have T5 : ρ3 5 = NI 6 := k5
  clear k3 k4 k5
  refine tN (hK2 _ _ (sk fun K6 hK6 => (wt (oM rfl (oS rfl (Yk.eqI (a := (6 : Nat)) (b := (0 : Nat)) T5 rfl (k_eql _ _ _ _) (oP rfl (Yp.callA1 wr57_pl141 (vr (.bool (decide ((6 : Nat) = (0)))) rfl) ?_))))))))
  refine calls_either (needR_any _ (decide ((6 : Nat) = (0)))) ?_ ?_
  rotate_left
  ·
   rintro ch w9 ⟨rfl, hb, hx⟩
   refine thenF_panic (postP_panic ?_)
   have hno := of_decide_eq_false hb
   exact .inr ⟨_, rfl, hP, rfl, (grownBy_trans hgr hx.grown (fun _ e => by cases e))⟩
  rintro v_ w11 ⟨rfl, hb7, hx8⟩
  have hb := eb hx8 hb
  have hgr : w.grownBy w11 (some r) := grownBy_trans hgr hx8.grown (fun _ e => by cases e)
  have hE := hE.trans hx8
  have hn12 := of_decide_eq_true hb7
  refine oZ (tN (hK6 _ _ (sk fun K13 hK13 => (wt (oM rfl (oM rfl (oS rfl (Yk.nilCheck T0 (oS rfl (Yk.fieldAt wr57_fo150_1 (vr (PQ r 0) rfl) (oS rfl (Yk.storeC (i := 1) (v := NI 0) (vr (PQ r 1) rfl) T4 hb (by rw [rd_len]; decide) wr57_isz3 rfl rfl fun w14 hb15 hg16 hs17 => ?_))))))))))))
  have hgr : w.grownBy w14 (some r) := grownBy_trans hgr hg16 (fun _ e => .inl e)
  clear hE
  clear hb
  have hb : w14.heap[r]? = some (.cells (rdC ((⟨b, ((0 : Nat) : Int)⟩, ⟨v⟩) : RdV)).toArray 150 (0, 0)) := blk_eq hb15 (rd_s1 (rdX v b (i)) ((0 : Nat) : Int)); clear hb15
  have hl18 := bl hb
  refine oZ (tN (hK13 _ _ (sk fun K19 hK19 => (wt (oM rfl (oA rfl (oZ (tN (hK19 _ _ (wpF_ret (postP_ret (fn := Tryd.f137) _ rfl [St (([] : List UInt8))] (St (([] : List UInt8))) rfl ⟨T3, trivial⟩ ?_)))))))))))
  omega
 by_cases hm : 256 < xn
 ·have hP : txtP b i 256 = none := by unfold txtP; rw [hd]; exact if_pos hm
  refine tN (hK1 _ _ (sk fun K20 hK20 => ?_))
  refine wpF_draw [Is (PQ r 0), Is (PQ r 0), Is (PQ r 0), Is (v), Is (PQ r 0), Is (PQ r 0), Is (PQ r 1), Is (NI i), Is (.tuple #[St (([] : List UInt8)), NI 0, NI 2]), Is (.tuple #[St (([] : List UInt8)), NI 0, NI 2]), Is (St (([] : List UInt8))), Is (NI 0), Is (NI 2), Is (St (([] : List UInt8))), Is (NI 0), Is (NI 2)] (by kernel_rfl) [7, 8, 9, 10, 11, 12, 13, 14, 15, 6, 16, 17, 18, 3, 4, 5] (by kernel_rfl) (by kernel_rfl) (si4 (si12 trivial)) ?hs2001 ?hQ2001
  case hs2001 =>
   refine ⟨?_, ?_, ?_, ?_, ?_, ?_, ?_, ?_, ?_, ?_, ?_, ?_, ?_, ?_, ?_, ?_, trivial⟩
   ·refine stepN rfl fun σ w1 hC h => ?_
    have e0 := (eqo (h 0 (by decide))).trans T0
    exact Yk.move e0 ⟨Ext.refl _, rfl⟩
   ·refine stepN rfl fun σ w1 hC h => ?_
    have e7 := eqo (h 7 (by decide))
    exact Yk.nilCheck e7 ⟨Ext.refl _, rfl⟩
   ·refine stepN rfl fun σ w1 hC h => ?_
    have e8 := eqo (h 8 (by decide))
    exact Yk.fieldAt wr57_fo150_0 e8 ⟨Ext.refl _, rfl⟩
   ·refine stepN rfl fun σ w1 hC h => ?_
    have e9 := eqo (h 9 (by decide))
    exact Yk.cell1 wr57_ty26 rfl e9 (cellAt (eb hC hb) (show (rdC (rdX v b (i)))[0]? = some (v : Value) from rd_g0 (rdX v b (i)))) ⟨Ext.refl _, rfl⟩
   ·refine stepN rfl fun σ w1 hC h => ?_
    have e0 := (eqo (h 0 (by decide))).trans T0
    exact Yk.move e0 ⟨Ext.refl _, rfl⟩
   ·refine stepN rfl fun σ w1 hC h => ?_
    have e11 := eqo (h 11 (by decide))
    exact Yk.nilCheck e11 ⟨Ext.refl _, rfl⟩
   ·refine stepN rfl fun σ w1 hC h => ?_
    have e12 := eqo (h 12 (by decide))
    exact Yk.fieldAt wr57_fo150_1 e12 ⟨Ext.refl _, rfl⟩
   ·refine stepN rfl fun σ w1 hC h => ?_
    have e13 := eqo (h 13 (by decide))
    exact Yk.cell1 wr57_ty3 rfl e13 (cellAt (eb hC hb) (show (rdC (rdX v b (i)))[1]? = some (NI i : Value) from rd_g1 (rdX v b (i)))) ⟨Ext.refl _, rfl⟩
   ·refine stepN rfl fun σ w1 hC h => ?_
    have e10 := eqo (h 10 (by decide))
    have e14 := eqo (h 14 (by decide))
    refine Yk.callA3 wr57_pl146 e10 e14 (vr (NI 256) rfl) ?_
    refine ((show Calls _ _ _ _ (fun e w2 => e = .returned (.tuple #[St (([] : List UInt8)), NI 0, NI 2]) ∧ Ext _ w2) from (getText_in _ v b (hr.keep (hE.trans hC)) i hi 256).mono fun e w2 ⟨h1, h2⟩ => by subst h2; subst h1; refine ⟨?_, Ext.refl _⟩; unfold getTextRes; rw [hd]; simp only; rw [if_pos (by omega)]; rfl)).mono ?_
    rintro e w2 ⟨rfl, hx⟩
    exact ⟨_, rfl, hx, rfl⟩
   ·refine stepN rfl fun σ w1 hC h => ?_
    have e15 := eqo (h 15 (by decide))
    exact Yk.move e15 ⟨Ext.refl _, rfl⟩
   ·refine stepN rfl fun σ w1 hC h => ?_
    have e6 := eqo (h 6 (by decide))
    exact Yk.extract (vs := [St (([] : List UInt8)), NI 0, NI 2]) e6 (show _ = some (St (([] : List UInt8)) : Value) from rfl) ⟨Ext.refl _, rfl⟩
   ·refine stepN rfl fun σ w1 hC h => ?_
    have e6 := eqo (h 6 (by decide))
    exact Yk.extract (vs := [St (([] : List UInt8)), NI 0, NI 2]) e6 (show _ = some (NI 0 : Value) from rfl) ⟨Ext.refl _, rfl⟩
   ·refine stepN rfl fun σ w1 hC h => ?_
    have e6 := eqo (h 6 (by decide))
    exact Yk.extract (vs := [St (([] : List UInt8)), NI 0, NI 2]) e6 (show _ = some (NI 2 : Value) from rfl) ⟨Ext.refl _, rfl⟩
   ·refine stepN rfl fun σ w1 hC h => ?_
    have e16 := eqo (h 16 (by decide))
    exact Yk.assign e16 ⟨Ext.refl _, rfl⟩
   ·refine stepN rfl fun σ w1 hC h => ?_
    have e17 := eqo (h 17 (by decide))
    exact Yk.assign e17 ⟨Ext.refl _, rfl⟩
   ·refine stepN rfl fun σ w1 hC h => ?_
    have e18 := eqo (h 18 (by decide))
    exact Yk.assign e18 ⟨Ext.refl _, rfl⟩
  intro ρ21 w22 hx23 he hf
  obtain ⟨-, -, -, -, -, -, -, -, -, -, -, -, -, k3, k4, k5, -⟩ := hf
  obtain ⟨T0, T2, -⟩ := he.hold [(0, _), (2, St (([] : List UInt8)))] ⟨T0, rfl, trivial⟩ rfl
  clear he
  have hb := eb hx23 hb
  have hgr : w.grownBy w22 (some r) := grownBy_trans hgr hx23.grown (fun _ e => by cases e)
  have hE := hE.trans hx23
  have T3 : ρ21 3 = St (([] : List UInt8)) := k3
  have T4 : ρ21 4 = NI 0 := k4
  have T5 : ρ21 5 = NI 2 := k5
  clear k3 k4 k5
  refine tN (hK20 _ _ (sk fun K24 hK24 => (wt (oM rfl (oS rfl (Yk.eqI (a := (2 : Nat)) (b := (0 : Nat)) T5 rfl (k_eql _ _ _ _) (oP rfl (Yp.callA1 wr57_pl141 (vr (.bool (decide ((2 : Nat) = (0)))) rfl) ?_))))))))
  refine calls_either (needR_any _ (decide ((2 : Nat) = (0)))) ?_ ?_
  rotate_left
  ·
   rintro ch w27 ⟨rfl, hb, hx⟩
   refine thenF_panic (postP_panic ?_)
   have hno := of_decide_eq_false hb
   exact .inr ⟨_, rfl, hP, rfl, (grownBy_trans hgr hx.grown (fun _ e => by cases e))⟩
  rintro v_ w29 ⟨rfl, hb25, hx26⟩
  have hb := eb hx26 hb
  have hgr : w.grownBy w29 (some r) := grownBy_trans hgr hx26.grown (fun _ e => by cases e)
  have hE := hE.trans hx26
  have hn30 := of_decide_eq_true hb25
  refine oZ (tN (hK24 _ _ (sk fun K31 hK31 => (wt (oM rfl (oM rfl (oS rfl (Yk.nilCheck T0 (oS rfl (Yk.fieldAt wr57_fo150_1 (vr (PQ r 0) rfl) (oS rfl (Yk.storeC (i := 1) (v := NI 0) (vr (PQ r 1) rfl) T4 hb (by rw [rd_len]; decide) wr57_isz3 rfl rfl fun w32 hb33 hg34 hs35 => ?_))))))))))))
  have hgr : w.grownBy w32 (some r) := grownBy_trans hgr hg34 (fun _ e => .inl e)
  clear hE
  clear hb
  have hb : w32.heap[r]? = some (.cells (rdC ((⟨b, ((0 : Nat) : Int)⟩, ⟨v⟩) : RdV)).toArray 150 (0, 0)) := blk_eq hb33 (rd_s1 (rdX v b (i)) ((0 : Nat) : Int)); clear hb33
  have hl36 := bl hb
  refine oZ (tN (hK31 _ _ (sk fun K37 hK37 => (wt (oM rfl (oA rfl (oZ (tN (hK37 _ _ (wpF_ret (postP_ret (fn := Tryd.f137) _ rfl [St (([] : List UInt8))] (St (([] : List UInt8))) rfl ⟨T3, trivial⟩ ?_)))))))))))
  omega
 by_cases hl2 : b.length < i + xk + xn
 ·have hP : txtP b i 256 = none := by unfold txtP; rw [hd]; exact (if_neg hm).trans (if_pos hl2)
  refine tN (hK1 _ _ (sk fun K38 hK38 => ?_))
  refine wpF_draw [Is (PQ r 0), Is (PQ r 0), Is (PQ r 0), Is (v), Is (PQ r 0), Is (PQ r 0), Is (PQ r 1), Is (NI i), Is (.tuple #[St (([] : List UInt8)), NI 0, NI 6]), Is (.tuple #[St (([] : List UInt8)), NI 0, NI 6]), Is (St (([] : List UInt8))), Is (NI 0), Is (NI 6), Is (St (([] : List UInt8))), Is (NI 0), Is (NI 6)] (by kernel_rfl) [7, 8, 9, 10, 11, 12, 13, 14, 15, 6, 16, 17, 18, 3, 4, 5] (by kernel_rfl) (by kernel_rfl) (si4 (si12 trivial)) ?hs3001 ?hQ3001
  case hs3001 =>
   refine ⟨?_, ?_, ?_, ?_, ?_, ?_, ?_, ?_, ?_, ?_, ?_, ?_, ?_, ?_, ?_, ?_, trivial⟩
   ·refine stepN rfl fun σ w1 hC h => ?_
    have e0 := (eqo (h 0 (by decide))).trans T0
    exact Yk.move e0 ⟨Ext.refl _, rfl⟩
   ·refine stepN rfl fun σ w1 hC h => ?_
    have e7 := eqo (h 7 (by decide))
    exact Yk.nilCheck e7 ⟨Ext.refl _, rfl⟩
   ·refine stepN rfl fun σ w1 hC h => ?_
    have e8 := eqo (h 8 (by decide))
    exact Yk.fieldAt wr57_fo150_0 e8 ⟨Ext.refl _, rfl⟩
   ·refine stepN rfl fun σ w1 hC h => ?_
    have e9 := eqo (h 9 (by decide))
    exact Yk.cell1 wr57_ty26 rfl e9 (cellAt (eb hC hb) (show (rdC (rdX v b (i)))[0]? = some (v : Value) from rd_g0 (rdX v b (i)))) ⟨Ext.refl _, rfl⟩
   ·refine stepN rfl fun σ w1 hC h => ?_
    have e0 := (eqo (h 0 (by decide))).trans T0
    exact Yk.move e0 ⟨Ext.refl _, rfl⟩
   ·refine stepN rfl fun σ w1 hC h => ?_
    have e11 := eqo (h 11 (by decide))
    exact Yk.nilCheck e11 ⟨Ext.refl _, rfl⟩
   ·refine stepN rfl fun σ w1 hC h => ?_
    have e12 := eqo (h 12 (by decide))
    exact Yk.fieldAt wr57_fo150_1 e12 ⟨Ext.refl _, rfl⟩
   ·refine stepN rfl fun σ w1 hC h => ?_
    have e13 := eqo (h 13 (by decide))
    exact Yk.cell1 wr57_ty3 rfl e13 (cellAt (eb hC hb) (show (rdC (rdX v b (i)))[1]? = some (NI i : Value) from rd_g1 (rdX v b (i)))) ⟨Ext.refl _, rfl⟩
   ·refine stepN rfl fun σ w1 hC h => ?_
    have e10 := eqo (h 10 (by decide))
    have e14 := eqo (h 14 (by decide))
    refine Yk.callA3 wr57_pl146 e10 e14 (vr (NI 256) rfl) ?_
    refine ((show Calls _ _ _ _ (fun e w2 => e = .returned (.tuple #[St (([] : List UInt8)), NI 0, NI 6]) ∧ Ext _ w2) from (getText_in _ v b (hr.keep (hE.trans hC)) i hi 256).mono fun e w2 ⟨h1, h2⟩ => by subst h2; subst h1; refine ⟨?_, Ext.refl _⟩; unfold getTextRes; rw [hd]; simp only; rw [if_neg (by omega), if_pos hl2]; rfl)).mono ?_
    rintro e w2 ⟨rfl, hx⟩
    exact ⟨_, rfl, hx, rfl⟩
   ·refine stepN rfl fun σ w1 hC h => ?_
    have e15 := eqo (h 15 (by decide))
    exact Yk.move e15 ⟨Ext.refl _, rfl⟩
   ·refine stepN rfl fun σ w1 hC h => ?_
    have e6 := eqo (h 6 (by decide))
    exact Yk.extract (vs := [St (([] : List UInt8)), NI 0, NI 6]) e6 (show _ = some (St (([] : List UInt8)) : Value) from rfl) ⟨Ext.refl _, rfl⟩
   ·refine stepN rfl fun σ w1 hC h => ?_
    have e6 := eqo (h 6 (by decide))
    exact Yk.extract (vs := [St (([] : List UInt8)), NI 0, NI 6]) e6 (show _ = some (NI 0 : Value) from rfl) ⟨Ext.refl _, rfl⟩
   ·refine stepN rfl fun σ w1 hC h => ?_
    have e6 := eqo (h 6 (by decide))
    exact Yk.extract (vs := [St (([] : List UInt8)), NI 0, NI 6]) e6 (show _ = some (NI 6 : Value) from rfl) ⟨Ext.refl _, rfl⟩
   ·refine stepN rfl fun σ w1 hC h => ?_
    have e16 := eqo (h 16 (by decide))
    exact Yk.assign e16 ⟨Ext.refl _, rfl⟩
   ·refine stepN rfl fun σ w1 hC h => ?_
    have e17 := eqo (h 17 (by decide))
    exact Yk.assign e17 ⟨Ext.refl _, rfl⟩
   ·refine stepN rfl fun σ w1 hC h => ?_
    have e18 := eqo (h 18 (by decide))
    exact Yk.assign e18 ⟨Ext.refl _, rfl⟩
  intro ρ39 w40 hx41 he hf
  obtain ⟨-, -, -, -, -, -, -, -, -, -, -, -, -, k3, k4, k5, -⟩ := hf
  obtain ⟨T0, T2, -⟩ := he.hold [(0, _), (2, St (([] : List UInt8)))] ⟨T0, rfl, trivial⟩ rfl
  clear he
  have hb := eb hx41 hb
  have hgr : w.grownBy w40 (some r) := grownBy_trans hgr hx41.grown (fun _ e => by cases e)
  have hE := hE.trans hx41
  have T3 : ρ39 3 = St (([] : List UInt8)) := k3
  have T4 : ρ39 4 = NI 0 := k4
  have T5 : ρ39 5 = NI 6 := k5
  clear k3 k4 k5
  refine tN (hK38 _ _ (sk fun K42 hK42 => (wt (oM rfl (oS rfl (Yk.eqI (a := (6 : Nat)) (b := (0 : Nat)) T5 rfl (k_eql _ _ _ _) (oP rfl (Yp.callA1 wr57_pl141 (vr (.bool (decide ((6 : Nat) = (0)))) rfl) ?_))))))))
  refine calls_either (needR_any _ (decide ((6 : Nat) = (0)))) ?_ ?_
  rotate_left
  ·
   rintro ch w45 ⟨rfl, hb, hx⟩
   refine thenF_panic (postP_panic ?_)
   have hno := of_decide_eq_false hb
   exact .inr ⟨_, rfl, hP, rfl, (grownBy_trans hgr hx.grown (fun _ e => by cases e))⟩
  rintro v_ w47 ⟨rfl, hb43, hx44⟩
  have hb := eb hx44 hb
  have hgr : w.grownBy w47 (some r) := grownBy_trans hgr hx44.grown (fun _ e => by cases e)
  have hE := hE.trans hx44
  have hn48 := of_decide_eq_true hb43
  refine oZ (tN (hK42 _ _ (sk fun K49 hK49 => (wt (oM rfl (oM rfl (oS rfl (Yk.nilCheck T0 (oS rfl (Yk.fieldAt wr57_fo150_1 (vr (PQ r 0) rfl) (oS rfl (Yk.storeC (i := 1) (v := NI 0) (vr (PQ r 1) rfl) T4 hb (by rw [rd_len]; decide) wr57_isz3 rfl rfl fun w50 hb51 hg52 hs53 => ?_))))))))))))
  have hgr : w.grownBy w50 (some r) := grownBy_trans hgr hg52 (fun _ e => .inl e)
  clear hE
  clear hb
  have hb : w50.heap[r]? = some (.cells (rdC ((⟨b, ((0 : Nat) : Int)⟩, ⟨v⟩) : RdV)).toArray 150 (0, 0)) := blk_eq hb51 (rd_s1 (rdX v b (i)) ((0 : Nat) : Int)); clear hb51
  have hl54 := bl hb
  refine oZ (tN (hK49 _ _ (sk fun K55 hK55 => (wt (oM rfl (oA rfl (oZ (tN (hK55 _ _ (wpF_ret (postP_ret (fn := Tryd.f137) _ rfl [St (([] : List UInt8))] (St (([] : List UInt8))) rfl ⟨T3, trivial⟩ ?_)))))))))))
  omega
 have hP : txtP b i 256 = some ((b.drop (i + xk)).take xn, i + xk + xn) := by unfold txtP; rw [hd]; exact (if_neg hm).trans (if_neg hl2)
 refine tN (hK1 _ _ (sk fun K56 hK56 => ?_))
 refine wpF_draw [Is (PQ r 0), Is (PQ r 0), Is (PQ r 0), Is (v), Is (PQ r 0), Is (PQ r 0), Is (PQ r 1), Is (NI i), Is (.tuple #[St (((b.drop (i + xk)).take xn)), NI (i + xk + xn), NI 0]), Is (.tuple #[St (((b.drop (i + xk)).take xn)), NI (i + xk + xn), NI 0]), Is (St (((b.drop (i + xk)).take xn))), Is (NI (i + xk + xn)), Is (NI 0), Is (St (((b.drop (i + xk)).take xn))), Is (NI (i + xk + xn)), Is (NI 0)] (by kernel_rfl) [7, 8, 9, 10, 11, 12, 13, 14, 15, 6, 16, 17, 18, 3, 4, 5] (by kernel_rfl) (by kernel_rfl) (si4 (si12 trivial)) ?hs4001 ?hQ4001
 case hs4001 =>
  refine ⟨?_, ?_, ?_, ?_, ?_, ?_, ?_, ?_, ?_, ?_, ?_, ?_, ?_, ?_, ?_, ?_, trivial⟩
  ·refine stepN rfl fun σ w1 hC h => ?_
   have e0 := (eqo (h 0 (by decide))).trans T0
   exact Yk.move e0 ⟨Ext.refl _, rfl⟩
  ·refine stepN rfl fun σ w1 hC h => ?_
   have e7 := eqo (h 7 (by decide))
   exact Yk.nilCheck e7 ⟨Ext.refl _, rfl⟩
  ·refine stepN rfl fun σ w1 hC h => ?_
   have e8 := eqo (h 8 (by decide))
   exact Yk.fieldAt wr57_fo150_0 e8 ⟨Ext.refl _, rfl⟩
  ·refine stepN rfl fun σ w1 hC h => ?_
   have e9 := eqo (h 9 (by decide))
   exact Yk.cell1 wr57_ty26 rfl e9 (cellAt (eb hC hb) (show (rdC (rdX v b (i)))[0]? = some (v : Value) from rd_g0 (rdX v b (i)))) ⟨Ext.refl _, rfl⟩
  ·refine stepN rfl fun σ w1 hC h => ?_
   have e0 := (eqo (h 0 (by decide))).trans T0
   exact Yk.move e0 ⟨Ext.refl _, rfl⟩
  ·refine stepN rfl fun σ w1 hC h => ?_
   have e11 := eqo (h 11 (by decide))
   exact Yk.nilCheck e11 ⟨Ext.refl _, rfl⟩
  ·refine stepN rfl fun σ w1 hC h => ?_
   have e12 := eqo (h 12 (by decide))
   exact Yk.fieldAt wr57_fo150_1 e12 ⟨Ext.refl _, rfl⟩
  ·refine stepN rfl fun σ w1 hC h => ?_
   have e13 := eqo (h 13 (by decide))
   exact Yk.cell1 wr57_ty3 rfl e13 (cellAt (eb hC hb) (show (rdC (rdX v b (i)))[1]? = some (NI i : Value) from rd_g1 (rdX v b (i)))) ⟨Ext.refl _, rfl⟩
  ·refine stepN rfl fun σ w1 hC h => ?_
   have e10 := eqo (h 10 (by decide))
   have e14 := eqo (h 14 (by decide))
   refine Yk.callA3 wr57_pl146 e10 e14 (vr (NI 256) rfl) ?_
   refine ((show Calls _ _ _ _ (fun e w2 => e = .returned (.tuple #[St (((b.drop (i + xk)).take xn)), NI (i + xk + xn), NI 0]) ∧ Ext _ w2) from (getText_in _ v b (hr.keep (hE.trans hC)) i hi 256).mono fun e w2 ⟨h1, h2⟩ => by subst h2; subst h1; refine ⟨?_, Ext.refl _⟩; unfold getTextRes; rw [hd]; simp only; rw [if_neg (by omega), if_neg hl2]; rfl)).mono ?_
   rintro e w2 ⟨rfl, hx⟩
   exact ⟨_, rfl, hx, rfl⟩
  ·refine stepN rfl fun σ w1 hC h => ?_
   have e15 := eqo (h 15 (by decide))
   exact Yk.move e15 ⟨Ext.refl _, rfl⟩
  ·refine stepN rfl fun σ w1 hC h => ?_
   have e6 := eqo (h 6 (by decide))
   exact Yk.extract (vs := [St (((b.drop (i + xk)).take xn)), NI (i + xk + xn), NI 0]) e6 (show _ = some (St (((b.drop (i + xk)).take xn)) : Value) from rfl) ⟨Ext.refl _, rfl⟩
  ·refine stepN rfl fun σ w1 hC h => ?_
   have e6 := eqo (h 6 (by decide))
   exact Yk.extract (vs := [St (((b.drop (i + xk)).take xn)), NI (i + xk + xn), NI 0]) e6 (show _ = some (NI (i + xk + xn) : Value) from rfl) ⟨Ext.refl _, rfl⟩
  ·refine stepN rfl fun σ w1 hC h => ?_
   have e6 := eqo (h 6 (by decide))
   exact Yk.extract (vs := [St (((b.drop (i + xk)).take xn)), NI (i + xk + xn), NI 0]) e6 (show _ = some (NI 0 : Value) from rfl) ⟨Ext.refl _, rfl⟩
  ·refine stepN rfl fun σ w1 hC h => ?_
   have e16 := eqo (h 16 (by decide))
   exact Yk.assign e16 ⟨Ext.refl _, rfl⟩
  ·refine stepN rfl fun σ w1 hC h => ?_
   have e17 := eqo (h 17 (by decide))
   exact Yk.assign e17 ⟨Ext.refl _, rfl⟩
  ·refine stepN rfl fun σ w1 hC h => ?_
   have e18 := eqo (h 18 (by decide))
   exact Yk.assign e18 ⟨Ext.refl _, rfl⟩
 intro ρ57 w58 hx59 he hf
 obtain ⟨-, -, -, -, -, -, -, -, -, -, -, -, -, k3, k4, k5, -⟩ := hf
 obtain ⟨T0, T2, -⟩ := he.hold [(0, _), (2, St (([] : List UInt8)))] ⟨T0, rfl, trivial⟩ rfl
 clear he
 have hb := eb hx59 hb
 have hgr : w.grownBy w58 (some r) := grownBy_trans hgr hx59.grown (fun _ e => by cases e)
 have hE := hE.trans hx59
 have T3 : ρ57 3 = St (((b.drop (i + xk)).take xn)) := k3
 have T4 : ρ57 4 = NI (i + xk + xn) := k4
 have T5 : ρ57 5 = NI 0 := k5
 clear k3 k4 k5
 refine tN (hK56 _ _ (sk fun K60 hK60 => (wt (oM rfl (oS rfl (Yk.eqI (a := (0 : Nat)) (b := (0 : Nat)) T5 rfl (k_eql _ _ _ _) (oP rfl (Yp.callA1 wr57_pl141 (vr (.bool (decide ((0 : Nat) = (0)))) rfl) ?_))))))))
 refine calls_either (needR_any _ (decide ((0 : Nat) = (0)))) ?_ ?_
 rotate_left
 ·
  rintro ch w63 ⟨rfl, hb, hx⟩
  refine thenF_panic (postP_panic ?_)
  have hno := of_decide_eq_false hb
  exact absurd rfl hno
 rintro v_ w65 ⟨rfl, hb61, hx62⟩
 have hb := eb hx62 hb
 have hgr : w.grownBy w65 (some r) := grownBy_trans hgr hx62.grown (fun _ e => by cases e)
 have hE := hE.trans hx62
 have hn66 := of_decide_eq_true hb61
 refine oZ (tN (hK60 _ _ (sk fun K67 hK67 => (wt (oM rfl (oM rfl (oS rfl (Yk.nilCheck T0 (oS rfl (Yk.fieldAt wr57_fo150_1 (vr (PQ r 0) rfl) (oS rfl (Yk.storeC (i := 1) (v := NI (i + xk + xn)) (vr (PQ r 1) rfl) T4 hb (by rw [rd_len]; decide) wr57_isz3 rfl rfl fun w68 hb69 hg70 hs71 => ?_))))))))))))
 have hgr : w.grownBy w68 (some r) := grownBy_trans hgr hg70 (fun _ e => .inl e)
 clear hE
 clear hb
 have hb : w68.heap[r]? = some (.cells (rdC ((⟨b, ((i + xk + xn : Nat) : Int)⟩, ⟨v⟩) : RdV)).toArray 150 (0, 0)) := blk_eq hb69 (rd_s1 (rdX v b (i)) ((i + xk + xn : Nat) : Int)); clear hb69
 have hl72 := bl hb
 refine oZ (tN (hK67 _ _ (sk fun K73 hK73 => (wt (oM rfl (oA rfl (oZ (tN (hK73 _ _ (wpF_ret (postP_ret (fn := Tryd.f137) _ rfl [St (((b.drop (i + xk)).take xn))] (St (((b.drop (i + xk)).take xn))) rfl ⟨T3, trivial⟩ ?_)))))))))))
 exact .inl ⟨_, rfl, _, _, hP, rfl, hb, hgr⟩

theorem idR_any (w : World) (r : Nat) (v : Value) (b : Bs) (i : Nat) (hb : w.heap[r]? = some (.cells (rdC (rdX v b (i))).toArray 150 (0, 0))) (hr : RB w v b) (hap : b = [] ∨ OB v r) (hi : i ≤ b.length) (hl : b.length ≤ 4611686018427387904) :
  Calls Tryd.prog 138 #[PQ r 0] w fun e w' => (∃ x, e = .returned x ∧ ∃ c n, idP b i = some (c, n) ∧ x = AB c.1 ∧ w'.heap[r]? = some (.cells (rdC (rdX v b (n))).toArray 150 (0, 0)) ∧ w.grownBy w' (some r)) ∨ ∃ ch, e = .panicked ch ∧ idP b i = none ∧ ch = [stopR] ∧ w.grownBy w' (some r) := by
 have hlr := (bl hb)
 have hgr := World.grownBy.refl w (some r)
 refine calls_of_wpP (args := [PQ r 0]) Tryd.func138 rfl 27 rfl (Nat.le_of_ble_eq_true rfl) ?_
 intro ρ0 hb
 have T0 : ρ0 0 = (PQ r 0 : Value) := hb.get 0
 clear hb
 have hE := Ext.refl w
 refine sk fun K1 hK1 => (wt (oS rfl (Yk.alloc (cs := (Lib.byteCells (List.replicate 32 0)).toArray) wr57_al25 fun n2 w3 hn4 hb5 hx6 hs7 => ?_)))
 have hlt8 := lte (bl hb) hn4
 have hb := eb hx6 hb
 have hgr : w.grownBy w3 (some r) := grownBy_trans hgr hx6.grown (fun _ e => by cases e)
 have hE := hE.trans hx6
 have hb9 := hb5; clear hb5
 have hl10 : n2 < w3.heap.size := by omega
 refine oZ ?_
 by_cases hle : i + 32 ≤ b.length
 ·have hQ : ((b.drop i).take 32).length = 32 := by rw [List.length_take, List.length_drop]; omega
  have hP : idP b i = some (⟨(b.drop i).take 32, hQ⟩, i + 32) := dif_pos hle
  refine tN (hK1 _ _ (sk fun K11 hK11 => ?_))
  have hx12 : Ext w3 (World.drew w3) := (Below.refl _ _).drew
  have hb := eb hx12 hb
  have hgr : w.grownBy (World.drew w3) (some r) := grownBy_trans hgr hx12.grown (fun _ e => by cases e)
  have hE := hE.trans hx12
  have hb9 := eb hx12 hb9
  refine wpF_floatE [(0, 7, PQ r 0), (1, 8, PQ r 0), (2, 9, PQ r 0), (3, 10, v), (4, 11, PQ r 0), (5, 12, PQ r 0), (6, 13, PQ r 1), (7, 14, NI i), (8, 15, .tuple #[AB ((b.drop i).take 32), NI (i + 32), NI 0]), (9, 6, .tuple #[AB ((b.drop i).take 32), NI (i + 32), NI 0]), (10, 16, AB ((b.drop i).take 32)), (11, 17, NI (i + 32)), (12, 18, NI 0)] [13, 14, 15, 16] (fun wz => wz.heap[r]? = some (.cells (rdC (rdX v b (i))).toArray 150 (0, 0)) ∧ Ext w wz ∧ wz.heap[n2]? = some (.cells (Lib.byteCells (List.replicate 32 0)).toArray 25 (0, 0)) ∧ True) (fun _ _ ⟨hb, hE, hb9, _⟩ k => ⟨(eb k hb), (hE.trans k), (eb k hb9), trivial⟩) (by kernel_rfl) (by kernel_rfl) (by kernel_rfl) ⟨hb, hE, hb9, trivial⟩ ⟨fun w13 ⟨hb, hE, hb9, _⟩ => Yk.move T0 ⟨rfl, Ext.refl _⟩, fun w13 ⟨hb, hE, hb9, _⟩ => Yk.nilCheck (vr (PQ r 0) rfl) ⟨rfl, Ext.refl _⟩, fun w13 ⟨hb, hE, hb9, _⟩ => Yk.fieldAt wr57_fo150_0 (vr (PQ r 0) rfl) ⟨rfl, Ext.refl _⟩, fun w13 ⟨hb, hE, hb9, _⟩ => Yk.cell1 wr57_ty26 rfl (vr (PQ r 0) rfl) (cellAt hb (show (rdC (rdX v b (i)))[0]? = some (v : Value) from rd_g0 (rdX v b (i)))) ⟨rfl, Ext.refl _⟩, fun w13 ⟨hb, hE, hb9, _⟩ => Yk.move T0 ⟨rfl, Ext.refl _⟩, fun w13 ⟨hb, hE, hb9, _⟩ => Yk.nilCheck (vr (PQ r 0) rfl) ⟨rfl, Ext.refl _⟩, fun w13 ⟨hb, hE, hb9, _⟩ => Yk.fieldAt wr57_fo150_1 (vr (PQ r 0) rfl) ⟨rfl, Ext.refl _⟩, fun w13 ⟨hb, hE, hb9, _⟩ => Yk.cell1 wr57_ty3 rfl (vr (PQ r 1) rfl) (cellAt hb (show (rdC (rdX v b (i)))[1]? = some (NI i : Value) from rd_g1 (rdX v b (i)))) ⟨rfl, Ext.refl _⟩, fun w13 ⟨hb, hE, hb9, _⟩ => Yk.callA2 wr57_pl147 (vr v rfl) (vr (NI i) rfl) (((show Calls _ _ _ _ (fun e w2 => e = .returned (.tuple #[AB ((b.drop i).take 32), NI (i + 32), NI 0]) ∧ Ext _ w2) from (getId_in _ v b (hr.keep hE) i hi).mono fun e w2 ⟨h1, h2⟩ => by subst h1; refine ⟨?_, h2⟩; unfold getIdRes; rw [if_neg (by omega)]; rfl)).mono (by rintro e w2 ⟨rfl, hx⟩; exact ⟨_, rfl, rfl, hx⟩)), fun w13 ⟨hb, hE, hb9, _⟩ => Yk.move (vr (.tuple #[AB ((b.drop i).take 32), NI (i + 32), NI 0]) rfl) ⟨rfl, Ext.refl _⟩, fun w13 ⟨hb, hE, hb9, _⟩ => Yk.extract (vs := [AB ((b.drop i).take 32), NI (i + 32), NI 0]) (vr (.tuple #[AB ((b.drop i).take 32), NI (i + 32), NI 0]) rfl) (show _ = some (AB ((b.drop i).take 32) : Value) from rfl) ⟨rfl, Ext.refl _⟩, fun w13 ⟨hb, hE, hb9, _⟩ => Yk.extract (vs := [AB ((b.drop i).take 32), NI (i + 32), NI 0]) (vr (.tuple #[AB ((b.drop i).take 32), NI (i + 32), NI 0]) rfl) (show _ = some (NI (i + 32) : Value) from rfl) ⟨rfl, Ext.refl _⟩, fun w13 ⟨hb, hE, hb9, _⟩ => Yk.extract (vs := [AB ((b.drop i).take 32), NI (i + 32), NI 0]) (vr (.tuple #[AB ((b.drop i).take 32), NI (i + 32), NI 0]) rfl) (show _ = some (NI 0 : Value) from rfl) ⟨rfl, Ext.refl _⟩, trivial⟩ ?_
  refine chX_step rfl fun w15 hx16 => ?_
  have hb := eb hx16 hb
  have hgr : w.grownBy w15 (some r) := grownBy_trans hgr hx16.grown (fun _ e => by cases e)
  have hE := hE.trans hx16
  have hb9 := eb hx16 hb9
  refine chX_go (Yk.alloc (cs := (Lib.byteCells (List.replicate 32 0)).toArray) wr57_al25 fun n17 w18 hn19 hb20 hx21 hs22 => ?_)
  have hA23 := Ext.refl w15
  have hea24 := hE
  have hz25 := hE.size
  have hlt26 := lte (bl hb) hn19
  have hlt27 := lte (bl hb9) hn19
  have hb := eb hx21 hb
  have hgr : w.grownBy w18 (some r) := grownBy_trans hgr hx21.grown (fun _ e => by cases e)
  have hE := hE.trans hx21
  have hb9 := eb hx21 hb9
  have hA23 := hA23.trans hx21
  have hb28 := hb20; clear hb20
  have hl29 : n17 < w18.heap.size := by omega
  refine ⟨.inr ⟨hb, hE, hb9, trivial⟩, ?_⟩
  refine chX_step rfl fun w30 hx31 => ?_
  have hb := eb hx31 hb
  have hgr : w.grownBy w30 (some r) := grownBy_trans hgr hx31.grown (fun _ e => by cases e)
  have hE := hE.trans hx31
  have hb9 := eb hx31 hb9
  have hA23 := hA23.trans hx31
  have hb28 := eb hx31 hb28
  refine chX_go (Yk.storeAll (vr (PQ n17 0) rfl) (vr (AB ((b.drop i).take 32)) rfl) hb28 (by exact idsize hQ List.length_replicate) (by exact sizeId_of hQ) (byteCells_one _) fun w32 hb33 hg34 hs35 => ?_)
  have hb := kb hg34 hb (by omega)
  have hgr : w.grownBy w32 (some r) := grownBy_trans hgr hg34 (fun _ e => .inr (by cases e; omega))
  have hE := row_fresh hE hg34 (Nat.le_trans hz25 (by omega))
  have hb9 := kb hg34 hb9 (by omega)
  have hA23 := row_fresh hA23 hg34 (Nat.le_trans (Nat.le_refl _) (by omega))
  clear hb28
  have hb28 := hb33; clear hb33
  have hl36 := bl hb28
  refine ⟨.inr ⟨hb, hE, hb9, trivial⟩, ?_⟩
  refine chX_step rfl fun w37 hx38 => ?_
  have hb := eb hx38 hb
  have hgr : w.grownBy w37 (some r) := grownBy_trans hgr hx38.grown (fun _ e => by cases e)
  have hE := hE.trans hx38
  have hb9 := eb hx38 hb9
  have hA23 := hA23.trans hx38
  have hb28 := eb hx38 hb28
  refine chX_go (Yk.assign (vr (NI (i + 32)) rfl) ?_)
  refine ⟨.inr ⟨hb, hE, hb9, trivial⟩, ?_⟩
  refine chX_step rfl fun w39 hx40 => ?_
  have hb := eb hx40 hb
  have hgr : w.grownBy w39 (some r) := grownBy_trans hgr hx40.grown (fun _ e => by cases e)
  have hE := hE.trans hx40
  have hb9 := eb hx40 hb9
  have hA23 := hA23.trans hx40
  have hb28 := eb hx40 hb28
  refine chX_go (Yk.assign (vr (NI 0) rfl) ?_)
  refine ⟨.inl rfl, ?_⟩
  refine chX_nil (tN (hK11 _ _ (sk fun K41 hK41 => (wt (oM rfl (oS rfl (Yk.eqI (a := (0 : Nat)) (b := (0 : Nat)) rfl rfl (k_eql _ _ _ _) (oP rfl (Yp.callA1 wr57_pl141 (vr (.bool (decide ((0 : Nat) = (0)))) rfl) ?_)))))))))
  refine calls_either (needR_any _ (decide ((0 : Nat) = (0)))) ?_ ?_
  rotate_left
  ·
   rintro ch w44 ⟨rfl, hb, hx⟩
   refine thenF_panic (postP_panic ?_)
   have hno := of_decide_eq_false hb
   exact absurd rfl hno
  rintro v_ w46 ⟨rfl, hb42, hx43⟩
  have hb := eb hx43 hb
  have hgr : w.grownBy w46 (some r) := grownBy_trans hgr hx43.grown (fun _ e => by cases e)
  have hE := hE.trans hx43
  have hb9 := eb hx43 hb9
  have hA23 := hA23.trans hx43
  have hb28 := eb hx43 hb28
  have hn47 := of_decide_eq_true hb42
  refine oZ (tN (hK41 _ _ (sk fun K48 hK48 => (wt (oM rfl (oM rfl (oS rfl (Yk.nilCheck T0 (oS rfl (Yk.fieldAt wr57_fo150_1 (vr (PQ r 0) rfl) (oS rfl (Yk.storeC (i := 1) (v := NI (i + 32)) (vr (PQ r 1) rfl) (vr (NI (i + 32)) rfl) hb (by rw [rd_len]; decide) wr57_isz3 rfl rfl fun w49 hb50 hg51 hs52 => ?_))))))))))))
  have hgr : w.grownBy w49 (some r) := grownBy_trans hgr hg51 (fun _ e => .inl e)
  clear hE
  have hb9 := kb hg51 hb9 (by omega)
  clear hA23
  have hb28 := kb hg51 hb28 (by omega)
  clear hb
  have hb : w49.heap[r]? = some (.cells (rdC ((⟨b, ((i + 32 : Nat) : Int)⟩, ⟨v⟩) : RdV)).toArray 150 (0, 0)) := blk_eq hb50 (rd_s1 (rdX v b (i)) ((i + 32 : Nat) : Int)); clear hb50
  have hl53 := bl hb
  refine oZ (tN (hK48 _ _ (sk fun K54 hK54 => (wt (oS rfl (Yk.loadAll (vr (PQ n17 0) rfl) hb28 wr57_ty25 rfl (by exact sizeId_of hQ) (oS rfl (Yk.storeAll (vr (PQ n2 0) rfl) (vr (AB ((b.drop i).take 32)) rfl) hb9 (by exact idsize hQ List.length_replicate) (by exact sizeId_of hQ) (byteCells_one _) fun w55 hb56 hg57 hs58 => ?_))))))))
  have hgr : w.grownBy w55 (some r) := grownBy_trans hgr hg57 (fun _ e => .inr (by cases e; omega))
  have hb28 := kb hg57 hb28 (by omega)
  have hb := kb hg57 hb (by omega)
  clear hb9
  have hb9 := hb56; clear hb56
  have hl59 := bl hb9
  refine oZ (tN (hK54 _ _ (wpF_ret (postP_ret (fn := Tryd.f138) _ rfl [AB ((b.drop i).take 32)] (AB ((b.drop i).take 32)) rfl ⟨ResF.row rfl hb9 wr57_ty25 rfl (by exact sizeId_of hQ), trivial⟩ ?_))))
  exact .inl ⟨_, rfl, _, _, hP, rfl, hb, hgr⟩
 have hP : idP b i = none := dif_neg hle
 refine tN (hK1 _ _ (sk fun K60 hK60 => ?_))
 have hx61 : Ext w3 (World.drew w3) := (Below.refl _ _).drew
 have hb := eb hx61 hb
 have hgr : w.grownBy (World.drew w3) (some r) := grownBy_trans hgr hx61.grown (fun _ e => by cases e)
 have hE := hE.trans hx61
 have hb9 := eb hx61 hb9
 refine wpF_floatE [(0, 7, PQ r 0), (1, 8, PQ r 0), (2, 9, PQ r 0), (3, 10, v), (4, 11, PQ r 0), (5, 12, PQ r 0), (6, 13, PQ r 1), (7, 14, NI i), (8, 15, .tuple #[AB zero32, NI 0, NI 6]), (9, 6, .tuple #[AB zero32, NI 0, NI 6]), (10, 16, AB zero32), (11, 17, NI 0), (12, 18, NI 6)] [13, 14, 15, 16] (fun wz => wz.heap[r]? = some (.cells (rdC (rdX v b (i))).toArray 150 (0, 0)) ∧ Ext w wz ∧ wz.heap[n2]? = some (.cells (Lib.byteCells (List.replicate 32 0)).toArray 25 (0, 0)) ∧ True) (fun _ _ ⟨hb, hE, hb9, _⟩ k => ⟨(eb k hb), (hE.trans k), (eb k hb9), trivial⟩) (by kernel_rfl) (by kernel_rfl) (by kernel_rfl) ⟨hb, hE, hb9, trivial⟩ ⟨fun w62 ⟨hb, hE, hb9, _⟩ => Yk.move T0 ⟨rfl, Ext.refl _⟩, fun w62 ⟨hb, hE, hb9, _⟩ => Yk.nilCheck (vr (PQ r 0) rfl) ⟨rfl, Ext.refl _⟩, fun w62 ⟨hb, hE, hb9, _⟩ => Yk.fieldAt wr57_fo150_0 (vr (PQ r 0) rfl) ⟨rfl, Ext.refl _⟩, fun w62 ⟨hb, hE, hb9, _⟩ => Yk.cell1 wr57_ty26 rfl (vr (PQ r 0) rfl) (cellAt hb (show (rdC (rdX v b (i)))[0]? = some (v : Value) from rd_g0 (rdX v b (i)))) ⟨rfl, Ext.refl _⟩, fun w62 ⟨hb, hE, hb9, _⟩ => Yk.move T0 ⟨rfl, Ext.refl _⟩, fun w62 ⟨hb, hE, hb9, _⟩ => Yk.nilCheck (vr (PQ r 0) rfl) ⟨rfl, Ext.refl _⟩, fun w62 ⟨hb, hE, hb9, _⟩ => Yk.fieldAt wr57_fo150_1 (vr (PQ r 0) rfl) ⟨rfl, Ext.refl _⟩, fun w62 ⟨hb, hE, hb9, _⟩ => Yk.cell1 wr57_ty3 rfl (vr (PQ r 1) rfl) (cellAt hb (show (rdC (rdX v b (i)))[1]? = some (NI i : Value) from rd_g1 (rdX v b (i)))) ⟨rfl, Ext.refl _⟩, fun w62 ⟨hb, hE, hb9, _⟩ => Yk.callA2 wr57_pl147 (vr v rfl) (vr (NI i) rfl) (((show Calls _ _ _ _ (fun e w2 => e = .returned (.tuple #[AB zero32, NI 0, NI 6]) ∧ Ext _ w2) from (getId_in _ v b (hr.keep hE) i hi).mono fun e w2 ⟨h1, h2⟩ => by subst h1; refine ⟨?_, h2⟩; unfold getIdRes; rw [if_pos (by omega)]; rfl)).mono (by rintro e w2 ⟨rfl, hx⟩; exact ⟨_, rfl, rfl, hx⟩)), fun w62 ⟨hb, hE, hb9, _⟩ => Yk.move (vr (.tuple #[AB zero32, NI 0, NI 6]) rfl) ⟨rfl, Ext.refl _⟩, fun w62 ⟨hb, hE, hb9, _⟩ => Yk.extract (vs := [AB zero32, NI 0, NI 6]) (vr (.tuple #[AB zero32, NI 0, NI 6]) rfl) (show _ = some (AB zero32 : Value) from rfl) ⟨rfl, Ext.refl _⟩, fun w62 ⟨hb, hE, hb9, _⟩ => Yk.extract (vs := [AB zero32, NI 0, NI 6]) (vr (.tuple #[AB zero32, NI 0, NI 6]) rfl) (show _ = some (NI 0 : Value) from rfl) ⟨rfl, Ext.refl _⟩, fun w62 ⟨hb, hE, hb9, _⟩ => Yk.extract (vs := [AB zero32, NI 0, NI 6]) (vr (.tuple #[AB zero32, NI 0, NI 6]) rfl) (show _ = some (NI 6 : Value) from rfl) ⟨rfl, Ext.refl _⟩, trivial⟩ ?_
 refine chX_step rfl fun w64 hx65 => ?_
 have hb := eb hx65 hb
 have hgr : w.grownBy w64 (some r) := grownBy_trans hgr hx65.grown (fun _ e => by cases e)
 have hE := hE.trans hx65
 have hb9 := eb hx65 hb9
 refine chX_go (Yk.alloc (cs := (Lib.byteCells (List.replicate 32 0)).toArray) wr57_al25 fun n66 w67 hn68 hb69 hx70 hs71 => ?_)
 have hA72 := Ext.refl w64
 have hea73 := hE
 have hz74 := hE.size
 have hlt75 := lte (bl hb) hn68
 have hlt76 := lte (bl hb9) hn68
 have hb := eb hx70 hb
 have hgr : w.grownBy w67 (some r) := grownBy_trans hgr hx70.grown (fun _ e => by cases e)
 have hE := hE.trans hx70
 have hb9 := eb hx70 hb9
 have hA72 := hA72.trans hx70
 have hb77 := hb69; clear hb69
 have hl78 : n66 < w67.heap.size := by omega
 refine ⟨.inr ⟨hb, hE, hb9, trivial⟩, ?_⟩
 refine chX_step rfl fun w79 hx80 => ?_
 have hb := eb hx80 hb
 have hgr : w.grownBy w79 (some r) := grownBy_trans hgr hx80.grown (fun _ e => by cases e)
 have hE := hE.trans hx80
 have hb9 := eb hx80 hb9
 have hA72 := hA72.trans hx80
 have hb77 := eb hx80 hb77
 refine chX_go (Yk.storeAll (vr (PQ n66 0) rfl) (vr (AB zero32) rfl) hb77 (by exact idsize (by decide) List.length_replicate) (by exact sizeId_of (by decide)) (byteCells_one _) fun w81 hb82 hg83 hs84 => ?_)
 have hb := kb hg83 hb (by omega)
 have hgr : w.grownBy w81 (some r) := grownBy_trans hgr hg83 (fun _ e => .inr (by cases e; omega))
 have hE := row_fresh hE hg83 (Nat.le_trans hz74 (by omega))
 have hb9 := kb hg83 hb9 (by omega)
 have hA72 := row_fresh hA72 hg83 (Nat.le_trans (Nat.le_refl _) (by omega))
 clear hb77
 have hb77 := hb82; clear hb82
 have hl85 := bl hb77
 refine ⟨.inr ⟨hb, hE, hb9, trivial⟩, ?_⟩
 refine chX_step rfl fun w86 hx87 => ?_
 have hb := eb hx87 hb
 have hgr : w.grownBy w86 (some r) := grownBy_trans hgr hx87.grown (fun _ e => by cases e)
 have hE := hE.trans hx87
 have hb9 := eb hx87 hb9
 have hA72 := hA72.trans hx87
 have hb77 := eb hx87 hb77
 refine chX_go (Yk.assign (vr (NI 0) rfl) ?_)
 refine ⟨.inr ⟨hb, hE, hb9, trivial⟩, ?_⟩
 refine chX_step rfl fun w88 hx89 => ?_
 have hb := eb hx89 hb
 have hgr : w.grownBy w88 (some r) := grownBy_trans hgr hx89.grown (fun _ e => by cases e)
 have hE := hE.trans hx89
 have hb9 := eb hx89 hb9
 have hA72 := hA72.trans hx89
 have hb77 := eb hx89 hb77
 refine chX_go (Yk.assign (vr (NI 6) rfl) ?_)
 refine ⟨.inl rfl, ?_⟩
 refine chX_nil (tN (hK60 _ _ (sk fun K90 hK90 => (wt (oM rfl (oS rfl (Yk.eqI (a := (6 : Nat)) (b := (0 : Nat)) rfl rfl (k_eql _ _ _ _) (oP rfl (Yp.callA1 wr57_pl141 (vr (.bool (decide ((6 : Nat) = (0)))) rfl) ?_)))))))))
 refine calls_either (needR_any _ (decide ((6 : Nat) = (0)))) ?_ ?_
 rotate_left
 ·
  rintro ch w93 ⟨rfl, hb, hx⟩
  refine thenF_panic (postP_panic ?_)
  have hno := of_decide_eq_false hb
  exact .inr ⟨_, rfl, hP, rfl, (grownBy_trans hgr hx.grown (fun _ e => by cases e))⟩
 rintro v_ w95 ⟨rfl, hb91, hx92⟩
 have hb := eb hx92 hb
 have hgr : w.grownBy w95 (some r) := grownBy_trans hgr hx92.grown (fun _ e => by cases e)
 have hE := hE.trans hx92
 have hb9 := eb hx92 hb9
 have hA72 := hA72.trans hx92
 have hb77 := eb hx92 hb77
 have hn96 := of_decide_eq_true hb91
 refine oZ (tN (hK90 _ _ (sk fun K97 hK97 => (wt (oM rfl (oM rfl (oS rfl (Yk.nilCheck T0 (oS rfl (Yk.fieldAt wr57_fo150_1 (vr (PQ r 0) rfl) (oS rfl (Yk.storeC (i := 1) (v := NI 0) (vr (PQ r 1) rfl) (vr (NI 0) rfl) hb (by rw [rd_len]; decide) wr57_isz3 rfl rfl fun w98 hb99 hg100 hs101 => ?_))))))))))))
 have hgr : w.grownBy w98 (some r) := grownBy_trans hgr hg100 (fun _ e => .inl e)
 clear hE
 have hb9 := kb hg100 hb9 (by omega)
 clear hA72
 have hb77 := kb hg100 hb77 (by omega)
 clear hb
 have hb : w98.heap[r]? = some (.cells (rdC ((⟨b, ((0 : Nat) : Int)⟩, ⟨v⟩) : RdV)).toArray 150 (0, 0)) := blk_eq hb99 (rd_s1 (rdX v b (i)) ((0 : Nat) : Int)); clear hb99
 have hl102 := bl hb
 refine oZ (tN (hK97 _ _ (sk fun K103 hK103 => (wt (oS rfl (Yk.loadAll (vr (PQ n66 0) rfl) hb77 wr57_ty25 rfl (by exact sizeId_of (by decide)) (oS rfl (Yk.storeAll (vr (PQ n2 0) rfl) (vr (AB zero32) rfl) hb9 (by exact idsize (by decide) List.length_replicate) (by exact sizeId_of (by decide)) (byteCells_one _) fun w104 hb105 hg106 hs107 => ?_))))))))
 have hgr : w.grownBy w104 (some r) := grownBy_trans hgr hg106 (fun _ e => .inr (by cases e; omega))
 have hb77 := kb hg106 hb77 (by omega)
 have hb := kb hg106 hb (by omega)
 clear hb9
 have hb9 := hb105; clear hb105
 have hl108 := bl hb9
 refine oZ (tN (hK103 _ _ (wpF_ret (postP_ret (fn := Tryd.f138) _ rfl [AB zero32] (AB zero32) rfl ⟨ResF.row rfl hb9 wr57_ty25 rfl (by exact sizeId_of (by decide)), trivial⟩ ?_))))
 omega
open Go.RowKit
def nmP (b : Bs) (i : Nat) : Option (Nmd × Nat) := (txtP b i 256).bind fun s => (idP b s.2).bind fun x => some (⟨s.1, x.1⟩, x.2)
def addNmd (b : Bs) (s : List Nmd × Nat) : Option (List Nmd × Nat) := (nmP b s.2).map fun x => (s.1 ++ [x.1], x.2)
def nlP (b : Bs) (i : Nat) : Option (List Nmd × Nat) := (numM b i 64).bind fun x => itP (addNmd b) x.1 ([], x.2)
def entP (b : Bs) (i : Nat) : Option (Ent × Nat) := (byteP b i).bind fun k => (txtP b k.2 256).bind fun s => (idP b s.2).bind fun o => (idP b o.2).bind fun n => (txtP b n.2 256).bind fun t => some (⟨k.1, s.1, o.1, n.1, t.1⟩, t.2)
def addEnt (b : Bs) (s : List Ent × Nat) : Option (List Ent × Nat) := (entP b s.2).map fun x => (s.1 ++ [x.1], x.2)
def elP (b : Bs) (i : Nat) : Option (List Ent × Nat) := (numM b i 64).bind fun x => itP (addEnt b) x.1 ([], x.2)
noncomputable def decR (b : Bs) : Option Refs := (nlP b 0).bind fun x => (nlP b x.2).bind fun y => (txtP b y.2 256).bind fun h => (idP b h.2).bind fun a => (elP b a.2).bind fun l =>
  if l.2 = b.length ∧ rightF ⟨x.1, y.1, h.1, a.1, l.1⟩ = true then some ⟨x.1, y.1, h.1, a.1, l.1⟩ else none
theorem numM_le {b : Bs} {i n k most : Nat} (hi : i ≤ b.length) (h : numM b i most = some (k, n)) : n ≤ b.length ∧ k ≤ most ∧ numP b i = some (k, n) := by
  unfold numM at h
  cases hn : numP b i with
  | none => rw [hn] at h; cases h
  | some x =>
    rw [hn, Option.bind_some] at h
    split at h
    · rename_i h1
      cases h
      exact ⟨numP_le hi hn, h1, rfl⟩
    · cases h
theorem nlP_none {b : Bs} {i : Nat} (h : numM b i 64 = none) : nlP b i = none := by unfold nlP; rw [h]; rfl
theorem nlP_some {b : Bs} {i n j : Nat} (h : numM b i 64 = some (n, j)) : nlP b i = itP (addNmd b) n ([], j) := by unfold nlP; rw [h]; rfl
theorem elP_none {b : Bs} {i : Nat} (h : numM b i 64 = none) : elP b i = none := by unfold elP; rw [h]; rfl
theorem elP_some {b : Bs} {i n j : Nat} (h : numM b i 64 = some (n, j)) : elP b i = itP (addEnt b) n ([], j) := by unfold elP; rw [h]; rfl
theorem nl_bad {b : Bs} {i n j k j' : Nat} {o : List Nmd} (h : numM b i 64 = some (n, j)) (hk : k < n) (hit : itP (addNmd b) k ([], j) = some (o, j')) (hx : nmP b j' = none) : nlP b i = none := by
  rw [nlP_some h]
  refine itP_none (j := k + 1) ?_ n hk
  rw [itP_step hit]
  unfold addNmd
  rw [hx]; rfl
theorem nl_step {b : Bs} {j k j' j2 : Nat} {o : List Nmd} {x : Nmd} (hit : itP (addNmd b) k ([], j) = some (o, j')) (hx : nmP b j' = some (x, j2)) : itP (addNmd b) (k + 1) ([], j) = some (o ++ [x], j2) := by
  rw [itP_step hit]
  unfold addNmd
  rw [hx]; rfl
theorem el_bad {b : Bs} {i n j k j' : Nat} {o : List Ent} (h : numM b i 64 = some (n, j)) (hk : k < n) (hit : itP (addEnt b) k ([], j) = some (o, j')) (hx : entP b j' = none) : elP b i = none := by
  rw [elP_some h]
  refine itP_none (j := k + 1) ?_ n hk
  rw [itP_step hit]
  unfold addEnt
  rw [hx]; rfl
theorem el_step {b : Bs} {j k j' j2 : Nat} {o : List Ent} {x : Ent} (hit : itP (addEnt b) k ([], j) = some (o, j')) (hx : entP b j' = some (x, j2)) : itP (addEnt b) (k + 1) ([], j) = some (o ++ [x], j2) := by
  rw [itP_step hit]
  unfold addEnt
  rw [hx]; rfl
theorem nmP_1 {b : Bs} {i : Nat} (h : txtP b i 256 = none) : nmP b i = none := by unfold nmP; rw [h]; rfl
theorem nmP_2 {b s : Bs} {i j : Nat} (h : txtP b i 256 = some (s, j)) (h2 : idP b j = none) : nmP b i = none := by unfold nmP; rw [h, Option.bind_some, h2]; rfl
theorem nmP_3 {b s : Bs} {i j k : Nat} {x : Id32} (h : txtP b i 256 = some (s, j)) (h2 : idP b j = some (x, k)) : nmP b i = some (⟨s, x⟩, k) := by unfold nmP; rw [h, Option.bind_some, h2]; rfl
theorem numM_bind {σ : Type} {b : Bs} {i : Nat} {f : Nat × Nat → Option σ} {t : σ} (h : (numM b i 64).bind f = some t) : ∃ n j, numM b i 64 = some (n, j) ∧ n ≤ 64 ∧ f (n, j) = some t := by
  cases hn : numM b i 64 with
  | none => rw [hn] at h; cases h
  | some x =>
    rw [hn] at h
    refine ⟨x.1, x.2, rfl, ?_, h⟩
    unfold numM at hn
    cases hp : numP b i with
    | none => rw [hp] at hn; cases hn
    | some y =>
      rw [hp, Option.bind_some] at hn
      split at hn
      · cases hn; assumption
      · cases hn
theorem nmP_get {b : Bs} {i j : Nat} {x : Nmd} (h : nmP b i = some (x, j)) : ∃ k, txtP b i 256 = some (x.name, k) ∧ idP b k = some (x.id, j) := by
  unfold nmP at h
  cases h1 : txtP b i 256 with
  | none => rw [h1] at h; cases h
  | some s =>
    rw [h1, Option.bind_some] at h
    cases h2 : idP b s.2 with
    | none => rw [h2] at h; cases h
    | some y => rw [h2] at h; cases h; exact ⟨s.2, rfl, h2⟩
theorem addNmd_get {b : Bs} {s t : List Nmd × Nat} (h : addNmd b s = some t) : ∃ x, t.1 = s.1 ++ [x] ∧ nmP b s.2 = some (x, t.2) := by
  unfold addNmd at h
  cases hn : nmP b s.2 with
  | none => rw [hn] at h; cases h
  | some x => rw [hn] at h; cases h; exact ⟨x.1, rfl, rfl⟩
theorem addNmd_names {b : Bs} : ∀ (n : Nat) {s t : List Nmd × Nat}, itP (addNmd b) n s = some t → (∀ u ∈ s.1, u.name.length ≤ 256) → (∀ u ∈ t.1, u.name.length ≤ 256) ∧ t.1.length = s.1.length + n
  | 0, s, t, h, hs => by cases h; exact ⟨hs, rfl⟩
  | n + 1, s, t, h, hs => by
    obtain ⟨u, h1, h2⟩ := itP_succ h
    obtain ⟨h3, h4⟩ := addNmd_names n h1 hs
    obtain ⟨x, h5, h6⟩ := addNmd_get h2
    obtain ⟨k, h7, _⟩ := nmP_get h6
    rw [h5]
    refine ⟨fun q hq => ?_, by rw [List.length_append, h4]; rfl⟩
    rcases List.mem_append.1 hq with hq | hq
    · exact h3 q hq
    · rw [List.mem_singleton.1 hq]; exact (txtP_le h7).2
theorem nlP_lt {b : Bs} {i : Nat} {t : List Nmd × Nat} (h : nlP b i = some t) : t.1.length ≤ 64 ∧ ∀ u ∈ t.1, u.name.length ≤ 256 := by
  obtain ⟨n, j, h1, h2, h3⟩ := numM_bind h
  obtain ⟨h4, h5⟩ := addNmd_names n h3 (by simp)
  simp only [List.length_nil] at h5
  exact ⟨by omega, h4⟩
theorem addEnt_get {b : Bs} {s t : List Ent × Nat} (h : addEnt b s = some t) : ∃ x, t.1 = s.1 ++ [x] ∧ entP b s.2 = some (x, t.2) := by
  unfold addEnt at h
  cases hn : entP b s.2 with
  | none => rw [hn] at h; cases h
  | some x => rw [hn] at h; cases h; exact ⟨x.1, rfl, rfl⟩
theorem elP_lt {b : Bs} {i : Nat} {t : List Ent × Nat} (h : elP b i = some t) : t.1.length ≤ 64 := by
  obtain ⟨n, j, h1, h2, h3⟩ := numM_bind h
  have := add_len (f := addEnt b) (fun s t h => by obtain ⟨x, h5, _⟩ := addEnt_get h; rw [h5, List.length_append]; rfl) n h3
  simp only [List.length_nil] at this
  omega
theorem readR_lt {b : Bs} {i j k m i1 i2 i3 i5 : Nat} {l1 l2 : List Nmd} {lo : List Ent} {d3 : Bs} {d4 : Id32} (h1 : nlP b i = some (l1, i1)) (h2 : nlP b j = some (l2, i2)) (h3 : txtP b k 256 = some (d3, i3)) (h4 : elP b m = some (lo, i5)) : RefsLt (⟨l1, l2, d3, d4, lo⟩ : Refs) := by
  have q1 := nlP_lt h1
  have q2 := nlP_lt h2
  have q3 := (txtP_le h3).2
  have q4 := elP_lt h4
  exact ⟨by have := q1.1; simp only at this ⊢; omega, by have := q2.1; simp only at this ⊢; omega, by simp only at q4 ⊢; omega, fun u hu => by have := q1.2 u hu; omega, fun u hu => by have := q2.2 u hu; omega, by simp only; omega⟩
open Go.RowKit
theorem nlP_list (b : Bs) (i : Nat) : nlP b i = listP b i 64 (addNmd b) [] := by
  unfold nlP listP numM
  cases numP b i with
  | none => rfl
  | some x =>
    simp only [Option.bind_some]
    split <;> rfl
theorem elP_list (b : Bs) (i : Nat) : elP b i = listP b i 64 (addEnt b) [] := by
  unfold elP listP numM
  cases numP b i with
  | none => rfl
  | some x =>
    simp only [Option.bind_some]
    split <;> rfl
theorem nmP_d {b r : Bs} {n : Nmd} {i : Nat} (h : b.drop i = nmdB n ++ r) (hn : n.name.length ≤ 256) : nmP b i = some (n, i + (nmdB n).length) := by
  have e1 : b.drop i = textB n.name ++ (n.id.1 ++ r) := by rw [h]; unfold nmdB; rw [List.append_assoc]
  rw [nmP_3 (txtP_d e1 hn (by omega)) (idP_d (dropOf e1))]
  unfold nmdB
  rw [List.length_append, Nat.add_assoc]
theorem nlP_d {b r : Bs} {l : List Nmd} {i : Nat} (h : b.drop i = nlB l ++ r) (hl : l.length ≤ 64) (hn : ∀ n ∈ l, n.name.length ≤ 256) : nlP b i = some (l, i + (nlB l).length) := by
  have h' : b.drop i = Lib.uvarint l.length ++ (l.flatMap nmdB ++ r) := by rw [h]; unfold nlB; rw [List.append_assoc]
  rw [nlP_list, listP_d nmdB (addNmd b) h' hl (by omega) (fun x hx a i r hr => by unfold addNmd; rw [nmP_d hr (hn x hx)]; rfl)]
  unfold nlB
  rw [List.length_append, Nat.add_assoc]
theorem entP_d {b r : Bs} {e : Ent} {i : Nat} (h : b.drop i = entB e ++ r) (hn : e.name.length ≤ 256) (ht : e.note.length ≤ 256) : entP b i = some (e, i + (entB e).length) := by
  have e1 : b.drop i = e.kind :: (textB e.name ++ (e.old.1 ++ (e.new.1 ++ (textB e.note ++ r)))) := by rw [h]; unfold entB; simp
  have e2 : b.drop (i + 1) = textB e.name ++ (e.old.1 ++ (e.new.1 ++ (textB e.note ++ r))) := dropOf (u := [e.kind]) e1
  have e3 := dropOf e2
  have e4 := dropOf e3
  have e5 := dropOf e4
  unfold entP
  simp only [byteP_d e1, Option.bind_some, txtP_d e2 hn (by omega), idP_d e3, idP_d e4, txtP_d e5 ht (by omega), Option.some.injEq, Prod.mk.injEq, true_and]
  unfold entB
  simp only [List.length_append, List.length_singleton]
  omega
theorem elP_d {b r : Bs} {l : List Ent} {i : Nat} (h : b.drop i = Lib.uvarint l.length ++ (l.flatMap entB ++ r)) (hl : l.length ≤ 64) (hn : ∀ e ∈ l, e.name.length ≤ 256 ∧ e.note.length ≤ 256) : elP b i = some (l, i + (Lib.uvarint l.length).length + (l.flatMap entB).length) := by
  rw [elP_list, listP_d entB (addEnt b) h hl (by omega) (fun x hx a i r hr => by unfold addEnt; rw [entP_d hr (hn x hx).1 (hn x hx).2]; rfl)]
theorem decR_enc {r : Refs} (h : rightF r = true) : decR (encR r) = some r := by
  have hR := right_len h
  have e1 : (encR r).drop 0 = nlB r.branches ++ (nlB r.tags ++ (textB r.head ++ (r.at_.1 ++ (Lib.uvarint r.log.length ++ (r.log.flatMap entB ++ []))))) := by unfold encR; simp only [List.drop_zero, List.append_assoc, List.append_nil]
  have e2 := dropOf e1
  have e3 := dropOf e2
  have e4 := dropOf e3
  have e5 := dropOf e4
  have e6 := dropOf (dropOf e5)
  unfold decR
  rw [nlP_d e1 hR.bl (fun n hn => by have := hR.bn n hn; omega), Option.bind_some]
  simp only
  rw [nlP_d e2 hR.tl (fun n hn => by have := hR.tn n hn; omega), Option.bind_some]
  simp only
  rw [txtP_d e3 (by have := hR.hd; omega) (by omega), Option.bind_some]
  simp only
  rw [idP_d e4, Option.bind_some]
  simp only
  rw [elP_d e5 hR.ll (fun e he => by have := hR.ln e he; omega), Option.bind_some]
  refine if_pos ⟨?_, h⟩
  unfold encR
  simp only [List.length_append]
  omega
theorem nmP_b {b : Bs} {i n : Nat} {x : Nmd} (h : nmP b i = some (x, n)) : b.drop i = nmdB x ++ b.drop n := by
  obtain ⟨k, h1, h2⟩ := nmP_get h
  rw [txtP_b h1, idP_b h2]
  unfold nmdB
  rw [List.append_assoc]
theorem entP_b {b : Bs} {i n : Nat} {e : Ent} (h : entP b i = some (e, n)) : b.drop i = entB e ++ b.drop n := by
  unfold entP at h
  simp only [Option.bind_eq_some_iff] at h
  obtain ⟨⟨c, j1⟩, h1, ⟨s, j2⟩, h2, ⟨o, j3⟩, h3, ⟨x, j4⟩, h4, ⟨t, j5⟩, h5, h6⟩ := h
  cases h6
  rw [byteP_b h1, txtP_b h2, idP_b h3, idP_b h4, txtP_b h5]
  unfold entB
  simp only [List.append_assoc]
theorem nlP_b {b : Bs} {i : Nat} {t : List Nmd × Nat} (h : nlP b i = some t) : b.drop i = nlB t.1 ++ b.drop t.2 := by
  rw [nlP_list] at h
  exact (listP_b (Q := fun _ => True) (f := nmdB) (fun a i t h => by
    obtain ⟨x, h1, h2⟩ := addNmd_get h
    exact ⟨x, h1, trivial, nmP_b h2⟩) h).1
theorem elP_b {b : Bs} {i : Nat} {t : List Ent × Nat} (h : elP b i = some t) : b.drop i = (Lib.uvarint t.1.length ++ t.1.flatMap entB) ++ b.drop t.2 := by
  rw [elP_list] at h
  exact (listP_b (Q := fun _ => True) (f := entB) (fun a i t h => by
    obtain ⟨x, h1, h2⟩ := addEnt_get h
    exact ⟨x, h1, trivial, entP_b h2⟩) h).1
theorem decR_back {b : Bs} {r : Refs} (h : decR b = some r) : rightF r = true ∧ encR r = b := by
  unfold decR at h
  simp only [Option.bind_eq_some_iff] at h
  obtain ⟨⟨l1, j1⟩, h1, ⟨l2, j2⟩, h2, ⟨hd, j3⟩, h3, ⟨a, j4⟩, h4, ⟨lo, j5⟩, h5, h6⟩ := h
  split at h6
  · rename_i hq
    cases h6
    refine ⟨hq.2, ?_⟩
    have e : b.drop 0 = nlB l1 ++ (nlB l2 ++ (textB hd ++ (a.1 ++ ((Lib.uvarint lo.length ++ lo.flatMap entB) ++ b.drop j5)))) := by rw [nlP_b h1, nlP_b h2, txtP_b h3, idP_b h4, elP_b h5]
    rw [show j5 = b.length from hq.1, List.drop_length, List.append_nil, List.drop_zero] at e
    rw [e]
    unfold encR
    simp only [List.append_assoc]
  · cases h6
open Go.RowKit
set_option maxRecDepth 100000
section
variable {P : Program} {K : Value → World → Prop} {ρ : Slots} {w : World} {d : Option Tmp} {ty : TypeId} {pos : String} {af : Array Edge} {gd : Option (Nat × Bool)} {t : TypeId}
theorem Yk.arr2 {a b : Value} (hr : ∀ w : World, (Instr.build t #[(0, a), (1, b)]).run P w = .ok (.agg #[a, b]) w) {x y : Operand} (hx : evalR ρ x = a) (hy : evalR ρ y = b) (hk : K (.agg #[a, b]) w) :
  Yk P K ((execOp (evalR ρ) ⟨d, .build t #[(0, x), (1, y)], ty, pos, af, gd⟩).run P w) := by
 refine Yk.value (v := .agg #[a, b]) (w' := w) ?_ hk
 unfold execOp
 simp only [List.map_toArray, List.map_cons, List.map_nil, hx, hy, Sem.run_bind, hr, Result.andThen_ok, Sem.run_pure]
theorem Yk.arr2at {a b c : Value} {n : Nat} (hr : ∀ w : World, (Instr.index t (.agg #[a, b]) (NI n)).run P w = .ok c w) {x y : Operand} (hx : evalR ρ x = .agg #[a, b]) (hy : evalR ρ y = NI n) (hk : K c w) :
  Yk P K ((execOp (evalR ρ) ⟨d, .index t x y, ty, pos, af, gd⟩).run P w) := by
 refine Yk.value (v := c) (w' := w) ?_ hk
 unfold execOp
 simp only [hx, hy, Sem.run_bind, hr, Result.andThen_ok, Sem.run_pure]
end
set_option maxHeartbeats 1600000
open Go.RowKit
set_option maxRecDepth 100000
theorem wr55_ty26 : Tryd.prog.underlying 26 = some (.slice 5) := by kernel_rfl
theorem wr55_pl48 : Plain Tryd.prog 48 := fun _ _ => by kernel_rfl
theorem wr55_isz26 : (Tryd.prog.info? 26).map (·.size) = some 1 := by kernel_rfl
theorem wr55_pl52 : Plain Tryd.prog 52 := fun _ _ => by kernel_rfl
theorem wr55_ty25 : Tryd.prog.underlying 25 = some (.array 32 5) := by kernel_rfl
theorem wr55_pl51 : Plain Tryd.prog 51 := fun _ _ => by kernel_rfl
set_option maxHeartbeats 1600000
theorem rencN_any (w0 w : World) (hE0 : Ext w0 w) (gb : Nat) (hgb : w0.heap.size ≤ gb) (vb : Value) (l : Bs) (hb : w.heap[gb]? = some (.cells ([vb]).toArray 26 (0, 0))) (hr : RB w vb l) (n : Nat) (hl : l.length + 64 ≤ 140737488355328) (hn : n ≤ 9223372036854775807) :
  Calls Tryd.prog 94 #[NI n, PQ gb 0] w fun e w' => ∃ v', e = .returned (.tuple #[]) ∧ w'.heap[gb]? = some (.cells ([v']).toArray 26 (0, 0)) ∧ w'.ownsRow w.heap.size 5 1 v' (l ++ Lib.uvarint n).length (Lib.byteCells (l ++ Lib.uvarint n)) ∧ w.grownBy w' (some gb) := by
 have hgl := (bl hb)
 have hgr := World.grownBy.refl w (some gb)
 refine calls_of_wpF (args := [NI n, PQ gb 0]) Tryd.func94 rfl 9 rfl (Nat.le_of_ble_eq_true rfl) ?_
 intro ρ0 hb
 have T0 : ρ0 0 = (NI n : Value) := hb.get 0
 have T1 : ρ0 1 = (PQ gb 0 : Value) := hb.get 1
 clear hb
 have hE := Ext.refl w
 refine wt (oS rfl (Yk.cell1 wr55_ty26 rfl T1 (cellAt hb (show _ = some (vb : Value) from rfl)) (oM rfl (oS rfl (Yk.callA2 wr55_pl48 (vr vb rfl) T0 ((put_any _ vb (l) (hr.keep hE) (by omega) n (by omega)).mono ?_))))))
 rintro e w3 ⟨v1, rfl, hN2⟩
 refine ⟨_, rfl, ?_⟩
 have hA4 := Ext.refl w
 have hea5 := hE
 have hea6 := hE0
 have hz7 := hE.size
 have hz8 := hE0.size
 have hap9 : OB v1 gb := own_older hN2.own (bl hb)
 have hb := eb hN2.ext hb
 have hgr : w.grownBy w3 (some gb) := grownBy_trans hgr hN2.ext.grown (fun _ e => by cases e)
 have hE := hE.trans hN2.ext
 have hE0 := hE0.trans hN2.ext
 have hA4 := hA4.trans hN2.ext
 have ho10 := hN2.own; clear hN2
 refine oM rfl (oS rfl (Yk.extract (vs := [v1, NI 0]) (vr (.tuple #[v1, NI 0]) rfl) (show _ = some (v1 : Value) from rfl) (oS rfl (Yk.extract (vs := [v1, NI 0]) (vr (.tuple #[v1, NI 0]) rfl) (show _ = some (NI 0 : Value) from rfl) (oS rfl (Yk.storeC (i := 0) (v := v1) T1 (vr v1 rfl) hb (Nat.le_of_ble_eq_true rfl) wr55_isz26 (own_one ho10).1 (own_one ho10).2 fun w11 hb12 hg13 hs14 => ?_))))))
 have hgr : w.grownBy w11 (some gb) := grownBy_trans hgr hg13 (fun _ e => .inl e)
 clear hE
 have hE0 := row_fresh hE0 hg13 (Nat.le_trans (Nat.le_refl _) (by omega))
 clear hA4
 have ho10 := own_kept ho10 hg13 hap9
 clear hb
 have hb := hb12; clear hb12
 have hl15 := bl hb
 refine oZ (postF_end (fn := Tryd.f94) [] rfl [] (.tuple #[]) rfl trivial ?_)
 exact ⟨_, rfl, hb, ownsRow_base ho10 (by omega), hgr⟩

theorem rencT_any (w0 w : World) (hE0 : Ext w0 w) (gb : Nat) (hgb : w0.heap.size ≤ gb) (vb : Value) (l : Bs) (hb : w.heap[gb]? = some (.cells ([vb]).toArray 26 (0, 0))) (hr : RB w vb l) (s : Bs) (hl : l.length + s.length + 64 ≤ 140737488355328) :
  Calls Tryd.prog 95 #[St s, PQ gb 0] w fun e w' => ∃ v', e = .returned (.tuple #[]) ∧ w'.heap[gb]? = some (.cells ([v']).toArray 26 (0, 0)) ∧ w'.ownsRow w.heap.size 5 1 v' (l ++ textB s).length (Lib.byteCells (l ++ textB s)) ∧ w.grownBy w' (some gb) := by
 have hgl := (bl hb)
 have hgr := World.grownBy.refl w (some gb)
 refine calls_of_wpF (args := [St (s), PQ gb 0]) Tryd.func95 rfl 6 rfl (Nat.le_of_ble_eq_true rfl) ?_
 intro ρ0 hb
 have T0 : ρ0 0 = (St (s) : Value) := hb.get 0
 have T1 : ρ0 1 = (PQ gb 0 : Value) := hb.get 1
 clear hb
 have hE := Ext.refl w
 refine wt (oS rfl (Yk.cell1 wr55_ty26 rfl T1 (cellAt hb (show _ = some (vb : Value) from rfl)) (oM rfl (oS rfl (Yk.callA2 wr55_pl52 (vr vb rfl) T0 ((putTextL _ vb (l) (hr.keep hE) s (by omega)).mono ?_))))))
 rintro e w3 ⟨v1, rfl, hN2⟩
 refine ⟨_, rfl, ?_⟩
 have hA4 := Ext.refl w
 have hea5 := hE
 have hea6 := hE0
 have hz7 := hE.size
 have hz8 := hE0.size
 have hap9 : OB v1 gb := own_older hN2.own (bl hb)
 have hb := eb hN2.ext hb
 have hgr : w.grownBy w3 (some gb) := grownBy_trans hgr hN2.ext.grown (fun _ e => by cases e)
 have hE := hE.trans hN2.ext
 have hE0 := hE0.trans hN2.ext
 have hA4 := hA4.trans hN2.ext
 have ho10 := hN2.own; clear hN2
 refine oS rfl (Yk.storeC (i := 0) (v := v1) T1 (vr v1 rfl) hb (Nat.le_of_ble_eq_true rfl) wr55_isz26 (own_one ho10).1 (own_one ho10).2 fun w11 hb12 hg13 hs14 => ?_)
 have hgr : w.grownBy w11 (some gb) := grownBy_trans hgr hg13 (fun _ e => .inl e)
 clear hE
 have hE0 := row_fresh hE0 hg13 (Nat.le_trans (Nat.le_refl _) (by omega))
 clear hA4
 have ho10 := own_kept ho10 hg13 hap9
 clear hb
 have hb := hb12; clear hb12
 have hl15 := bl hb
 refine oZ (postF_end (fn := Tryd.f95) [] rfl [] (.tuple #[]) rfl trivial ?_)
 exact ⟨_, rfl, hb, ownsRow_base ho10 (by omega), hgr⟩

theorem rencI_any (w0 w : World) (hE0 : Ext w0 w) (gb : Nat) (hgb : w0.heap.size ≤ gb) (vb : Value) (l : Bs) (hb : w.heap[gb]? = some (.cells ([vb]).toArray 26 (0, 0))) (hr : RB w vb l) (id : Id32) (hl : l.length + 64 ≤ 140737488355328) :
  Calls Tryd.prog 96 #[AB id.1, PQ gb 0] w fun e w' => ∃ v', e = .returned (.tuple #[]) ∧ w'.heap[gb]? = some (.cells ([v']).toArray 26 (0, 0)) ∧ w'.ownsRow w.heap.size 5 1 v' (l ++ id.1).length (Lib.byteCells (l ++ id.1)) ∧ w.grownBy w' (some gb) := by
 have hgl := (bl hb)
 have hgr := World.grownBy.refl w (some gb)
 refine calls_of_wpF (args := [AB id.1, PQ gb 0]) Tryd.func96 rfl 6 rfl (Nat.le_of_ble_eq_true rfl) ?_
 intro ρ0 hb
 have T0 : ρ0 0 = (AB id.1 : Value) := hb.get 0
 have T1 : ρ0 1 = (PQ gb 0 : Value) := hb.get 1
 clear hb
 have hE := Ext.refl w
 refine sk fun K1 hK1 => (wt (oS rfl (Yk.box (cs := (Lib.byteCells id.1 : List Value).toArray) T0 fun n2 w3 hn4 hb5 hx6 hs7 => ?_)))
 have hA8 := Ext.refl w
 have hea9 := hE
 have hea10 := hE0
 have hz11 := hE.size
 have hz12 := hE0.size
 have hlt13 := lte (bl hb) hn4
 have hb := eb hx6 hb
 have hgr : w.grownBy w3 (some gb) := grownBy_trans hgr hx6.grown (fun _ e => by cases e)
 have hE := hE.trans hx6
 have hE0 := hE0.trans hx6
 have hA8 := hA8.trans hx6
 have hb14 := hb5; clear hb5
 have hl15 : n2 < w3.heap.size := by omega
 refine oZ (tN (hK1 _ _ (wt (oS rfl (Yk.cell1 wr55_ty26 rfl T1 (cellAt hb (show _ = some (vb : Value) from rfl)) (oS rfl (Yk.loadAll (vr (PQ n2 0) rfl) hb14 wr55_ty25 rfl (by exact sizeId_of id.2) (oS rfl (Yk.callA2 wr55_pl51 (vr vb rfl) (vr (AB id.1) rfl) ((putId_any _ vb (l) (hr.keep hE) (by omega) id).mono ?_))))))))))
 rintro e w18 ⟨v16, rfl, hN17⟩
 refine ⟨_, rfl, ?_⟩
 have hA19 := Ext.refl w3
 have hea20 := hE
 have hea21 := hE0
 have hea22 := hA8
 have hz23 := hE.size
 have hz24 := hE0.size
 have hz25 := hA8.size
 have hap26 : OB v16 gb := own_older hN17.own (bl hb)
 have hap27 : OB v16 n2 := own_older hN17.own (bl hb14)
 have hb := eb hN17.ext hb
 have hgr : w.grownBy w18 (some gb) := grownBy_trans hgr hN17.ext.grown (fun _ e => by cases e)
 have hE := hE.trans hN17.ext
 have hE0 := hE0.trans hN17.ext
 have hA8 := hA8.trans hN17.ext
 have hb14 := eb hN17.ext hb14
 have hA19 := hA19.trans hN17.ext
 have ho28 := hN17.own; clear hN17
 refine oS rfl (Yk.storeC (i := 0) (v := v16) T1 (vr v16 rfl) hb (Nat.le_of_ble_eq_true rfl) wr55_isz26 (own_one ho28).1 (own_one ho28).2 fun w29 hb30 hg31 hs32 => ?_)
 have hgr : w.grownBy w29 (some gb) := grownBy_trans hgr hg31 (fun _ e => .inl e)
 clear hE
 have hE0 := row_fresh hE0 hg31 (Nat.le_trans (Nat.le_refl _) (by omega))
 clear hA8
 have hb14 := kb hg31 hb14 (by omega)
 clear hA19
 have ho28 := own_kept ho28 hg31 hap26
 clear hb
 have hb := hb30; clear hb30
 have hl33 := bl hb
 refine oZ (postF_end (fn := Tryd.f96) [] rfl [] (.tuple #[]) rfl trivial ?_)
 exact ⟨_, rfl, hb, ownsRow_base ho28 (by omega), hgr⟩
end Go.Proofs.YtmonlobfofkbdaaDoor
