/- Part 5 of what stands behind these statements: laws and walks of the functions that are reached. Conditions: those that each theorem names. -/
import Derived.Test.YtmonlobfofkbdaaDoorB4
set_option linter.unusedVariables false
set_option linter.unusedSimpArgs false
namespace Go.Proofs.YtmonlobfofkbdaaDoor
open Go.RowKit
set_option maxRecDepth 100000
theorem wr56_ty53 : ∃ fs, Tryd.prog.underlying 53 = some (.struct fs) := struct_of (by kernel_rfl)
theorem wr56_isz53 : (Tryd.prog.info? 53).map (·.size) = some 36 := by kernel_rfl
theorem wr56_pl31 : Plain Tryd.prog 31 := fun _ _ => by kernel_rfl
theorem wr56_al26 {d : Option Tmp} {ty : TypeId} {pos : String} {af : Array Edge} {gd : Option (Nat × Bool)} (σ : Operand → Value) (w : World) : (execOp σ ⟨d, .alloc 26, ty, pos, af, gd⟩).run Tryd.prog w = .ok (.value (PQ w.heap.size 0)) (w.alloc (.cells ([(Value.slice none 0 0)]).toArray 26)) := by kernel_rfl
theorem wr56_fo53_0 : FieldOff Tryd.prog 53 0 0 := fun b o w => by simp [go_sem]
theorem wr56_ty51 : Tryd.prog.underlying 51 = some (.slice 70) := by kernel_rfl
theorem wr56_fo53_1 : FieldOff Tryd.prog 53 1 1 := fun b o w => by simp [go_sem]
theorem wr56_ba {a b : Value} (ha : ∃ o n c, a = .slice o n c) (hb : ∃ o n c, b = .slice o n c) (w : World) : (Instr.build 139 #[(0, a), (1, b)]).run Tryd.prog w = .ok (.agg #[a, b]) w := by
 obtain ⟨_, _, _, rfl⟩ := ha
 obtain ⟨_, _, _, rfl⟩ := hb
 kernel_rfl
theorem wr56_ix0 {a b : Value} (ha : ∃ o n c, a = .slice o n c) (hb : ∃ o n c, b = .slice o n c) (w : World) : (Instr.index 139 (.agg #[a, b]) (NI 0)).run Tryd.prog w = .ok a w := by
 obtain ⟨_, _, _, rfl⟩ := ha
 obtain ⟨_, _, _, rfl⟩ := hb
 kernel_rfl
theorem wr56_ix1 {a b : Value} (ha : ∃ o n c, a = .slice o n c) (hb : ∃ o n c, b = .slice o n c) (w : World) : (Instr.index 139 (.agg #[a, b]) (NI 1)).run Tryd.prog w = .ok b w := by
 obtain ⟨_, _, _, rfl⟩ := ha
 obtain ⟨_, _, _, rfl⟩ := hb
 kernel_rfl
theorem wr56_pl94 : Plain Tryd.prog 94 := fun _ _ => by kernel_rfl
theorem wr56_szg70 : ∀ w' : World, (sizeOf 70).run Tryd.prog w' = .ok 33 w' := fun _ => by kernel_rfl
theorem wr56_ty70 : ∃ fs, Tryd.prog.underlying 70 = some (.struct fs) := struct_of (by kernel_rfl)
theorem wr56_isz70 : (Tryd.prog.info? 70).map (·.size) = some 33 := by kernel_rfl
theorem wr56_al70 {d : Option Tmp} {ty : TypeId} {pos : String} {af : Array Edge} {gd : Option (Nat × Bool)} (σ : Operand → Value) (w : World) : (execOp σ ⟨d, .alloc 70, ty, pos, af, gd⟩).run Tryd.prog w = .ok (.value (PQ w.heap.size 0)) (w.alloc (.cells (nmdC (⟨[], zid⟩ : Nmd)).toArray 70)) := by kernel_rfl
theorem wr56_fo70_0 : FieldOff Tryd.prog 70 0 0 := fun b o w => by simp [go_sem]
theorem wr56_ty9 : Tryd.prog.underlying 9 = some (.string) := by kernel_rfl
theorem wr56_pl95 : Plain Tryd.prog 95 := fun _ _ => by kernel_rfl
theorem wr56_fo70_1 : FieldOff Tryd.prog 70 1 1 := fun b o w => by simp [go_sem]
theorem wr56_ty25 : Tryd.prog.underlying 25 = some (.array 32 5) := by kernel_rfl
theorem wr56_pl96 : Plain Tryd.prog 96 := fun _ _ => by kernel_rfl
theorem wr56_fo53_2 : FieldOff Tryd.prog 53 2 2 := fun b o w => by simp [go_sem]
theorem wr56_fo53_3 : FieldOff Tryd.prog 53 3 3 := fun b o w => by simp [go_sem]
theorem wr56_fo53_4 : FieldOff Tryd.prog 53 4 35 := fun b o w => by simp [go_sem]
theorem wr56_ty47 : Tryd.prog.underlying 47 = some (.slice 122) := by kernel_rfl
theorem wr56_szg122 : ∀ w' : World, (sizeOf 122).run Tryd.prog w' = .ok 67 w' := fun _ => by kernel_rfl
theorem wr56_ty122 : ∃ fs, Tryd.prog.underlying 122 = some (.struct fs) := struct_of (by kernel_rfl)
theorem wr56_isz122 : (Tryd.prog.info? 122).map (·.size) = some 67 := by kernel_rfl
theorem wr56_al122 {d : Option Tmp} {ty : TypeId} {pos : String} {af : Array Edge} {gd : Option (Nat × Bool)} (σ : Operand → Value) (w : World) : (execOp σ ⟨d, .alloc 122, ty, pos, af, gd⟩).run Tryd.prog w = .ok (.value (PQ w.heap.size 0)) (w.alloc (.cells (entC (⟨0, [], zid, zid, []⟩ : Ent)).toArray 122)) := by kernel_rfl
theorem wr56_ty26 : Tryd.prog.underlying 26 = some (.slice 5) := by kernel_rfl
theorem wr56_fo122_0 : FieldOff Tryd.prog 122 0 0 := fun b o w => by simp [go_sem]
theorem wr56_fo67_0 : FieldOff Tryd.prog 67 0 0 := fun b o w => by simp [go_sem]
theorem wr56_ty5 : Tryd.prog.underlying 5 = some (.int .u8) := by kernel_rfl
theorem wr56_l1_26 (z : Int) (w : World) : (Instr.buildSlice 26 1 #[(0, .int .u8 z)]).run Tryd.prog w = .ok (.slice (some ⟨w.heap.size, 0, none⟩) 1 1) (w.alloc (.cells #[.int .u8 z] 5)) := by kernel_rfl
theorem wr56_inf5 : (Tryd.prog.info? 5).map (fun i => (i.zero, i.size, i.bytes)) = some (some (.int .u8 0), 1, 1) := by kernel_rfl
theorem wr56_isz26 : (Tryd.prog.info? 26).map (·.size) = some 1 := by kernel_rfl
theorem wr56_fo67_1 : FieldOff Tryd.prog 67 1 1 := fun b o w => by simp [go_sem]
theorem wr56_fo67_2 : FieldOff Tryd.prog 67 2 2 := fun b o w => by simp [go_sem]
theorem wr56_fo67_3 : FieldOff Tryd.prog 67 3 34 := fun b o w => by simp [go_sem]
theorem wr56_fo122_1 : FieldOff Tryd.prog 122 1 66 := fun b o w => by simp [go_sem]
set_option maxHeartbeats 3200000
theorem encodeR_any (w : World) (z : RefsV) (hm : RefsAt w z) (hL : RefsLt z.1) :
  Calls Tryd.prog 45 #[.agg (refsC z).toArray] w fun e w' => ∃ v, e = .returned (.tuple #[v, NI (if rightF z.1 = true then 0 else 1)]) ∧ RB w' v (if rightF z.1 = true then encR z.1 else []) ∧ Ext w w' := by
 have hmt := hm.branches
 have hmg := hm.tags
 have hml := hm.log
 refine calls_of_wpF (args := [.agg (refsC z).toArray]) Tryd.func45 rfl 95 rfl (Nat.le_of_ble_eq_true rfl) ?_
 intro ρ0 hb
 have T0 : ρ0 0 = (.agg (refsC z).toArray : Value) := hb.get 0
 clear hb
 have hE := Ext.refl w
 refine sk fun K1 hK1 => (wt (oS rfl (Yk.box (cs := (refsC z : List Value).toArray) T0 fun n2 w3 hn4 hb5 hx6 hs7 => ?_)))
 have hE := hE.trans hx6
 have hb8 := hb5; clear hb5
 have hl9 : n2 < w3.heap.size := by omega
 refine oA rfl (oA rfl (oZ (tN (hK1 _ _ (sk fun K10 hK10 => (sk fun K11 hK11 => (wt (oS rfl (Yk.loadAll (vr (PQ n2 0) rfl) hb8 (wr56_ty53).choose_spec rfl (st_isz (refs_len z) wr56_isz53) (oS rfl (Yk.callA1 wr56_pl31 (vr (.agg (refsC z).toArray) rfl) ((fright_any _ z ⟨(hmt.keep hE), (hmg.keep hE), (hml.keep hE)⟩ hL).mono ?_))))))))))))
 rintro e w13 ⟨rfl, hx12⟩
 refine ⟨_, rfl, ?_⟩
 have hE := hE.trans hx12
 have hb8 := eb hx12 hb8
 refine oS rfl (Yk.notB (vr (.bool (rightF z.1)) rfl) (oZ (tN (hK11 _ _ ?_))))
 refine wpF_condB (!(rightF z.1)) (vr (.bool (!(rightF z.1))) rfl) (fun hc0 => ?_) (fun hc0 => ?_)
 ·have hrt : rightF z.1 = false := by simpa using hc0
  refine sk fun K14 hK14 => (wt (oA rfl (oA rfl (oZ (tN (hK14 _ _ (wpF_ret (thenF_ret (postF_ret (fn := Tryd.f45) _ rfl [(Value.slice none 0 0), NI 1] (.tuple #[(Value.slice none 0 0), NI 1]) rfl ⟨rfl, rfl, trivial⟩ ?_)))))))))
  exact ⟨.slice none 0 0, by rw [hrt]; rfl, by rw [hrt]; exact RB.nil _, hE⟩
 have hrt : rightF z.1 = true := by simpa using hc0
 have hR := right_len hrt
 have hbl_ := hR.bl
 have htl_ := hR.tl
 have hgl_ := hR.ll
 refine wpF_skip (tN (hK10 _ _ (sk fun K15 hK15 => (wt (oS rfl (Yk.alloc (cs := ([(Value.slice none 0 0)]).toArray) wr56_al26 fun n16 w17 hn18 hb19 hx20 hs21 => ?_))))))
 have hA22 := Ext.refl w13
 have hea23 := hE
 have hz24 := hE.size
 have hlt25 := lte (bl hb8) hn18
 have hE := hE.trans hx20
 have hb8 := eb hx20 hb8
 have hA22 := hA22.trans hx20
 have hb26 := hb19; clear hb19
 have hl27 : n16 < w17.heap.size := by omega
 refine oZ ?_
 have hrow0 : w17.ownsRow w.heap.size 5 1 (Value.slice none 0 0) ([] : List UInt8).length (Lib.byteCells ([] : List UInt8)) := World.ownsRow_nil _ _ _ 1
 have hap28 : Value.ownBlock (Value.slice none 0 0) ≠ some n2 := by simp [Value.ownBlock]
 have hap29 : Value.ownBlock (Value.slice none 0 0) ≠ some n16 := by simp [Value.ownBlock]
 refine tN (hK15 _ _ (sk fun K30 hK30 => (wt (oS rfl (Yk.mkFunc (vs := #[PQ n16 0]) (by simp only [List.map_toArray, List.map_cons, List.map_nil]; exact congrArg List.toArray (list1 (vr (PQ n16 0) rfl))) (oA rfl (oZ (tN (hK30 _ _ (sk fun K31 hK31 => (wt (oS rfl (Yk.mkFunc (vs := #[PQ n16 0]) (by simp only [List.map_toArray, List.map_cons, List.map_nil]; exact congrArg List.toArray (list1 (vr (PQ n16 0) rfl))) (oA rfl (oZ (tN (hK31 _ _ (sk fun K32 hK32 => (wt (oS rfl (Yk.mkFunc (vs := #[PQ n16 0]) (by simp only [List.map_toArray, List.map_cons, List.map_nil]; exact congrArg List.toArray (list1 (vr (PQ n16 0) rfl))) ?_)))))))))))))))))))))
 refine oA rfl (oZ (tN (hK32 _ _ (sk fun K33 hK33 => (sk fun K34 hK34 => (wt (oS rfl (Yk.fieldAt wr56_fo53_0 (vr (PQ n2 0) rfl) (oS rfl (Yk.cell1 wr56_ty51 rfl (vr (PQ n2 0) rfl) (cellAt hb8 (show (refsC z)[0]? = some (z.2.branches : Value) from refs_g0 z)) (oS rfl (Yk.fieldAt wr56_fo53_1 (vr (PQ n2 0) rfl) (oS rfl (Yk.cell1 wr56_ty51 rfl (vr (PQ n2 1) rfl) (cellAt hb8 (show (refsC z)[1]? = some (z.2.tags : Value) from refs_g1 z)) (oS rfl (Yk.arr2 (wr56_ba (RG.slice (hmt.keep hE)) (RG.slice (hmg.keep hE))) (vr z.2.branches rfl) (vr z.2.tags rfl) (oM rfl (oL_ [(0, .agg (refsC z).toArray), (1, PQ n2 0), (2, (Value.slice none 0 0)), (3, NI 0), (4, PQ n16 0), (5, .func (.func 94) #[] #[PQ n16 0]), (6, .func (.func 95) #[] #[PQ n16 0]), (7, .func (.func 96) #[] #[PQ n16 0]), (24, .agg #[z.2.branches, z.2.tags]), (25, NI 0)] ⟨T0, rfl, rfl, rfl, rfl, rfl, rfl, rfl, rfl, rfl, trivial⟩ fun ρ35 ⟨T0, T1, T2, T3, T4, T5, T6, T7, T24, T25, _⟩ => (tN (hK34 _ _ (wpF_block (wpF_loop (fun (ρ : Slots) (wz : World) => ∃ i : Nat, ∃ vb_i : Value, ρ 0 = (.agg (refsC z).toArray : Value) ∧ ρ 1 = (PQ n2 0 : Value) ∧ ρ 2 = ((Value.slice none 0 0) : Value) ∧ ρ 3 = (NI 0 : Value) ∧ ρ 4 = (PQ n16 0 : Value) ∧ ρ 5 = (.func (.func 94) #[] #[PQ n16 0] : Value) ∧ ρ 6 = (.func (.func 95) #[] #[PQ n16 0] : Value) ∧ ρ 7 = (.func (.func 96) #[] #[PQ n16 0] : Value) ∧ ρ 24 = (.agg #[z.2.branches, z.2.tags] : Value) ∧ ρ 25 = (NI i : Value) ∧ Ext w wz ∧ wz.heap[n2]? = some (.cells (refsC z).toArray 53 (0, 0)) ∧ Ext w13 wz ∧ wz.heap[n16]? = some (.cells ([vb_i]).toArray 26 (0, 0)) ∧ wz.ownsRow w.heap.size 5 1 vb_i (lsB z.1 i : List UInt8).length (Lib.byteCells (lsB z.1 i)) ∧ (i ≤ 2) ∧ (OB vb_i n2) ∧ (OB vb_i n16) ∧ True) (fun ρ _ => 2 - (intOf (ρ 25)).toNat) ⟨0, (Value.slice none 0 0), T0, T1, T2, T3, T4, T5, T6, T7, T24, T25, hE, hb8, hA22, hb26, own_eq hrow0 ((lsB_0 rfl).symm), Nat.zero_le _, hap28, hap29, trivial⟩ ?_))))))))))))))))))))))
 clear hb26
 clear hrow0
 clear hE hb8 hA22
 rintro ρ36 w37 ⟨i, vb_i, T0, T1, T2, T3, T4, T5, T6, T7, T24, T25, hE, hb8, hA22, hb_i, ho_i, hii, hap_n2i, hap_n16i, -⟩
 have q25 := T25
 have hgli := (bl hb_i)
 refine sk fun K38 hK38 => (wt (oS rfl (Yk.eqI (a := (i : Nat)) (b := (2 : Nat)) T25 rfl (k_lss _ _ _ _) (oZ (tN (hK38 _ _ (sk fun K39 hK39 => ?_)))))))
 refine wpF_cond ((i) < (2)) (vr (.bool (decide ((i) < (2)))) rfl) (fun hc1 => ?_) (fun hc1 => ?_)
 ·have h01 : i = 0 ∨ i = 1 := by omega
  have hll := lsB_len hR i
  rcases h01 with h0 | h0
  ·have hu1 := uvarint_len9 (n := z.1.branches.length) (by have := hR.bl; omega)
   refine wpF_skip (tN (hK39 _ _ (sk fun K40 hK40 => (wpF_block (sk fun K41 hK41 => (wt (oS rfl (Yk.arr2at (wr56_ix0 (RG.slice (hmt.keep hE)) (RG.slice (hmg.keep hE))) T24 ((show _ = NI i from T25).trans (by rw [h0])) (oA rfl (oZ (tN (hK41 _ _ (sk fun K42 hK42 => (wt (oM rfl (oM rfl (oS rfl (Yk.lenRG wr56_ty51 (RG.of (hmt.keep hE) (vr z.2.branches rfl)) (oS rfl (Yk.clo wr56_pl94 (caps := #[PQ n16 0]) T5 #[NI ((z.1.branches).length), PQ n16 0] (by simp only [List.map_toArray, List.map_cons, List.map_nil, List.append_toArray, List.cons_append, List.nil_append]; exact congrArg List.toArray (list2 (vr (NI ((z.1.branches).length)) rfl) rfl)) ?_))))))))))))))))))))
   refine (rencN_any w _ hE n16 (by omega) vb_i (lsB z.1 i) hb_i (RB.ofOwn ho_i) ((z.1.branches).length) (by (try simp only [List.length_append, List.length_cons, List.length_nil]); omega) (by omega)).mono ?_
   rintro e w47 ⟨v43, rfl, hb44, ho45, hg46⟩
   refine ⟨_, rfl, ?_⟩
   have hap48 : OB v43 n2 := own_older ho45 (bl hb8)
   have hap49 : OB v43 n16 := own_older ho45 (bl hb_i)
   have ho45 := ownsRow_base ho45 hE.size
   have hE := row_fresh hE hg46 (Nat.le_trans hz24 (by omega))
   have hb8 := kb hg46 hb8 (by omega)
   have hA22 := row_fresh hA22 hg46 (Nat.le_trans (Nat.le_refl _) (by omega))
   clear hb_i
   clear ho_i
   have hb_i := hb44; clear hb44
   have hl50 := bl hb_i
   refine oZ (tN (hK42 _ _ (sk fun K51 hK51 => (wt (oM rfl (oS rfl (Yk.lenRG wr56_ty51 (RG.of (hmt.keep hE) (vr z.2.branches rfl)) (oM rfl (oL_ [(0, .agg (refsC z).toArray), (1, PQ n2 0), (2, (Value.slice none 0 0)), (3, NI 0), (4, PQ n16 0), (5, .func (.func 94) #[] #[PQ n16 0]), (6, .func (.func 95) #[] #[PQ n16 0]), (7, .func (.func 96) #[] #[PQ n16 0]), (9, z.2.branches), (24, .agg #[z.2.branches, z.2.tags]), (25, NI i), (32, z.2.branches), (33, NI ((z.1.branches).length)), (34, NI 0)] ⟨T0, T1, T2, T3, T4, T5, T6, T7, rfl, T24, T25, rfl, rfl, rfl, trivial⟩ fun ρ52 ⟨T0, T1, T2, T3, T4, T5, T6, T7, T9, T24, T25, T32, T33, T34, _⟩ => (tN (hK51 _ _ (wpF_block (wpF_loop (fun (ρ : Slots) (wz : World) => ∃ j : Nat, ∃ vb_j : Value, ρ 0 = (.agg (refsC z).toArray : Value) ∧ ρ 1 = (PQ n2 0 : Value) ∧ ρ 2 = ((Value.slice none 0 0) : Value) ∧ ρ 3 = (NI 0 : Value) ∧ ρ 4 = (PQ n16 0 : Value) ∧ ρ 5 = (.func (.func 94) #[] #[PQ n16 0] : Value) ∧ ρ 6 = (.func (.func 95) #[] #[PQ n16 0] : Value) ∧ ρ 7 = (.func (.func 96) #[] #[PQ n16 0] : Value) ∧ ρ 9 = (z.2.branches : Value) ∧ ρ 24 = (.agg #[z.2.branches, z.2.tags] : Value) ∧ ρ 25 = (NI i : Value) ∧ ρ 32 = (z.2.branches : Value) ∧ ρ 33 = (NI ((z.1.branches).length) : Value) ∧ ρ 34 = (NI j : Value) ∧ Ext w wz ∧ wz.heap[n2]? = some (.cells (refsC z).toArray 53 (0, 0)) ∧ Ext w13 wz ∧ wz.heap[n16]? = some (.cells ([vb_j]).toArray 26 (0, 0)) ∧ wz.ownsRow w.heap.size 5 1 vb_j (((lsB z.1 i : List UInt8) ++ Lib.uvarint ((z.1.branches).length) : List UInt8) ++ (z.1.branches.take j).flatMap nmdB : List UInt8).length (Lib.byteCells (((lsB z.1 i : List UInt8) ++ Lib.uvarint ((z.1.branches).length) : List UInt8) ++ (z.1.branches.take j).flatMap nmdB)) ∧ (j ≤ z.1.branches.length) ∧ (OB vb_j n2) ∧ (OB vb_j n16) ∧ True) (fun ρ _ => z.1.branches.length - (intOf (ρ 34)).toNat) ⟨0, v43, T0, T1, T2, T3, T4, T5, T6, T7, T9, T24, T25, T32, T33, T34, hE, hb8, hA22, hb_i, own_eq ho45 (by simp), Nat.zero_le _, hap48, hap49, trivial⟩ ?_)))))))))))))
   clear hb_i
   clear ho45
   clear hE hb8 hA22
   rintro ρ53 w54 ⟨j, vb_j, T0, T1, T2, T3, T4, T5, T6, T7, T9, T24, T25, T32, T33, T34, hE, hb8, hA22, hb_j, ho_j, hij, hap_n2j, hap_n16j, -⟩
   have q34 := T34
   have hglj := (bl hb_j)
   refine sk fun K55 hK55 => (wt (oS rfl (Yk.eqI (a := (j : Nat)) (b := ((z.1.branches).length : Nat)) T34 T33 (k_lss _ _ _ _) (oZ (tN (hK55 _ _ (sk fun K56 hK56 => ?_)))))))
   refine wpF_cond ((j) < ((z.1.branches).length)) (vr (.bool (decide ((j) < ((z.1.branches).length)))) rfl) (fun hc2 => ?_) (fun hc2 => ?_)
   ·have hltj : j < z.1.branches.length := hc2
    have hnl := hR.bn _ (getD_mem dNmd hltj)
    have htl := textR_len hnl (by omega)
    have hfl := nmdR_len hR.bl hR.bn j
    have hidl : (z.1.branches.getD j dNmd).id.1.length = 32 := (z.1.branches.getD j dNmd).id.2
    refine wpF_skip (tN (hK56 _ _ (sk fun K57 hK57 => (wpF_block (sk fun K58 hK58 => (wt ?_))))))
    have hl61 : (nmdC ((z.1.branches).getD (j) dNmd)).length = 33 := (RG.elem (hmt.keep hE) dNmd (hltj))
    refine oS rfl (Yk.atRG wr56_ty51 wr56_szg70 (by decide) dNmd (RG.of (hmt.keep hE) T32) T34 (hltj) fun v59 hp60 => (oS rfl (Yk.loadPR (PR.of hp60 (vr v59 rfl)) (wr56_ty70).choose_spec rfl (by rw [nmd_len]; exact wr56_isz70) (oS rfl (Yk.alloc (cs := (nmdC (⟨[], zid⟩ : Nmd)).toArray) wr56_al70 fun n62 w63 hn64 hb65 hx66 hs67 => ?_)))))
    have hA68 := Ext.refl w54
    have hea69 := hE
    have hea70 := hA22
    have hz71 := hE.size
    have hz72 := hA22.size
    have hlt73 := lte (bl hb8) hn64
    have hlt74 := lte (bl hb_j) hn64
    have hap75 : OB vb_j n62 := own_newer ho_j (by omega)
    have hE := hE.trans hx66
    have hb8 := eb hx66 hb8
    have hA22 := hA22.trans hx66
    have hb_j := eb hx66 hb_j
    have ho_j := Stab.own _ _ _ _ _ _ _ _ ho_j hx66
    have hA68 := hA68.trans hx66
    have hb76 := hb65; clear hb65
    have hl77 : n62 < w63.heap.size := by omega
    refine oS rfl (Yk.storeAll (vr (PQ n62 0) rfl) (vr (.agg (nmdC ((z.1.branches).getD (j) dNmd)).toArray) rfl) hb76 (by simp only [List.size_toArray, nmd_len]) (st_isz (nmd_len _) wr56_isz70) (nmd_one (x := ((z.1.branches).getD (j) dNmd))) fun w78 hb79 hg80 hs81 => ?_)
    have hE := row_fresh hE hg80 (Nat.le_trans hz71 (by omega))
    have hb8 := kb hg80 hb8 (by omega)
    have hA22 := row_fresh hA22 hg80 (Nat.le_trans hz72 (by omega))
    have hb_j := kb hg80 hb_j (by omega)
    have ho_j := own_kept ho_j hg80 hap75
    have hA68 := row_fresh hA68 hg80 (Nat.le_trans (Nat.le_refl _) (by omega))
    clear hb76
    have hb76 : w78.heap[n62]? = some (.cells (nmdC ((z.1.branches).getD (j) dNmd)).toArray 70 (0, 0)) := hb79; clear hb79
    have hl82 := bl hb76
    refine oZ ?_
    clear hp60
    refine tN (hK58 _ _ (sk fun K83 hK83 => (wt (oM rfl (oS rfl (Yk.fieldAt wr56_fo70_0 (vr (PQ n62 0) rfl) (oS rfl (Yk.cell1 wr56_ty9 rfl (vr (PQ n62 0) rfl) (cellAt hb76 (show (nmdC ((z.1.branches).getD (j) dNmd))[0]? = some (St ((((z.1.branches).getD (j) dNmd)).name) : Value) from nmd_g0 ((z.1.branches).getD (j) dNmd))) (oS rfl (Yk.clo wr56_pl95 (caps := #[PQ n16 0]) T6 #[St ((((z.1.branches).getD (j) dNmd)).name), PQ n16 0] (by simp only [List.map_toArray, List.map_cons, List.map_nil, List.append_toArray, List.cons_append, List.nil_append]; exact congrArg List.toArray (list2 (vr (St ((((z.1.branches).getD (j) dNmd)).name)) rfl) rfl)) ((rencT_any w _ hE n16 (by omega) vb_j (((lsB z.1 i : List UInt8) ++ Lib.uvarint ((z.1.branches).length) : List UInt8) ++ (z.1.branches.take j).flatMap nmdB) hb_j (RB.ofOwn ho_j) ((((z.1.branches).getD (j) dNmd)).name) (by (try simp only [List.length_append, List.length_cons, List.length_nil]); omega)).mono ?_)))))))))))
    rintro e w88 ⟨v84, rfl, hb85, ho86, hg87⟩
    refine ⟨_, rfl, ?_⟩
    have hap89 : OB v84 n2 := own_older ho86 (bl hb8)
    have hap90 : OB v84 n16 := own_older ho86 (bl hb_j)
    have hap91 : OB v84 n62 := own_older ho86 (bl hb76)
    have ho86 := ownsRow_base ho86 hE.size
    have hE := row_fresh hE hg87 (Nat.le_trans hz24 (by omega))
    have hb8 := kb hg87 hb8 (by omega)
    have hA22 := row_fresh hA22 hg87 (Nat.le_trans (Nat.le_refl _) (by omega))
    clear hA68
    have hb76 := kb hg87 hb76 (by omega)
    clear hb_j
    clear ho_j
    have hb_j := hb85; clear hb85
    have hl92 := bl hb_j
    refine oZ (tN (hK83 _ _ (wt (oM rfl (oS rfl (Yk.fieldAt wr56_fo70_1 (vr (PQ n62 0) rfl) (oS rfl (Yk.loadPR (PR.blk hb76 (nmd_m1 ((z.1.branches).getD (j) dNmd)) (nmd_n1 ((z.1.branches).getD (j) dNmd)) (vr (PQ n62 1) rfl)) wr56_ty25 rfl (sizeId_of (((z.1.branches).getD (j) dNmd)).id.2) (oS rfl (Yk.clo wr56_pl96 (caps := #[PQ n16 0]) T7 #[AB ((((z.1.branches).getD (j) dNmd)).id.1), PQ n16 0] (by simp only [List.map_toArray, List.map_cons, List.map_nil, List.append_toArray, List.cons_append, List.nil_append]; exact congrArg List.toArray (list2 (vr (AB ((((z.1.branches).getD (j) dNmd)).id.1)) rfl) rfl)) ((rencI_any w _ hE n16 (by omega) v84 ((((lsB z.1 i : List UInt8) ++ Lib.uvarint ((z.1.branches).length) : List UInt8) ++ (z.1.branches.take j).flatMap nmdB : List UInt8) ++ textB ((((z.1.branches).getD (j) dNmd)).name)) hb_j (RB.ofOwn ho86) ((((z.1.branches).getD (j) dNmd)).id) (by (try simp only [List.length_append, List.length_cons, List.length_nil]); omega)).mono ?_)))))))))))
    rintro e w97 ⟨v93, rfl, hb94, ho95, hg96⟩
    refine ⟨_, rfl, ?_⟩
    have hap98 : OB v93 n2 := own_older ho95 (bl hb8)
    have hap99 : OB v93 n62 := own_older ho95 (bl hb76)
    have hap100 : OB v93 n16 := own_older ho95 (bl hb_j)
    have ho95 := ownsRow_base ho95 hE.size
    have hE := row_fresh hE hg96 (Nat.le_trans hz24 (by omega))
    have hb8 := kb hg96 hb8 (by omega)
    have hA22 := row_fresh hA22 hg96 (Nat.le_trans (Nat.le_refl _) (by omega))
    have hb76 := kb hg96 hb76 (by omega)
    clear hb_j
    clear ho86
    have hb_j := hb94; clear hb94
    have hl101 := bl hb_j
    refine oZ (bN (tN (hK57 _ _ (wt (oS rfl (Yk.bin (xv := NI j) (yv := NI 1) T34 rfl rfl (i64_add _ _ _ (by omega)) (oM rfl (oL_ [(0, .agg (refsC z).toArray), (1, PQ n2 0), (2, (Value.slice none 0 0)), (3, NI 0), (4, PQ n16 0), (5, .func (.func 94) #[] #[PQ n16 0]), (6, .func (.func 95) #[] #[PQ n16 0]), (7, .func (.func 96) #[] #[PQ n16 0]), (9, z.2.branches), (11, PQ n62 0), (24, .agg #[z.2.branches, z.2.tags]), (25, NI i), (32, z.2.branches), (33, NI ((z.1.branches).length)), (34, NI ((j) + (1)))] ⟨T0, T1, T2, T3, T4, T5, T6, T7, T9, rfl, T24, T25, T32, T33, rfl, trivial⟩ fun ρ102 ⟨T0, T1, T2, T3, T4, T5, T6, T7, T9, T11, T24, T25, T32, T33, T34, _⟩ => (tN (And.intro ⟨j + 1, v93, T0, T1, T2, T3, T4, T5, T6, T7, T9, T24, T25, T32, T33, T34, hE, hb8, hA22, hb_j, own_eq ho95 (by rw [take_flat_snoc dNmd hltj]; simp only [nmdB, List.append_assoc]), by omega, hap98, hap100, trivial⟩ ?_))))))))))
    show z.1.branches.length - (intOf (ρ102 34)).toNat < z.1.branches.length - (intOf (ρ53 34)).toNat
    rw [T34, q34]
    simp only [intOf, Int.toNat_natCast]; omega
   have hje : j = z.1.branches.length := by omega
   refine wpF_exit (thenF_exit (thenF_exit (inBlockF_hit (bN (tN (hK40 _ _ (wt (oS rfl (Yk.bin (xv := NI i) (yv := NI 1) T25 rfl rfl (i64_add _ _ _ (by omega)) (oM rfl (oL_ [(0, .agg (refsC z).toArray), (1, PQ n2 0), (2, (Value.slice none 0 0)), (3, NI 0), (4, PQ n16 0), (5, .func (.func 94) #[] #[PQ n16 0]), (6, .func (.func 95) #[] #[PQ n16 0]), (7, .func (.func 96) #[] #[PQ n16 0]), (9, z.2.branches), (24, .agg #[z.2.branches, z.2.tags]), (25, NI ((i) + (1))), (32, z.2.branches), (33, NI ((z.1.branches).length)), (34, NI j)] ⟨T0, T1, T2, T3, T4, T5, T6, T7, T9, T24, rfl, T32, T33, T34, trivial⟩ fun ρ103 ⟨T0, T1, T2, T3, T4, T5, T6, T7, T9, T24, T25, T32, T33, T34, _⟩ => (tN (And.intro ⟨i + 1, vb_j, T0, T1, T2, T3, T4, T5, T6, T7, T24, T25, hE, hb8, hA22, hb_j, own_eq ho_j (by rw [lsB_0 h0, lsB_1 (show i + 1 = 1 by omega), hje, List.take_length]; simp [nlB]), by omega, hap_n2j, hap_n16j, trivial⟩ ?_)))))))))))))
   show 2 - (intOf (ρ103 25)).toNat < 2 - (intOf (ρ36 25)).toNat
   rw [T25, q25]
   simp only [intOf, Int.toNat_natCast]; omega
  have hu1 := uvarint_len9 (n := z.1.tags.length) (by have := hR.tl; omega)
  refine wpF_skip (tN (hK39 _ _ (sk fun K104 hK104 => (wpF_block (sk fun K105 hK105 => (wt (oS rfl (Yk.arr2at (wr56_ix1 (RG.slice (hmt.keep hE)) (RG.slice (hmg.keep hE))) T24 ((show _ = NI i from T25).trans (by rw [h0])) (oA rfl (oZ (tN (hK105 _ _ (sk fun K106 hK106 => (wt (oM rfl (oM rfl (oS rfl (Yk.lenRG wr56_ty51 (RG.of (hmg.keep hE) (vr z.2.tags rfl)) (oS rfl (Yk.clo wr56_pl94 (caps := #[PQ n16 0]) T5 #[NI ((z.1.tags).length), PQ n16 0] (by simp only [List.map_toArray, List.map_cons, List.map_nil, List.append_toArray, List.cons_append, List.nil_append]; exact congrArg List.toArray (list2 (vr (NI ((z.1.tags).length)) rfl) rfl)) ?_))))))))))))))))))))
  refine (rencN_any w _ hE n16 (by omega) vb_i (lsB z.1 i) hb_i (RB.ofOwn ho_i) ((z.1.tags).length) (by (try simp only [List.length_append, List.length_cons, List.length_nil]); omega) (by omega)).mono ?_
  rintro e w111 ⟨v107, rfl, hb108, ho109, hg110⟩
  refine ⟨_, rfl, ?_⟩
  have hap112 : OB v107 n2 := own_older ho109 (bl hb8)
  have hap113 : OB v107 n16 := own_older ho109 (bl hb_i)
  have ho109 := ownsRow_base ho109 hE.size
  have hE := row_fresh hE hg110 (Nat.le_trans hz24 (by omega))
  have hb8 := kb hg110 hb8 (by omega)
  have hA22 := row_fresh hA22 hg110 (Nat.le_trans (Nat.le_refl _) (by omega))
  clear hb_i
  clear ho_i
  have hb_i := hb108; clear hb108
  have hl114 := bl hb_i
  refine oZ (tN (hK106 _ _ (sk fun K115 hK115 => (wt (oM rfl (oS rfl (Yk.lenRG wr56_ty51 (RG.of (hmg.keep hE) (vr z.2.tags rfl)) (oM rfl (oL_ [(0, .agg (refsC z).toArray), (1, PQ n2 0), (2, (Value.slice none 0 0)), (3, NI 0), (4, PQ n16 0), (5, .func (.func 94) #[] #[PQ n16 0]), (6, .func (.func 95) #[] #[PQ n16 0]), (7, .func (.func 96) #[] #[PQ n16 0]), (9, z.2.tags), (24, .agg #[z.2.branches, z.2.tags]), (25, NI i), (32, z.2.tags), (33, NI ((z.1.tags).length)), (34, NI 0)] ⟨T0, T1, T2, T3, T4, T5, T6, T7, rfl, T24, T25, rfl, rfl, rfl, trivial⟩ fun ρ116 ⟨T0, T1, T2, T3, T4, T5, T6, T7, T9, T24, T25, T32, T33, T34, _⟩ => (tN (hK115 _ _ (wpF_block (wpF_loop (fun (ρ : Slots) (wz : World) => ∃ j : Nat, ∃ vb_j : Value, ρ 0 = (.agg (refsC z).toArray : Value) ∧ ρ 1 = (PQ n2 0 : Value) ∧ ρ 2 = ((Value.slice none 0 0) : Value) ∧ ρ 3 = (NI 0 : Value) ∧ ρ 4 = (PQ n16 0 : Value) ∧ ρ 5 = (.func (.func 94) #[] #[PQ n16 0] : Value) ∧ ρ 6 = (.func (.func 95) #[] #[PQ n16 0] : Value) ∧ ρ 7 = (.func (.func 96) #[] #[PQ n16 0] : Value) ∧ ρ 9 = (z.2.tags : Value) ∧ ρ 24 = (.agg #[z.2.branches, z.2.tags] : Value) ∧ ρ 25 = (NI i : Value) ∧ ρ 32 = (z.2.tags : Value) ∧ ρ 33 = (NI ((z.1.tags).length) : Value) ∧ ρ 34 = (NI j : Value) ∧ Ext w wz ∧ wz.heap[n2]? = some (.cells (refsC z).toArray 53 (0, 0)) ∧ Ext w13 wz ∧ wz.heap[n16]? = some (.cells ([vb_j]).toArray 26 (0, 0)) ∧ wz.ownsRow w.heap.size 5 1 vb_j (((lsB z.1 i : List UInt8) ++ Lib.uvarint ((z.1.tags).length) : List UInt8) ++ (z.1.tags.take j).flatMap nmdB : List UInt8).length (Lib.byteCells (((lsB z.1 i : List UInt8) ++ Lib.uvarint ((z.1.tags).length) : List UInt8) ++ (z.1.tags.take j).flatMap nmdB)) ∧ (j ≤ z.1.tags.length) ∧ (OB vb_j n2) ∧ (OB vb_j n16) ∧ True) (fun ρ _ => z.1.tags.length - (intOf (ρ 34)).toNat) ⟨0, v107, T0, T1, T2, T3, T4, T5, T6, T7, T9, T24, T25, T32, T33, T34, hE, hb8, hA22, hb_i, own_eq ho109 (by simp), Nat.zero_le _, hap112, hap113, trivial⟩ ?_)))))))))))))
  clear hb_i
  clear ho109
  clear hE hb8 hA22
  rintro ρ117 w118 ⟨j, vb_j, T0, T1, T2, T3, T4, T5, T6, T7, T9, T24, T25, T32, T33, T34, hE, hb8, hA22, hb_j, ho_j, hij, hap_n2j, hap_n16j, -⟩
  have q34 := T34
  have hglj := (bl hb_j)
  refine sk fun K119 hK119 => (wt (oS rfl (Yk.eqI (a := (j : Nat)) (b := ((z.1.tags).length : Nat)) T34 T33 (k_lss _ _ _ _) (oZ (tN (hK119 _ _ (sk fun K120 hK120 => ?_)))))))
  refine wpF_cond ((j) < ((z.1.tags).length)) (vr (.bool (decide ((j) < ((z.1.tags).length)))) rfl) (fun hc2 => ?_) (fun hc2 => ?_)
  ·have hltj : j < z.1.tags.length := hc2
   have hnl := hR.tn _ (getD_mem dNmd hltj)
   have htl := textR_len hnl (by omega)
   have hfl := nmdR_len hR.tl hR.tn j
   have hidl : (z.1.tags.getD j dNmd).id.1.length = 32 := (z.1.tags.getD j dNmd).id.2
   refine wpF_skip (tN (hK120 _ _ (sk fun K121 hK121 => (wpF_block (sk fun K122 hK122 => (wt ?_))))))
   have hl125 : (nmdC ((z.1.tags).getD (j) dNmd)).length = 33 := (RG.elem (hmg.keep hE) dNmd (hltj))
   refine oS rfl (Yk.atRG wr56_ty51 wr56_szg70 (by decide) dNmd (RG.of (hmg.keep hE) T32) T34 (hltj) fun v123 hp124 => (oS rfl (Yk.loadPR (PR.of hp124 (vr v123 rfl)) (wr56_ty70).choose_spec rfl (by rw [nmd_len]; exact wr56_isz70) (oS rfl (Yk.alloc (cs := (nmdC (⟨[], zid⟩ : Nmd)).toArray) wr56_al70 fun n126 w127 hn128 hb129 hx130 hs131 => ?_)))))
   have hA132 := Ext.refl w118
   have hea133 := hE
   have hea134 := hA22
   have hz135 := hE.size
   have hz136 := hA22.size
   have hlt137 := lte (bl hb8) hn128
   have hlt138 := lte (bl hb_j) hn128
   have hap139 : OB vb_j n126 := own_newer ho_j (by omega)
   have hE := hE.trans hx130
   have hb8 := eb hx130 hb8
   have hA22 := hA22.trans hx130
   have hb_j := eb hx130 hb_j
   have ho_j := Stab.own _ _ _ _ _ _ _ _ ho_j hx130
   have hA132 := hA132.trans hx130
   have hb140 := hb129; clear hb129
   have hl141 : n126 < w127.heap.size := by omega
   refine oS rfl (Yk.storeAll (vr (PQ n126 0) rfl) (vr (.agg (nmdC ((z.1.tags).getD (j) dNmd)).toArray) rfl) hb140 (by simp only [List.size_toArray, nmd_len]) (st_isz (nmd_len _) wr56_isz70) (nmd_one (x := ((z.1.tags).getD (j) dNmd))) fun w142 hb143 hg144 hs145 => ?_)
   have hE := row_fresh hE hg144 (Nat.le_trans hz135 (by omega))
   have hb8 := kb hg144 hb8 (by omega)
   have hA22 := row_fresh hA22 hg144 (Nat.le_trans hz136 (by omega))
   have hb_j := kb hg144 hb_j (by omega)
   have ho_j := own_kept ho_j hg144 hap139
   have hA132 := row_fresh hA132 hg144 (Nat.le_trans (Nat.le_refl _) (by omega))
   clear hb140
   have hb140 : w142.heap[n126]? = some (.cells (nmdC ((z.1.tags).getD (j) dNmd)).toArray 70 (0, 0)) := hb143; clear hb143
   have hl146 := bl hb140
   refine oZ ?_
   clear hp124
   refine tN (hK122 _ _ (sk fun K147 hK147 => (wt (oM rfl (oS rfl (Yk.fieldAt wr56_fo70_0 (vr (PQ n126 0) rfl) (oS rfl (Yk.cell1 wr56_ty9 rfl (vr (PQ n126 0) rfl) (cellAt hb140 (show (nmdC ((z.1.tags).getD (j) dNmd))[0]? = some (St ((((z.1.tags).getD (j) dNmd)).name) : Value) from nmd_g0 ((z.1.tags).getD (j) dNmd))) (oS rfl (Yk.clo wr56_pl95 (caps := #[PQ n16 0]) T6 #[St ((((z.1.tags).getD (j) dNmd)).name), PQ n16 0] (by simp only [List.map_toArray, List.map_cons, List.map_nil, List.append_toArray, List.cons_append, List.nil_append]; exact congrArg List.toArray (list2 (vr (St ((((z.1.tags).getD (j) dNmd)).name)) rfl) rfl)) ((rencT_any w _ hE n16 (by omega) vb_j (((lsB z.1 i : List UInt8) ++ Lib.uvarint ((z.1.tags).length) : List UInt8) ++ (z.1.tags.take j).flatMap nmdB) hb_j (RB.ofOwn ho_j) ((((z.1.tags).getD (j) dNmd)).name) (by (try simp only [List.length_append, List.length_cons, List.length_nil]); omega)).mono ?_)))))))))))
   rintro e w152 ⟨v148, rfl, hb149, ho150, hg151⟩
   refine ⟨_, rfl, ?_⟩
   have hap153 : OB v148 n2 := own_older ho150 (bl hb8)
   have hap154 : OB v148 n16 := own_older ho150 (bl hb_j)
   have hap155 : OB v148 n126 := own_older ho150 (bl hb140)
   have ho150 := ownsRow_base ho150 hE.size
   have hE := row_fresh hE hg151 (Nat.le_trans hz24 (by omega))
   have hb8 := kb hg151 hb8 (by omega)
   have hA22 := row_fresh hA22 hg151 (Nat.le_trans (Nat.le_refl _) (by omega))
   clear hA132
   have hb140 := kb hg151 hb140 (by omega)
   clear hb_j
   clear ho_j
   have hb_j := hb149; clear hb149
   have hl156 := bl hb_j
   refine oZ (tN (hK147 _ _ (wt (oM rfl (oS rfl (Yk.fieldAt wr56_fo70_1 (vr (PQ n126 0) rfl) (oS rfl (Yk.loadPR (PR.blk hb140 (nmd_m1 ((z.1.tags).getD (j) dNmd)) (nmd_n1 ((z.1.tags).getD (j) dNmd)) (vr (PQ n126 1) rfl)) wr56_ty25 rfl (sizeId_of (((z.1.tags).getD (j) dNmd)).id.2) (oS rfl (Yk.clo wr56_pl96 (caps := #[PQ n16 0]) T7 #[AB ((((z.1.tags).getD (j) dNmd)).id.1), PQ n16 0] (by simp only [List.map_toArray, List.map_cons, List.map_nil, List.append_toArray, List.cons_append, List.nil_append]; exact congrArg List.toArray (list2 (vr (AB ((((z.1.tags).getD (j) dNmd)).id.1)) rfl) rfl)) ((rencI_any w _ hE n16 (by omega) v148 ((((lsB z.1 i : List UInt8) ++ Lib.uvarint ((z.1.tags).length) : List UInt8) ++ (z.1.tags.take j).flatMap nmdB : List UInt8) ++ textB ((((z.1.tags).getD (j) dNmd)).name)) hb_j (RB.ofOwn ho150) ((((z.1.tags).getD (j) dNmd)).id) (by (try simp only [List.length_append, List.length_cons, List.length_nil]); omega)).mono ?_)))))))))))
   rintro e w161 ⟨v157, rfl, hb158, ho159, hg160⟩
   refine ⟨_, rfl, ?_⟩
   have hap162 : OB v157 n2 := own_older ho159 (bl hb8)
   have hap163 : OB v157 n126 := own_older ho159 (bl hb140)
   have hap164 : OB v157 n16 := own_older ho159 (bl hb_j)
   have ho159 := ownsRow_base ho159 hE.size
   have hE := row_fresh hE hg160 (Nat.le_trans hz24 (by omega))
   have hb8 := kb hg160 hb8 (by omega)
   have hA22 := row_fresh hA22 hg160 (Nat.le_trans (Nat.le_refl _) (by omega))
   have hb140 := kb hg160 hb140 (by omega)
   clear hb_j
   clear ho150
   have hb_j := hb158; clear hb158
   have hl165 := bl hb_j
   refine oZ (bN (tN (hK121 _ _ (wt (oS rfl (Yk.bin (xv := NI j) (yv := NI 1) T34 rfl rfl (i64_add _ _ _ (by omega)) (oM rfl (oL_ [(0, .agg (refsC z).toArray), (1, PQ n2 0), (2, (Value.slice none 0 0)), (3, NI 0), (4, PQ n16 0), (5, .func (.func 94) #[] #[PQ n16 0]), (6, .func (.func 95) #[] #[PQ n16 0]), (7, .func (.func 96) #[] #[PQ n16 0]), (9, z.2.tags), (11, PQ n126 0), (24, .agg #[z.2.branches, z.2.tags]), (25, NI i), (32, z.2.tags), (33, NI ((z.1.tags).length)), (34, NI ((j) + (1)))] ⟨T0, T1, T2, T3, T4, T5, T6, T7, T9, rfl, T24, T25, T32, T33, rfl, trivial⟩ fun ρ166 ⟨T0, T1, T2, T3, T4, T5, T6, T7, T9, T11, T24, T25, T32, T33, T34, _⟩ => (tN (And.intro ⟨j + 1, v157, T0, T1, T2, T3, T4, T5, T6, T7, T9, T24, T25, T32, T33, T34, hE, hb8, hA22, hb_j, own_eq ho159 (by rw [take_flat_snoc dNmd hltj]; simp only [nmdB, List.append_assoc]), by omega, hap162, hap164, trivial⟩ ?_))))))))))
   show z.1.tags.length - (intOf (ρ166 34)).toNat < z.1.tags.length - (intOf (ρ117 34)).toNat
   rw [T34, q34]
   simp only [intOf, Int.toNat_natCast]; omega
  have hje : j = z.1.tags.length := by omega
  refine wpF_exit (thenF_exit (thenF_exit (inBlockF_hit (bN (tN (hK104 _ _ (wt (oS rfl (Yk.bin (xv := NI i) (yv := NI 1) T25 rfl rfl (i64_add _ _ _ (by omega)) (oM rfl (oL_ [(0, .agg (refsC z).toArray), (1, PQ n2 0), (2, (Value.slice none 0 0)), (3, NI 0), (4, PQ n16 0), (5, .func (.func 94) #[] #[PQ n16 0]), (6, .func (.func 95) #[] #[PQ n16 0]), (7, .func (.func 96) #[] #[PQ n16 0]), (9, z.2.tags), (24, .agg #[z.2.branches, z.2.tags]), (25, NI ((i) + (1))), (32, z.2.tags), (33, NI ((z.1.tags).length)), (34, NI j)] ⟨T0, T1, T2, T3, T4, T5, T6, T7, T9, T24, rfl, T32, T33, T34, trivial⟩ fun ρ167 ⟨T0, T1, T2, T3, T4, T5, T6, T7, T9, T24, T25, T32, T33, T34, _⟩ => (tN (And.intro ⟨i + 1, vb_j, T0, T1, T2, T3, T4, T5, T6, T7, T24, T25, hE, hb8, hA22, hb_j, own_eq ho_j (by rw [lsB_1 h0, lsB_2 (show i + 1 = 2 by omega), hje, List.take_length]; simp only [nlB, List.append_assoc]), by omega, hap_n2j, hap_n16j, trivial⟩ ?_)))))))))))))
  show 2 - (intOf (ρ167 25)).toNat < 2 - (intOf (ρ36 25)).toNat
  rw [T25, q25]
  simp only [intOf, Int.toNat_natCast]; omega
 have hie : i = 2 := by omega
 have hll := lsB_len hR i
 have hhd := hR.hd
 have htl := textR_len hhd (by omega)
 have hul := uvarint_len9 (n := z.1.log.length) (by have := hR.ll; omega)
 have hal : z.1.at_.1.length = 32 := z.1.at_.2
 refine wpF_exit (thenF_exit (thenF_exit (inBlockF_hit (tN (hK33 _ _ (sk fun K168 hK168 => (wt (oM rfl (oS rfl (Yk.fieldAt wr56_fo53_2 T1 (oS rfl (Yk.cell1 wr56_ty9 rfl (vr (PQ n2 2) rfl) (cellAt hb8 (show (refsC z)[2]? = some (St (z.1.head) : Value) from refs_g2 z)) (oS rfl (Yk.clo wr56_pl95 (caps := #[PQ n16 0]) T6 #[St (z.1.head), PQ n16 0] (by simp only [List.map_toArray, List.map_cons, List.map_nil, List.append_toArray, List.cons_append, List.nil_append]; exact congrArg List.toArray (list2 (vr (St (z.1.head)) rfl) rfl)) ((rencT_any w _ hE n16 (by omega) vb_i (lsB z.1 i) hb_i (RB.ofOwn ho_i) z.1.head (by (try simp only [List.length_append, List.length_cons, List.length_nil]); omega)).mono ?_)))))))))))))))
 rintro e w173 ⟨v169, rfl, hb170, ho171, hg172⟩
 refine ⟨_, rfl, ?_⟩
 have hap174 : OB v169 n2 := own_older ho171 (bl hb8)
 have hap175 : OB v169 n16 := own_older ho171 (bl hb_i)
 have ho171 := ownsRow_base ho171 hE.size
 have hE := row_fresh hE hg172 (Nat.le_trans hz24 (by omega))
 have hb8 := kb hg172 hb8 (by omega)
 have hA22 := row_fresh hA22 hg172 (Nat.le_trans (Nat.le_refl _) (by omega))
 clear hb_i
 clear ho_i
 have hb_i := hb170; clear hb170
 have hl176 := bl hb_i
 refine oZ (tN (hK168 _ _ (sk fun K177 hK177 => (wt (oM rfl (oS rfl (Yk.fieldAt wr56_fo53_3 T1 (oS rfl (Yk.loadPR (PR.blk hb8 (refs_m3 z) (refs_n3 z) (vr (PQ n2 3) rfl)) wr56_ty25 rfl (sizeId_of z.1.at_.2) (oS rfl (Yk.clo wr56_pl96 (caps := #[PQ n16 0]) T7 #[AB z.1.at_.1, PQ n16 0] (by simp only [List.map_toArray, List.map_cons, List.map_nil, List.append_toArray, List.cons_append, List.nil_append]; exact congrArg List.toArray (list2 (vr (AB z.1.at_.1) rfl) rfl)) ((rencI_any w _ hE n16 (by omega) v169 ((lsB z.1 i : List UInt8) ++ textB z.1.head) hb_i (RB.ofOwn ho171) z.1.at_ (by (try simp only [List.length_append, List.length_cons, List.length_nil]); omega)).mono ?_))))))))))))
 rintro e w182 ⟨v178, rfl, hb179, ho180, hg181⟩
 refine ⟨_, rfl, ?_⟩
 have hap183 : OB v178 n2 := own_older ho180 (bl hb8)
 have hap184 : OB v178 n16 := own_older ho180 (bl hb_i)
 have ho180 := ownsRow_base ho180 hE.size
 have hE := row_fresh hE hg181 (Nat.le_trans hz24 (by omega))
 have hb8 := kb hg181 hb8 (by omega)
 have hA22 := row_fresh hA22 hg181 (Nat.le_trans (Nat.le_refl _) (by omega))
 clear hb_i
 clear ho171
 have hb_i := hb179; clear hb179
 have hl185 := bl hb_i
 refine oZ (tN (hK177 _ _ (sk fun K186 hK186 => (wt (oM rfl (oS rfl (Yk.fieldAt wr56_fo53_4 T1 (oS rfl (Yk.cell1 wr56_ty47 rfl (vr (PQ n2 35) rfl) (cellAt hb8 (show (refsC z)[35]? = some (z.2.log : Value) from refs_g4 z)) (oS rfl (Yk.lenRG wr56_ty47 (RG.of (hml.keep hE) (vr z.2.log rfl)) (oS rfl (Yk.clo wr56_pl94 (caps := #[PQ n16 0]) T5 #[NI ((z.1.log).length), PQ n16 0] (by simp only [List.map_toArray, List.map_cons, List.map_nil, List.append_toArray, List.cons_append, List.nil_append]; exact congrArg List.toArray (list2 (vr (NI ((z.1.log).length)) rfl) rfl)) ((rencN_any w _ hE n16 (by omega) v178 (((lsB z.1 i : List UInt8) ++ textB z.1.head : List UInt8) ++ z.1.at_.1) hb_i (RB.ofOwn ho180) ((z.1.log).length) (by (try simp only [List.length_append, List.length_cons, List.length_nil]); omega) (by omega)).mono ?_))))))))))))))
 rintro e w191 ⟨v187, rfl, hb188, ho189, hg190⟩
 refine ⟨_, rfl, ?_⟩
 have hap192 : OB v187 n2 := own_older ho189 (bl hb8)
 have hap193 : OB v187 n16 := own_older ho189 (bl hb_i)
 have ho189 := ownsRow_base ho189 hE.size
 have hE := row_fresh hE hg190 (Nat.le_trans hz24 (by omega))
 have hb8 := kb hg190 hb8 (by omega)
 have hA22 := row_fresh hA22 hg190 (Nat.le_trans (Nat.le_refl _) (by omega))
 clear hb_i
 clear ho180
 have hb_i := hb188; clear hb188
 have hl194 := bl hb_i
 refine oZ (tN (hK186 _ _ (sk fun K195 hK195 => (sk fun K196 hK196 => (wt (oS rfl (Yk.fieldAt wr56_fo53_4 T1 (oS rfl (Yk.cell1 wr56_ty47 rfl (vr (PQ n2 35) rfl) (cellAt hb8 (show (refsC z)[35]? = some (z.2.log : Value) from refs_g4 z)) (oS rfl (Yk.lenRG wr56_ty47 (RG.of (hml.keep hE) (vr z.2.log rfl)) (oM rfl (oL_ [(0, .agg (refsC z).toArray), (1, PQ n2 0), (2, (Value.slice none 0 0)), (3, NI 0), (4, PQ n16 0), (5, .func (.func 94) #[] #[PQ n16 0]), (6, .func (.func 95) #[] #[PQ n16 0]), (7, .func (.func 96) #[] #[PQ n16 0]), (24, .agg #[z.2.branches, z.2.tags]), (25, NI i), (62, z.2.log), (63, NI ((z.1.log).length)), (64, NI 0)] ⟨T0, T1, T2, T3, T4, T5, T6, T7, T24, T25, rfl, rfl, rfl, trivial⟩ fun ρ197 ⟨T0, T1, T2, T3, T4, T5, T6, T7, T24, T25, T62, T63, T64, _⟩ => (tN (hK196 _ _ (wpF_block (wpF_loop (fun (ρ : Slots) (wz : World) => ∃ k : Nat, ∃ vb_k : Value, ρ 0 = (.agg (refsC z).toArray : Value) ∧ ρ 1 = (PQ n2 0 : Value) ∧ ρ 2 = ((Value.slice none 0 0) : Value) ∧ ρ 3 = (NI 0 : Value) ∧ ρ 4 = (PQ n16 0 : Value) ∧ ρ 5 = (.func (.func 94) #[] #[PQ n16 0] : Value) ∧ ρ 6 = (.func (.func 95) #[] #[PQ n16 0] : Value) ∧ ρ 7 = (.func (.func 96) #[] #[PQ n16 0] : Value) ∧ ρ 24 = (.agg #[z.2.branches, z.2.tags] : Value) ∧ ρ 25 = (NI i : Value) ∧ ρ 62 = (z.2.log : Value) ∧ ρ 63 = (NI ((z.1.log).length) : Value) ∧ ρ 64 = (NI k : Value) ∧ Ext w wz ∧ wz.heap[n2]? = some (.cells (refsC z).toArray 53 (0, 0)) ∧ wz.heap[n16]? = some (.cells ([vb_k]).toArray 26 (0, 0)) ∧ wz.ownsRow w.heap.size 5 1 vb_k (((((lsB z.1 i : List UInt8) ++ textB z.1.head : List UInt8) ++ z.1.at_.1 : List UInt8) ++ Lib.uvarint ((z.1.log).length) : List UInt8) ++ (z.1.log.take k).flatMap entB : List UInt8).length (Lib.byteCells (((((lsB z.1 i : List UInt8) ++ textB z.1.head : List UInt8) ++ z.1.at_.1 : List UInt8) ++ Lib.uvarint ((z.1.log).length) : List UInt8) ++ (z.1.log.take k).flatMap entB)) ∧ (k ≤ z.1.log.length) ∧ (OB vb_k n2) ∧ (OB vb_k n16) ∧ True) (fun ρ _ => z.1.log.length - (intOf (ρ 64)).toNat) ⟨0, v187, T0, T1, T2, T3, T4, T5, T6, T7, T24, T25, T62, T63, T64, hE, hb8, hb_i, own_eq ho189 (by simp), Nat.zero_le _, hap192, hap193, trivial⟩ ?_)))))))))))))))))
 clear hA22
 clear hb_i
 clear ho189
 clear hE hb8
 rintro ρ198 w199 ⟨k, vb_k, T0, T1, T2, T3, T4, T5, T6, T7, T24, T25, T62, T63, T64, hE, hb8, hb_k, ho_k, hik, hap_n2k, hap_n16k, -⟩
 have q64 := T64
 have hglk := (bl hb_k)
 refine sk fun K200 hK200 => (wt (oS rfl (Yk.eqI (a := (k : Nat)) (b := ((z.1.log).length : Nat)) T64 T63 (k_lss _ _ _ _) (oZ (tN (hK200 _ _ (sk fun K201 hK201 => ?_)))))))
 refine wpF_cond ((k) < ((z.1.log).length)) (vr (.bool (decide ((k) < ((z.1.log).length)))) rfl) (fun hc3 => ?_) (fun hc3 => ?_)
 ·have hltk : k < z.1.log.length := hc3
  have hnn := hR.ln _ (getD_mem dEntry hltk)
  have hkn := hnn.1
  have hkm := hnn.2
  have ht1 := textR_len hkn (by omega)
  have ht2 := textR_len hkm (by omega)
  have hfl := ents_len hR k
  have hol : (z.1.log.getD k dEntry).old.1.length = 32 := (z.1.log.getD k dEntry).old.2
  have hnl : (z.1.log.getD k dEntry).new.1.length = 32 := (z.1.log.getD k dEntry).new.2
  refine wpF_skip (tN (hK201 _ _ (sk fun K202 hK202 => (wpF_block (sk fun K203 hK203 => (wt ?_))))))
  have hl206 : (entC ((z.1.log).getD (k) dEntry)).length = 67 := (RG.elem (hml.keep hE) dEntry (hltk))
  refine oS rfl (Yk.atRG wr56_ty47 wr56_szg122 (by decide) dEntry (RG.of (hml.keep hE) T62) T64 (hltk) fun v204 hp205 => (oS rfl (Yk.loadPR (PR.of hp205 (vr v204 rfl)) (wr56_ty122).choose_spec rfl (by rw [ent_len]; exact wr56_isz122) (oS rfl (Yk.alloc (cs := (entC (⟨0, [], zid, zid, []⟩ : Ent)).toArray) wr56_al122 fun n207 w208 hn209 hb210 hx211 hs212 => ?_)))))
  have hA213 := Ext.refl w199
  have hea214 := hE
  have hz215 := hE.size
  have hlt216 := lte (bl hb8) hn209
  have hlt217 := lte (bl hb_k) hn209
  have hap218 : OB vb_k n207 := own_newer ho_k (by omega)
  have hE := hE.trans hx211
  have hb8 := eb hx211 hb8
  have hb_k := eb hx211 hb_k
  have ho_k := Stab.own _ _ _ _ _ _ _ _ ho_k hx211
  have hA213 := hA213.trans hx211
  have hb219 := hb210; clear hb210
  have hl220 : n207 < w208.heap.size := by omega
  refine oS rfl (Yk.storeAll (vr (PQ n207 0) rfl) (vr (.agg (entC ((z.1.log).getD (k) dEntry)).toArray) rfl) hb219 (by simp only [List.size_toArray, ent_len]) (st_isz (ent_len _) wr56_isz122) (ent_one (x := ((z.1.log).getD (k) dEntry))) fun w221 hb222 hg223 hs224 => ?_)
  have hE := row_fresh hE hg223 (Nat.le_trans hz215 (by omega))
  have hb8 := kb hg223 hb8 (by omega)
  have hb_k := kb hg223 hb_k (by omega)
  have ho_k := own_kept ho_k hg223 hap218
  have hA213 := row_fresh hA213 hg223 (Nat.le_trans (Nat.le_refl _) (by omega))
  clear hb219
  have hb219 : w221.heap[n207]? = some (.cells (entC ((z.1.log).getD (k) dEntry)).toArray 122 (0, 0)) := hb222; clear hb222
  have hl225 := bl hb219
  refine oZ ?_
  clear hp205
  refine tN (hK203 _ _ (sk fun K226 hK226 => (wt (oS rfl (Yk.cell1 wr56_ty26 rfl T4 (cellAt hb_k (show _ = some (vb_k : Value) from rfl)) (oS rfl (Yk.fieldAt wr56_fo122_0 (vr (PQ n207 0) rfl) (oS rfl (Yk.fieldAt wr56_fo67_0 (vr (PQ n207 0) rfl) (oS rfl (Yk.cell1 wr56_ty5 rfl (vr (PQ n207 0) rfl) (cellAt hb219 (show (entC ((z.1.log).getD (k) dEntry))[0]? = some (B8 ((((z.1.log).getD (k) dEntry)).kind) : Value) from ent_g0 ((z.1.log).getD (k) dEntry))) (oS rfl (Yk.lit1 (b := (((z.1.log).getD (k) dEntry)).kind) wr56_l1_26 (vr (B8 ((((z.1.log).getD (k) dEntry)).kind)) rfl) fun v227 w228 hN229 => ?_)))))))))))))
  have hA230 := Ext.refl w221
  have hea231 := hE
  have hea232 := hA213
  have hz233 := hE.size
  have hz234 := hA213.size
  have hap235 : OB v227 n2 := own_older hN229.own (bl hb8)
  have hap236 : OB v227 n16 := own_older hN229.own (bl hb_k)
  have hap237 : OB v227 n207 := own_older hN229.own (bl hb219)
  have hap238 : ApartV vb_k v227 := apartv_new ho_k hN229.own
  have hap239 : ApartV v227 vb_k := apartv_new' ho_k hN229.own
  have hE := hE.trans hN229.ext
  have hb8 := eb hN229.ext hb8
  have hb_k := eb hN229.ext hb_k
  have ho_k := Stab.own _ _ _ _ _ _ _ _ ho_k hN229.ext
  have hA213 := hA213.trans hN229.ext
  have hb219 := eb hN229.ext hb219
  have hA230 := hA230.trans hN229.ext
  have ho240 := hN229.own; clear hN229
  refine oS rfl (Yk.appendRB _ _ w.heap.size (.int .u8 0) wr56_ty26 wr56_inf5 rfl wr56_ty26 (((((lsB z.1 i : List UInt8) ++ textB z.1.head : List UInt8) ++ z.1.at_.1 : List UInt8) ++ Lib.uvarint ((z.1.log).length) : List UInt8) ++ (z.1.log.take k).flatMap entB) ([((((z.1.log).getD (k) dEntry)).kind : UInt8)]) (own_of ho_k (vr vb_k rfl)) (RB.of (RB.ofOwn ho240) (vr v227 rfl)) (by (try simp only [List.length_append, List.length_cons, List.length_nil]); omega) hE.size fun v241 w242 ho243 hg244 => ?_)
  have hg244 : Grew w228 w242 vb_k v241 := hg244
  have hap245 : OB v241 n2 := apart_grew hg244 hap_n2k (bl hb8)
  have hap246 : OB v241 n16 := apart_grew hg244 hap_n16k (bl hb_k)
  have hap247 : OB v241 n207 := apart_grew hg244 hap218 (bl hb219)
  have hap248 : ApartV v241 v227 := apartv_grew hg244 hap238 ho240
  have hap249 : ApartV v227 v241 := fun k h1 h2 => hap248 k h2 h1
  have hE := ext_grew hE hg244 ho_k (Nat.le_refl _)
  have hb8 := blk_grew hb8 hg244 hap_n2k
  have hb_k := blk_grew hb_k hg244 hap_n16k
  clear hA213
  have hb219 := blk_grew hb219 hg244 hap218
  clear hA230
  have ho240 := own_grew ho240 hg244 hap238
  clear ho_k
  refine oS rfl (Yk.storeC (i := 0) (v := v241) T4 (vr v241 rfl) hb_k (Nat.le_of_ble_eq_true rfl) wr56_isz26 (own_one ho243).1 (own_one ho243).2 fun w250 hb251 hg252 hs253 => ?_)
  have hE := row_fresh hE hg252 (Nat.le_trans hz24 (by omega))
  have hb8 := kb hg252 hb8 (by omega)
  have hb219 := kb hg252 hb219 (by omega)
  have ho240 := own_kept ho240 hg252 hap236
  have ho243 := own_kept ho243 hg252 hap246
  clear hb_k
  have hb_k := hb251; clear hb251
  have hl254 := bl hb_k
  refine oZ ?_
  clear ho240
  refine tN (hK226 _ _ (sk fun K255 hK255 => (wt (oM rfl (oS rfl (Yk.fieldAt wr56_fo122_0 (vr (PQ n207 0) rfl) (oS rfl (Yk.fieldAt wr56_fo67_1 (vr (PQ n207 0) rfl) (oS rfl (Yk.cell1 wr56_ty9 rfl (vr (PQ n207 1) rfl) (cellAt hb219 (show (entC ((z.1.log).getD (k) dEntry))[1]? = some (St ((((z.1.log).getD (k) dEntry)).name) : Value) from ent_g1 ((z.1.log).getD (k) dEntry))) (oS rfl (Yk.clo wr56_pl95 (caps := #[PQ n16 0]) T6 #[St ((((z.1.log).getD (k) dEntry)).name), PQ n16 0] (by simp only [List.map_toArray, List.map_cons, List.map_nil, List.append_toArray, List.cons_append, List.nil_append]; exact congrArg List.toArray (list2 (vr (St ((((z.1.log).getD (k) dEntry)).name)) rfl) rfl)) ((rencT_any w _ hE n16 (by omega) v241 (((((lsB z.1 i : List UInt8) ++ textB z.1.head : List UInt8) ++ z.1.at_.1 : List UInt8) ++ Lib.uvarint ((z.1.log).length) : List UInt8) ++ (z.1.log.take k).flatMap entB ++ [((((z.1.log).getD (k) dEntry)).kind : UInt8)]) hb_k (RB.ofOwn ho243) ((((z.1.log).getD (k) dEntry)).name) (by (try simp only [List.length_append, List.length_cons, List.length_nil]); omega)).mono ?_)))))))))))))
  rintro e w260 ⟨v256, rfl, hb257, ho258, hg259⟩
  refine ⟨_, rfl, ?_⟩
  have hap261 : OB v256 n2 := own_older ho258 (bl hb8)
  have hap262 : OB v256 n207 := own_older ho258 (bl hb219)
  have hap263 : OB v256 n16 := own_older ho258 (bl hb_k)
  have ho258 := ownsRow_base ho258 hE.size
  have hE := row_fresh hE hg259 (Nat.le_trans hz24 (by omega))
  have hb8 := kb hg259 hb8 (by omega)
  have hb219 := kb hg259 hb219 (by omega)
  clear ho243
  clear hb_k
  have hb_k := hb257; clear hb257
  have hl264 := bl hb_k
  refine oZ (tN (hK255 _ _ (sk fun K265 hK265 => (wt (oM rfl (oS rfl (Yk.fieldAt wr56_fo122_0 (vr (PQ n207 0) rfl) (oS rfl (Yk.fieldAt wr56_fo67_2 (vr (PQ n207 0) rfl) (oS rfl (Yk.loadPR (PR.blk hb219 (ent_m2 ((z.1.log).getD (k) dEntry)) (ent_n2 ((z.1.log).getD (k) dEntry)) (vr (PQ n207 2) rfl)) wr56_ty25 rfl (sizeId_of (((z.1.log).getD (k) dEntry)).old.2) (oS rfl (Yk.clo wr56_pl96 (caps := #[PQ n16 0]) T7 #[AB ((((z.1.log).getD (k) dEntry)).old.1), PQ n16 0] (by simp only [List.map_toArray, List.map_cons, List.map_nil, List.append_toArray, List.cons_append, List.nil_append]; exact congrArg List.toArray (list2 (vr (AB ((((z.1.log).getD (k) dEntry)).old.1)) rfl) rfl)) ((rencI_any w _ hE n16 (by omega) v256 ((((((lsB z.1 i : List UInt8) ++ textB z.1.head : List UInt8) ++ z.1.at_.1 : List UInt8) ++ Lib.uvarint ((z.1.log).length) : List UInt8) ++ (z.1.log.take k).flatMap entB ++ [((((z.1.log).getD (k) dEntry)).kind : UInt8)] : List UInt8) ++ textB ((((z.1.log).getD (k) dEntry)).name)) hb_k (RB.ofOwn ho258) ((((z.1.log).getD (k) dEntry)).old) (by (try simp only [List.length_append, List.length_cons, List.length_nil]); omega)).mono ?_))))))))))))))
  rintro e w270 ⟨v266, rfl, hb267, ho268, hg269⟩
  refine ⟨_, rfl, ?_⟩
  have hap271 : OB v266 n2 := own_older ho268 (bl hb8)
  have hap272 : OB v266 n207 := own_older ho268 (bl hb219)
  have hap273 : OB v266 n16 := own_older ho268 (bl hb_k)
  have ho268 := ownsRow_base ho268 hE.size
  have hE := row_fresh hE hg269 (Nat.le_trans hz24 (by omega))
  have hb8 := kb hg269 hb8 (by omega)
  have hb219 := kb hg269 hb219 (by omega)
  clear hb_k
  clear ho258
  have hb_k := hb267; clear hb267
  have hl274 := bl hb_k
  refine oZ (tN (hK265 _ _ (sk fun K275 hK275 => (wt (oM rfl (oS rfl (Yk.fieldAt wr56_fo122_0 (vr (PQ n207 0) rfl) (oS rfl (Yk.fieldAt wr56_fo67_3 (vr (PQ n207 0) rfl) (oS rfl (Yk.loadPR (PR.blk hb219 (ent_m3 ((z.1.log).getD (k) dEntry)) (ent_n3 ((z.1.log).getD (k) dEntry)) (vr (PQ n207 34) rfl)) wr56_ty25 rfl (sizeId_of (((z.1.log).getD (k) dEntry)).new.2) (oS rfl (Yk.clo wr56_pl96 (caps := #[PQ n16 0]) T7 #[AB ((((z.1.log).getD (k) dEntry)).new.1), PQ n16 0] (by simp only [List.map_toArray, List.map_cons, List.map_nil, List.append_toArray, List.cons_append, List.nil_append]; exact congrArg List.toArray (list2 (vr (AB ((((z.1.log).getD (k) dEntry)).new.1)) rfl) rfl)) ((rencI_any w _ hE n16 (by omega) v266 (((((((lsB z.1 i : List UInt8) ++ textB z.1.head : List UInt8) ++ z.1.at_.1 : List UInt8) ++ Lib.uvarint ((z.1.log).length) : List UInt8) ++ (z.1.log.take k).flatMap entB ++ [((((z.1.log).getD (k) dEntry)).kind : UInt8)] : List UInt8) ++ textB ((((z.1.log).getD (k) dEntry)).name) : List UInt8) ++ ((((z.1.log).getD (k) dEntry)).old).1) hb_k (RB.ofOwn ho268) ((((z.1.log).getD (k) dEntry)).new) (by (try simp only [List.length_append, List.length_cons, List.length_nil]); omega)).mono ?_))))))))))))))
  rintro e w280 ⟨v276, rfl, hb277, ho278, hg279⟩
  refine ⟨_, rfl, ?_⟩
  have hap281 : OB v276 n2 := own_older ho278 (bl hb8)
  have hap282 : OB v276 n207 := own_older ho278 (bl hb219)
  have hap283 : OB v276 n16 := own_older ho278 (bl hb_k)
  have ho278 := ownsRow_base ho278 hE.size
  have hE := row_fresh hE hg279 (Nat.le_trans hz24 (by omega))
  have hb8 := kb hg279 hb8 (by omega)
  have hb219 := kb hg279 hb219 (by omega)
  clear hb_k
  clear ho268
  have hb_k := hb277; clear hb277
  have hl284 := bl hb_k
  refine oZ (tN (hK275 _ _ (wt (oM rfl (oS rfl (Yk.fieldAt wr56_fo122_1 (vr (PQ n207 0) rfl) (oS rfl (Yk.cell1 wr56_ty9 rfl (vr (PQ n207 66) rfl) (cellAt hb219 (show (entC ((z.1.log).getD (k) dEntry))[66]? = some (St ((((z.1.log).getD (k) dEntry)).note) : Value) from ent_g4 ((z.1.log).getD (k) dEntry))) (oS rfl (Yk.clo wr56_pl95 (caps := #[PQ n16 0]) T6 #[St ((((z.1.log).getD (k) dEntry)).note), PQ n16 0] (by simp only [List.map_toArray, List.map_cons, List.map_nil, List.append_toArray, List.cons_append, List.nil_append]; exact congrArg List.toArray (list2 (vr (St ((((z.1.log).getD (k) dEntry)).note)) rfl) rfl)) ((rencT_any w _ hE n16 (by omega) v276 ((((((((lsB z.1 i : List UInt8) ++ textB z.1.head : List UInt8) ++ z.1.at_.1 : List UInt8) ++ Lib.uvarint ((z.1.log).length) : List UInt8) ++ (z.1.log.take k).flatMap entB ++ [((((z.1.log).getD (k) dEntry)).kind : UInt8)] : List UInt8) ++ textB ((((z.1.log).getD (k) dEntry)).name) : List UInt8) ++ ((((z.1.log).getD (k) dEntry)).old).1 : List UInt8) ++ ((((z.1.log).getD (k) dEntry)).new).1) hb_k (RB.ofOwn ho278) ((((z.1.log).getD (k) dEntry)).note) (by (try simp only [List.length_append, List.length_cons, List.length_nil]); omega)).mono ?_)))))))))))
  rintro e w289 ⟨v285, rfl, hb286, ho287, hg288⟩
  refine ⟨_, rfl, ?_⟩
  have hap290 : OB v285 n2 := own_older ho287 (bl hb8)
  have hap291 : OB v285 n207 := own_older ho287 (bl hb219)
  have hap292 : OB v285 n16 := own_older ho287 (bl hb_k)
  have ho287 := ownsRow_base ho287 hE.size
  have hE := row_fresh hE hg288 (Nat.le_trans hz24 (by omega))
  have hb8 := kb hg288 hb8 (by omega)
  have hb219 := kb hg288 hb219 (by omega)
  clear hb_k
  clear ho278
  have hb_k := hb286; clear hb286
  have hl293 := bl hb_k
  refine oZ (bN (tN (hK202 _ _ (wt (oS rfl (Yk.bin (xv := NI k) (yv := NI 1) T64 rfl rfl (i64_add _ _ _ (by omega)) (oM rfl (oL_ [(0, .agg (refsC z).toArray), (1, PQ n2 0), (2, (Value.slice none 0 0)), (3, NI 0), (4, PQ n16 0), (5, .func (.func 94) #[] #[PQ n16 0]), (6, .func (.func 95) #[] #[PQ n16 0]), (7, .func (.func 96) #[] #[PQ n16 0]), (13, PQ n207 0), (24, .agg #[z.2.branches, z.2.tags]), (25, NI i), (62, z.2.log), (63, NI ((z.1.log).length)), (64, NI ((k) + (1)))] ⟨T0, T1, T2, T3, T4, T5, T6, T7, rfl, T24, T25, T62, T63, rfl, trivial⟩ fun ρ294 ⟨T0, T1, T2, T3, T4, T5, T6, T7, T13, T24, T25, T62, T63, T64, _⟩ => (tN (And.intro ⟨k + 1, v285, T0, T1, T2, T3, T4, T5, T6, T7, T24, T25, T62, T63, T64, hE, hb8, hb_k, own_eq ho287 (by rw [take_flat_snoc dEntry hltk]; simp only [entB, List.append_assoc]), by omega, hap290, hap292, trivial⟩ ?_))))))))))
  show z.1.log.length - (intOf (ρ294 64)).toNat < z.1.log.length - (intOf (ρ198 64)).toNat
  rw [T64, q64]
  simp only [intOf, Int.toNat_natCast]; omega
 have hke : k = z.1.log.length := by omega
 refine wpF_exit (thenF_exit (thenF_exit (inBlockF_hit (tN (hK195 _ _ (sk fun K295 hK295 => (wt (oS rfl (Yk.cell1 wr56_ty26 rfl T4 (cellAt hb_k (show _ = some (vb_k : Value) from rfl)) (oA rfl (oA rfl (oZ (tN (hK295 _ _ (wpF_ret (postF_ret (fn := Tryd.f45) _ rfl [vb_k, NI 0] (.tuple #[vb_k, NI 0]) rfl ⟨rfl, rfl, trivial⟩ ?_))))))))))))))))
 have hen : ((((lsB z.1 i : List UInt8) ++ textB z.1.head : List UInt8) ++ z.1.at_.1 : List UInt8) ++ Lib.uvarint ((z.1.log).length) : List UInt8) ++ (z.1.log.take k).flatMap entB = encR z.1 := by rw [lsB_2 hie, hke, List.take_length]; simp only [encR, List.append_assoc]
 exact ⟨vb_k, by rw [hrt]; rfl, by rw [hrt, if_pos rfl, ← hen]; exact RB.ofOwn ho_k, hE⟩
open Go.RowKit
set_option maxRecDepth 100000
theorem addNmd_len {b : Bs} {s t : List Nmd × Nat} (h : addNmd b s = some t) : t.1.length = s.1.length + 1 := by
 unfold addNmd at h
 cases hn : nmP b s.2 with
 | none => rw [hn] at h; cases h
 | some x => rw [hn] at h; cases h; simp
theorem wr58_pl139 : Plain Tryd.prog 139 := fun _ _ => by kernel_rfl
theorem wr58_pl137 : Plain Tryd.prog 137 := fun _ _ => by kernel_rfl
theorem wr58_pl138 : Plain Tryd.prog 138 := fun _ _ => by kernel_rfl
theorem wr58_bs70_0_1h (z0 : ByteArray) (c1_0 c1_1 c1_2 c1_3 c1_4 c1_5 c1_6 c1_7 c1_8 c1_9 c1_10 c1_11 c1_12 c1_13 c1_14 c1_15 c1_16 c1_17 c1_18 c1_19 c1_20 c1_21 c1_22 c1_23 c1_24 c1_25 c1_26 c1_27 c1_28 c1_29 c1_30 c1_31 : Value) (w : World) : (Instr.build 70 #[(0, .string z0), (1, .agg #[c1_0, c1_1, c1_2, c1_3, c1_4, c1_5, c1_6, c1_7, c1_8, c1_9, c1_10, c1_11, c1_12, c1_13, c1_14, c1_15, c1_16, c1_17, c1_18, c1_19, c1_20, c1_21, c1_22, c1_23, c1_24, c1_25, c1_26, c1_27, c1_28, c1_29, c1_30, c1_31])]).run Tryd.prog w = .ok (.agg #[.string z0, c1_0, c1_1, c1_2, c1_3, c1_4, c1_5, c1_6, c1_7, c1_8, c1_9, c1_10, c1_11, c1_12, c1_13, c1_14, c1_15, c1_16, c1_17, c1_18, c1_19, c1_20, c1_21, c1_22, c1_23, c1_24, c1_25, c1_26, c1_27, c1_28, c1_29, c1_30, c1_31]) w := by kernel_rfl
theorem wr58_bs70_0_1 (z0 : List UInt8) (z1 : Id32) (w : World) : (Instr.build 70 #[(0, St z0), (1, AB z1.1)]).run Tryd.prog w = .ok (.agg (St (z0) :: (Lib.byteCells z1.1)).toArray) w := by
 obtain ⟨z1, k1⟩ := z1
 obtain ⟨a1_0, a1_1, a1_2, a1_3, a1_4, a1_5, a1_6, a1_7, a1_8, a1_9, a1_10, a1_11, a1_12, a1_13, a1_14, a1_15, a1_16, a1_17, a1_18, a1_19, a1_20, a1_21, a1_22, a1_23, a1_24, a1_25, a1_26, a1_27, a1_28, a1_29, a1_30, a1_31, rfl⟩ := list32 k1
 exact wr58_bs70_0_1h _ _ _ _ _ _ _ _ _ _ _ _ _ _ _ _ _ _ _ _ _ _ _ _ _ _ _ _ _ _ _ _ _ w
theorem wr58_lh51 (c0 c1 c2 c3 c4 c5 c6 c7 c8 c9 c10 c11 c12 c13 c14 c15 c16 c17 c18 c19 c20 c21 c22 c23 c24 c25 c26 c27 c28 c29 c30 c31 c32 : Value) (w : World) : (Instr.buildSlice 51 1 #[(0, .agg #[c0, c1, c2, c3, c4, c5, c6, c7, c8, c9, c10, c11, c12, c13, c14, c15, c16, c17, c18, c19, c20, c21, c22, c23, c24, c25, c26, c27, c28, c29, c30, c31, c32])]).run Tryd.prog w = .ok (.slice (some ⟨w.heap.size, 0, none⟩) 1 1) (w.alloc (.cells #[c0, c1, c2, c3, c4, c5, c6, c7, c8, c9, c10, c11, c12, c13, c14, c15, c16, c17, c18, c19, c20, c21, c22, c23, c24, c25, c26, c27, c28, c29, c30, c31, c32] 70)) := by kernel_rfl
theorem wr58_lg51 : ∀ (cs : Array Value), cs.size = 33 → ∀ w : World, (Instr.buildSlice 51 1 #[(0, .agg cs)]).run Tryd.prog w = .ok (.slice (some ⟨w.heap.size, 0, none⟩) 1 1) (w.alloc (.cells cs 70))
 | ⟨c0 :: c1 :: c2 :: c3 :: c4 :: c5 :: c6 :: c7 :: c8 :: c9 :: c10 :: c11 :: c12 :: c13 :: c14 :: c15 :: c16 :: c17 :: c18 :: c19 :: c20 :: c21 :: c22 :: c23 :: c24 :: c25 :: c26 :: c27 :: c28 :: c29 :: c30 :: c31 :: c32 :: []⟩, _, w => wr58_lh51 c0 c1 c2 c3 c4 c5 c6 c7 c8 c9 c10 c11 c12 c13 c14 c15 c16 c17 c18 c19 c20 c21 c22 c23 c24 c25 c26 c27 c28 c29 c30 c31 c32 w
theorem wr58_ig70 : ∃ z, (Tryd.prog.info? 70).map (fun i => (i.zero, i.size, i.bytes)) = some (some z, 33, 48) ∧ z.cells.size = 33 := info_ex (by kernel_rfl)
theorem wr58_ty51 : Tryd.prog.underlying 51 = some (.slice 70) := by kernel_rfl
set_option maxHeartbeats 1600000
theorem listR_any {w0 w : World} {r : Nat} {v : Value} {b : Bs} {i : Nat} (hE0 : Ext w0 w) (hb : w.heap[r]? = some (.cells (rdC (rdX v b (i))).toArray 150 (0, 0))) (hr : RB w0 v b) (lr : w0.heap.size ≤ r) (hi : i ≤ b.length) (hl : b.length ≤ 4611686018427387904) :
  Calls Tryd.prog 136 #[PQ r 0] w fun e w' => (∃ x, e = .returned x ∧ ∃ u l j, nlP b i = some (l, j) ∧ u = x ∧ OG w.heap.size 70 33 nmdC w' u l ∧ w'.heap[r]? = some (.cells (rdC (rdX v b (j))).toArray 150 (0, 0)) ∧ j ≤ b.length ∧ w.grownBy w' (some r)) ∨ ∃ ch, e = .panicked ch ∧ nlP b i = none ∧ ch = [stopR] ∧ w.grownBy w' (some r) := by
 have hsz0 := hE0.size
 have hapr : b = [] ∨ OB v r := by
   rcases b with _ | ⟨b0, b1⟩
   ·exact .inl rfl
   ·exact .inr fun e => by have := RB.lt hr (by simp) e; omega
 have hlr := (bl hb)
 have hgr := World.grownBy.refl w (some r)
 refine calls_of_wpP (args := [PQ r 0]) Tryd.func136 rfl 19 rfl (Nat.le_of_ble_eq_true rfl) ?_
 intro ρ0 hb
 have T0 : ρ0 0 = (PQ r 0 : Value) := hb.get 0
 clear hb
 have hE := Ext.refl w
 refine sk fun K1 hK1 => (wt (oA rfl (oZ ?_)))
 have hrow0 : OG w.heap.size 70 33 nmdC w (Value.slice none 0 0) ([] : List Nmd) := OG.nil _ _ _ _ _
 refine tN (hK1 _ _ (sk fun K2 hK2 => (sk fun K3 hK3 => (wt (oM rfl ?_)))))
 have hap4 := OG.off hrow0 hb (by decide)
 refine oP rfl (Yp.callA2 wr58_pl139 T0 (vr (NI 64) rfl) ?_)
 refine calls_either (numberR_any _ r v b i hb (hr.keep hE0) hapr hi hl 64) ?_ ?_
 rotate_left
 ·
  rintro ch w7 ⟨hPx, rfl, hgx⟩
  refine thenF_panic (thenF_panic (postP_panic ?_))
  exact .inr ⟨_, rfl, nlP_none hPx, rfl, grownBy_trans hgr hgx (fun _ e => .inl e)⟩
 rintro v_ w9 ⟨n, j, hP, rfl, hb5, hg6⟩
 have hgr : w.grownBy w9 (some r) := grownBy_trans hgr hg6 (fun _ e => .inl e)
 have hE0 := row_fresh hE0 hg6 (Nat.le_trans (Nat.le_refl _) lr)
 have hrow0 := OG.kept hrow0 hg6 hap4
 clear hb
 have hb := hb5; clear hb5
 have hle_j := (numM_le hi hP).1
 have hl10 := bl hb
 refine oM rfl (oL_ [(0, PQ r 0), (2, (Value.slice none 0 0)), (5, NI n), (6, NI 0)] ⟨T0, rfl, rfl, rfl, trivial⟩ fun ρ11 ⟨T0, T2, T5, T6, _⟩ => ?_)
 have hnl := (numM_le hi hP).2.1
 refine tN (hK3 _ _ (wpF_block (wpF_loop (fun (ρ : Slots) (wz : World) => ∃ k : Nat, ∃ j0 : Nat, ∃ o : List Nmd, ∃ vo : Value, ρ 0 = (PQ r 0 : Value) ∧ ρ 5 = (NI n : Value) ∧ ρ 6 = (NI k : Value) ∧ ρ 2 = (vo : Value) ∧ w.grownBy wz (some r) ∧ Ext w0 wz ∧ wz.heap[r]? = some (.cells (rdC (rdX v b (j0))).toArray 150 (0, 0)) ∧ OG w.heap.size 70 33 (nmdC) wz vo (o) ∧ (k ≤ n) ∧ (j0 ≤ b.length) ∧ (itP (addNmd b) k ([], j) = some (o, j0)) ∧ True) (fun ρ _ => n - (intOf (ρ 6)).toNat) ⟨0, j, [], (Value.slice none 0 0), T0, T5, T6, T2, hgr, hE0, hb, og_eq hrow0 (rfl), Nat.zero_le _, hle_j, rfl, trivial⟩ ?_)))
 clear hrow0
 clear hb
 clear hgr hE0
 rintro ρ12 w13 ⟨k, j0, o, vo, T0, T5, T6, T2, hgr, hE0, hb, hr_vo, hk, hj0, hit, -⟩
 have q6 := T6
 have hap14 := OG.off hr_vo hb (by decide)
 refine sk fun K15 hK15 => (wt (oS rfl (Yk.eqI (a := (k : Nat)) (b := (n : Nat)) T6 T5 (k_lss _ _ _ _) (oZ (tN (hK15 _ _ (sk fun K16 hK16 => ?_)))))))
 refine wpF_cond ((k) < (n)) (vr (.bool (decide ((k) < (n)))) rfl) (fun hc0 => ?_) (fun hc0 => ?_)
 ·have hlt : k < n := hc0
  have hol : o.length = k := by have := add_len (f := addNmd b) (fun s t h => addNmd_len h) k hit; simpa using this
  refine wpF_skip (tN (hK16 _ _ (sk fun K17 hK17 => (wpF_block (sk fun K18 hK18 => (wt (oM rfl ?_)))))))
  have hap19 := OG.off hr_vo hb (by decide)
  refine oP rfl (Yp.callA1 wr58_pl137 T0 ?_)
  refine calls_either (textR_any _ r v b j0 hb (hr.keep hE0) hapr hj0 hl) ?_ ?_
  rotate_left
  ·
   rintro ch w22 ⟨hPx, rfl, hgx⟩
   refine thenF_panic (inBlockF_panic (thenF_panic (thenF_panic (inBlockF_panic (thenF_panic (postP_panic ?_))))))
   exact .inr ⟨_, rfl, nl_bad hP hlt hit (nmP_1 hPx), rfl, grownBy_trans hgr hgx (fun _ e => .inl e)⟩
  rintro v_ w24 ⟨d1, j1, hP1, rfl, hb20, hg21⟩
  have hgr : w.grownBy w24 (some r) := grownBy_trans hgr hg21 (fun _ e => .inl e)
  have hE0 := row_fresh hE0 hg21 (Nat.le_trans (Nat.le_refl _) lr)
  have hr_vo := OG.kept hr_vo hg21 hap19
  clear hb
  have hb := hb20; clear hb20
  have hle_j1 := (txtP_le hP1).1
  have hl25 := bl hb
  refine oA rfl (oZ (tN (hK18 _ _ (wt (oM rfl (oM rfl (oM rfl ?_)))))))
  have hap26 := OG.off hr_vo hb (by decide)
  refine oP rfl (Yp.callA1 wr58_pl138 T0 ?_)
  refine calls_either (idR_any _ r v b j1 hb (hr.keep hE0) hapr hle_j1 hl) ?_ ?_
  rotate_left
  ·
   rintro ch w29 ⟨hPx, rfl, hgx⟩
   refine inBlockF_panic (thenF_panic (thenF_panic (inBlockF_panic (thenF_panic (postP_panic ?_)))))
   exact .inr ⟨_, rfl, nl_bad hP hlt hit (nmP_2 hP1 hPx), rfl, grownBy_trans hgr hgx (fun _ e => .inl e)⟩
  rintro v_ w31 ⟨d2, j2, hP2, rfl, hb27, hg28⟩
  have hgr : w.grownBy w31 (some r) := grownBy_trans hgr hg28 (fun _ e => .inl e)
  have hE0 := row_fresh hE0 hg28 (Nat.le_trans (Nat.le_refl _) lr)
  have hr_vo := OG.kept hr_vo hg28 hap26
  clear hb
  have hb := hb27; clear hb27
  have hle_j2 := idP_le hP2
  have hl32 := bl hb
  refine oS rfl (Yk.build2 (vr (St (d1)) rfl) (vr (AB d2.1) rfl) (fun w => wr58_bs70_0_1 d1 d2 w) (oS rfl (Yk.lit1G (a := (⟨d1, d2⟩ : Nmd)) (enc := nmdC) (vr (.agg (nmdC (⟨d1, d2⟩ : Nmd)).toArray) rfl) (nmd_len _) wr58_lg51 fun v33 w34 hr35 hx36 => ?_)))
  have hgr : w.grownBy w34 (some r) := grownBy_trans hgr hx36.grown (fun _ e => by cases e)
  have hE0 := hE0.trans hx36
  have hr_vo := hr_vo.keep hx36
  have hb := eb hx36 hb
  have hap37 := OG.off hr_vo hb (by decide)
  have hap38 := OG.off hr_vo hb (by decide)
  refine oS rfl (Yk.appendRG _ _ w.heap.size _ 48 wr58_ty51 wr58_ig70.choose_spec.1 wr58_ig70.choose_spec.2 wr58_ty51 (o) ([(⟨d1, d2⟩ : Nmd)]) (OG.of hr_vo T2) (RG.of hr35 (vr v33 rfl)) (fun _ _ => nmd_one) (by simp only [List.length_cons, List.length_nil]; omega) (by simp only [List.length_cons, List.length_nil]; omega) hgr.size fun v39 w40 ho41 hg42 => ?_)
  have hg42 : Grew w34 w40 vo v39 := .eqv T2 hg42
  have hap43 : OB v39 r := apart_grew hg42 hap38 (bl hb)
  have hgr : w.grownBy w40 (some r) := grownBy_trans hgr hg42.by_ (fun _ e => .inr (hr_vo.2.lt _ e).1)
  have hE0 := ext_grew hE0 hg42 hr_vo.2 hsz0
  have hb := blk_grew hb hg42 hap38
  clear hr35
  clear hr_vo
  refine oA rfl (oZ (bN (tN (hK17 _ _ (wt (oS rfl (Yk.bin (xv := NI k) (yv := NI 1) T6 rfl rfl (i64_add _ _ _ (by omega)) (oM rfl (oL_ [(0, PQ r 0), (2, v39), (3, St (d1)), (5, NI n), (6, NI ((k) + (1)))] ⟨T0, rfl, rfl, T5, rfl, trivial⟩ fun ρ44 ⟨T0, T2, T3, T5, T6, _⟩ => (tN (And.intro ⟨k + 1, j2, o ++ [⟨d1, d2⟩], v39, T0, T5, T6, T2, hgr, hE0, hb, og_eq ho41 (rfl), by omega, hle_j2, nl_step hit (nmP_3 hP1 hP2), trivial⟩ ?_)))))))))))
  show n - (intOf (ρ44 6)).toNat < n - (intOf (ρ12 6)).toNat
  rw [T6, q6]
  simp only [intOf, Int.toNat_natCast]; omega
 have hkn : k = n := by omega
 subst hkn
 have hN : nlP b i = some (o, j0) := (nlP_some hP).trans hit
 refine wpF_exit (thenF_exit (thenF_exit (inBlockF_hit (tN (hK2 _ _ (sk fun K45 hK45 => (wt (oM rfl (oA rfl (oZ (tN (hK45 _ _ (wpF_ret (postP_ret (fn := Tryd.f136) _ rfl [vo] (vo) rfl ⟨T2, trivial⟩ ?_))))))))))))))
 exact .inl ⟨_, rfl, _, o, j0, hN, rfl, hr_vo, hb, hj0, hgr⟩
open Go.RowKit
set_option maxRecDepth 100000
theorem addEnt_len {b : Bs} {s t : List Ent × Nat} (h : addEnt b s = some t) : t.1.length = s.1.length + 1 := by
 unfold addEnt at h
 cases hn : entP b s.2 with
 | none => rw [hn] at h; cases h
 | some x => rw [hn] at h; cases h; simp
theorem wr59_al53 {d : Option Tmp} {ty : TypeId} {pos : String} {af : Array Edge} {gd : Option (Nat × Bool)} (σ : Operand → Value) (w : World) : (execOp σ ⟨d, .alloc 53, ty, pos, af, gd⟩).run Tryd.prog w = .ok (.value (PQ w.heap.size 0)) (w.alloc (.cells (refsC ((⟨[], [], [], zid, []⟩, ⟨.slice none 0 0, .slice none 0 0, .slice none 0 0⟩) : RefsV)).toArray 53)) := by kernel_rfl
theorem wr59_pl136 : Plain Tryd.prog 136 := fun _ _ => by kernel_rfl
theorem wr59_fo53_0 : FieldOff Tryd.prog 53 0 0 := fun b o w => by simp [go_sem]
theorem wr59_isz51 : (Tryd.prog.info? 51).map (·.size) = some 1 := by kernel_rfl
theorem wr59_fo53_1 : FieldOff Tryd.prog 53 1 1 := fun b o w => by simp [go_sem]
theorem wr59_pl137 : Plain Tryd.prog 137 := fun _ _ => by kernel_rfl
theorem wr59_fo53_2 : FieldOff Tryd.prog 53 2 2 := fun b o w => by simp [go_sem]
theorem wr59_isz9 : (Tryd.prog.info? 9).map (·.size) = some 1 := by kernel_rfl
theorem wr59_pl138 : Plain Tryd.prog 138 := fun _ _ => by kernel_rfl
theorem wr59_fo53_3 : FieldOff Tryd.prog 53 3 3 := fun b o w => by simp [go_sem]
theorem wr59_isz25 : (Tryd.prog.info? 25).map (·.size) = some 32 := by kernel_rfl
theorem wr59_pl139 : Plain Tryd.prog 139 := fun _ _ => by kernel_rfl
theorem wr59_al122 {d : Option Tmp} {ty : TypeId} {pos : String} {af : Array Edge} {gd : Option (Nat × Bool)} (σ : Operand → Value) (w : World) : (execOp σ ⟨d, .alloc 122, ty, pos, af, gd⟩).run Tryd.prog w = .ok (.value (PQ w.heap.size 0)) (w.alloc (.cells (entC (⟨0, [], zid, zid, []⟩ : Ent)).toArray 122)) := by kernel_rfl
theorem wr59_pl140 : Plain Tryd.prog 140 := fun _ _ => by kernel_rfl
theorem wr59_fo122_0 : FieldOff Tryd.prog 122 0 0 := fun b o w => by simp [go_sem]
theorem wr59_fo67_0 : FieldOff Tryd.prog 67 0 0 := fun b o w => by simp [go_sem]
theorem wr59_isz5 : (Tryd.prog.info? 5).map (·.size) = some 1 := by kernel_rfl
theorem wr59_fo67_1 : FieldOff Tryd.prog 67 1 1 := fun b o w => by simp [go_sem]
theorem wr59_fo67_2 : FieldOff Tryd.prog 67 2 2 := fun b o w => by simp [go_sem]
theorem wr59_fo67_3 : FieldOff Tryd.prog 67 3 34 := fun b o w => by simp [go_sem]
theorem wr59_fo122_1 : FieldOff Tryd.prog 122 1 66 := fun b o w => by simp [go_sem]
theorem wr59_fo53_4 : FieldOff Tryd.prog 53 4 35 := fun b o w => by simp [go_sem]
theorem wr59_ty47 : Tryd.prog.underlying 47 = some (.slice 122) := by kernel_rfl
theorem wr59_ty122 : ∃ fs, Tryd.prog.underlying 122 = some (.struct fs) := struct_of (by kernel_rfl)
theorem wr59_isz122 : (Tryd.prog.info? 122).map (·.size) = some 67 := by kernel_rfl
theorem wr59_lh47 (c0 c1 c2 c3 c4 c5 c6 c7 c8 c9 c10 c11 c12 c13 c14 c15 c16 c17 c18 c19 c20 c21 c22 c23 c24 c25 c26 c27 c28 c29 c30 c31 c32 c33 c34 c35 c36 c37 c38 c39 c40 c41 c42 c43 c44 c45 c46 c47 c48 c49 c50 c51 c52 c53 c54 c55 c56 c57 c58 c59 c60 c61 c62 c63 c64 c65 c66 : Value) (w : World) : (Instr.buildSlice 47 1 #[(0, .agg #[c0, c1, c2, c3, c4, c5, c6, c7, c8, c9, c10, c11, c12, c13, c14, c15, c16, c17, c18, c19, c20, c21, c22, c23, c24, c25, c26, c27, c28, c29, c30, c31, c32, c33, c34, c35, c36, c37, c38, c39, c40, c41, c42, c43, c44, c45, c46, c47, c48, c49, c50, c51, c52, c53, c54, c55, c56, c57, c58, c59, c60, c61, c62, c63, c64, c65, c66])]).run Tryd.prog w = .ok (.slice (some ⟨w.heap.size, 0, none⟩) 1 1) (w.alloc (.cells #[c0, c1, c2, c3, c4, c5, c6, c7, c8, c9, c10, c11, c12, c13, c14, c15, c16, c17, c18, c19, c20, c21, c22, c23, c24, c25, c26, c27, c28, c29, c30, c31, c32, c33, c34, c35, c36, c37, c38, c39, c40, c41, c42, c43, c44, c45, c46, c47, c48, c49, c50, c51, c52, c53, c54, c55, c56, c57, c58, c59, c60, c61, c62, c63, c64, c65, c66] 122)) := by kernel_rfl
theorem wr59_lg47 : ∀ (cs : Array Value), cs.size = 67 → ∀ w : World, (Instr.buildSlice 47 1 #[(0, .agg cs)]).run Tryd.prog w = .ok (.slice (some ⟨w.heap.size, 0, none⟩) 1 1) (w.alloc (.cells cs 122))
 | ⟨c0 :: c1 :: c2 :: c3 :: c4 :: c5 :: c6 :: c7 :: c8 :: c9 :: c10 :: c11 :: c12 :: c13 :: c14 :: c15 :: c16 :: c17 :: c18 :: c19 :: c20 :: c21 :: c22 :: c23 :: c24 :: c25 :: c26 :: c27 :: c28 :: c29 :: c30 :: c31 :: c32 :: c33 :: c34 :: c35 :: c36 :: c37 :: c38 :: c39 :: c40 :: c41 :: c42 :: c43 :: c44 :: c45 :: c46 :: c47 :: c48 :: c49 :: c50 :: c51 :: c52 :: c53 :: c54 :: c55 :: c56 :: c57 :: c58 :: c59 :: c60 :: c61 :: c62 :: c63 :: c64 :: c65 :: c66 :: []⟩, _, w => wr59_lh47 c0 c1 c2 c3 c4 c5 c6 c7 c8 c9 c10 c11 c12 c13 c14 c15 c16 c17 c18 c19 c20 c21 c22 c23 c24 c25 c26 c27 c28 c29 c30 c31 c32 c33 c34 c35 c36 c37 c38 c39 c40 c41 c42 c43 c44 c45 c46 c47 c48 c49 c50 c51 c52 c53 c54 c55 c56 c57 c58 c59 c60 c61 c62 c63 c64 c65 c66 w
theorem wr59_ig122 : ∃ z, (Tryd.prog.info? 122).map (fun i => (i.zero, i.size, i.bytes)) = some (some z, 67, 104) ∧ z.cells.size = 67 := info_ex (by kernel_rfl)
theorem wr59_isz47 : (Tryd.prog.info? 47).map (·.size) = some 1 := by kernel_rfl
theorem wr59_fo150_1 : FieldOff Tryd.prog 150 1 1 := fun b o w => by simp [go_sem]
theorem wr59_ty3 : Tryd.prog.underlying 3 = some (.int .i64) := by kernel_rfl
theorem wr59_fo150_0 : FieldOff Tryd.prog 150 0 0 := fun b o w => by simp [go_sem]
theorem wr59_ty26 : Tryd.prog.underlying 26 = some (.slice 5) := by kernel_rfl
theorem wr59_ty53 : ∃ fs, Tryd.prog.underlying 53 = some (.struct fs) := struct_of (by kernel_rfl)
theorem wr59_isz53 : (Tryd.prog.info? 53).map (·.size) = some 36 := by kernel_rfl
theorem wr59_pl31 : Plain Tryd.prog 31 := fun _ _ => by kernel_rfl
theorem wr59_pl141 : Plain Tryd.prog 141 := fun _ _ => by kernel_rfl
set_option maxHeartbeats 3200000
theorem refsR_any {w0 w : World} {r : Nat} {v : Value} {b : Bs} (hE0 : Ext w0 w) (hb : w.heap[r]? = some (.cells (rdC (rdX v b (0))).toArray 150 (0, 0))) (hr : RB w0 v b) (lr : w0.heap.size ≤ r) (hl : b.length ≤ 4611686018427387904) :
  Calls Tryd.prog 98 #[PQ r 0] w fun e w' => (∃ x, e = .returned x ∧ ∃ X : RefsV, decR b = some X.1 ∧ x = .agg (refsC X).toArray ∧ RefsOw w0.heap.size w' X ∧ Ext w0 w') ∨ ∃ ch, e = .panicked ch ∧ decR b = none ∧ ch = [stopR] ∧ Ext w0 w' := by
 have hz0 := hE0.size
 have hlr := (bl hb)
 have hapr : b = [] ∨ OB v r := by
   rcases b with _ | ⟨b0, b1⟩
   ·exact .inl rfl
   ·exact .inr fun e => by have := RB.lt hr (by simp) e; omega
 refine calls_of_wpP (args := [PQ r 0]) Tryd.func98 rfl 63 rfl (Nat.le_of_ble_eq_true rfl) ?_
 intro ρ0 hb
 have T0 : ρ0 0 = (PQ r 0 : Value) := hb.get 0
 clear hb
 have hE := Ext.refl w
 refine sk fun K1 hK1 => (wt (oS rfl (Yk.alloc (cs := (refsC ((⟨[], [], [], zid, []⟩, ⟨.slice none 0 0, .slice none 0 0, .slice none 0 0⟩) : RefsV)).toArray) wr59_al53 fun n2 w3 hn4 hb5 hx6 hs7 => ?_)))
 have hA8 := Ext.refl w
 have hea9 := hE
 have hea10 := hE0
 have hz11 := hE.size
 have hz12 := hE0.size
 have hlt13 := lte (bl hb) hn4
 have hE0 := hE0.trans hx6
 have hb := eb hx6 hb
 have hE := hE.trans hx6
 have hA8 := hA8.trans hx6
 have hb14 := hb5; clear hb5
 have hl15 : n2 < w3.heap.size := by omega
 refine oZ (tN (hK1 _ _ (sk fun K16 hK16 => (wt (oS rfl (Yk.alloc (cs := (refsC ((⟨[], [], [], zid, []⟩, ⟨.slice none 0 0, .slice none 0 0, .slice none 0 0⟩) : RefsV)).toArray) wr59_al53 fun n17 w18 hn19 hb20 hx21 hs22 => ?_))))))
 have hA23 := Ext.refl w3
 have hea24 := hE
 have hea25 := hE0
 have hea26 := hA8
 have hz27 := hE.size
 have hz28 := hE0.size
 have hz29 := hA8.size
 have hlt30 := lte (bl hb) hn19
 have hlt31 := lte (bl hb14) hn19
 have hE0 := hE0.trans hx21
 have hb := eb hx21 hb
 have hE := hE.trans hx21
 have hA8 := hA8.trans hx21
 have hb14 := eb hx21 hb14
 have hA23 := hA23.trans hx21
 have hb32 := hb20; clear hb20
 have hl33 : n17 < w18.heap.size := by omega
 refine oZ (tN (hK16 _ _ (sk fun K34 hK34 => (wt (oM rfl ?_)))))
 have hz_ := hE0.size
 refine oP rfl (Yp.callA1 wr59_pl136 T0 ?_)
 refine calls_either (listR_any hE0 hb hr lr (Nat.zero_le _) hl) ?_ ?_
 rotate_left
 ·
  rintro ch w35 ⟨hPx, rfl, hgx⟩
  refine thenF_panic (postP_panic ?_)
  exact .inr ⟨_, rfl, by unfold decR; simp only [hPx, Option.bind_some, Option.bind_none], rfl, row_fresh hE0 hgx lr⟩
 rintro v_ w37 ⟨u1, l1, i1, hN1, rfl, ho1, hbq1, hle_i1, hgq1⟩
 have hE0 := row_fresh hE0 hgq1 (Nat.le_trans (Nat.le_refl _) lr)
 clear hE
 clear hA8
 have hb14 := kb hgq1 hb14 (by omega)
 clear hA23
 have hb32 := kb hgq1 hb32 (by omega)
 clear hb
 have hb := hbq1; clear hbq1
 have hl38 := bl hb
 have ho1 := OG.low ho1 hz_
 refine oS rfl (Yk.fieldAt wr59_fo53_0 (vr (PQ n17 0) rfl) ?_)
 have hap39 := OG.off ho1 hb32 (by decide)
 refine oS rfl (Yk.storeC (i := 0) (v := u1) (vr (PQ n17 0) rfl) (vr u1 rfl) hb32 (by rw [refs_len]; decide) wr59_isz51 (RG.one (RG.ofOwn ho1)).1 (RG.one (RG.ofOwn ho1)).2 fun w40 hb41 hg42 hs43 => ?_)
 have hE0 := row_fresh hE0 hg42 (Nat.le_trans hz28 (by omega))
 have hb14 := kb hg42 hb14 (by omega)
 have hb := kb hg42 hb (by omega)
 have ho1 := OG.kept ho1 hg42 hap39
 clear hb32
 have hb32 : w40.heap[n17]? = some (.cells (refsC ((⟨l1, [], [], zid, []⟩, ⟨u1, (Value.slice none 0 0), (Value.slice none 0 0)⟩) : RefsV)).toArray 53 (0, 0)) := blk_eq hb41 (refs_s0 ((⟨[], [], [], zid, []⟩, ⟨.slice none 0 0, .slice none 0 0, .slice none 0 0⟩) : RefsV) u1 (l1)); clear hb41
 have hl44 := bl hb32
 refine oZ (tN (hK34 _ _ (sk fun K45 hK45 => (wt (oM rfl ?_)))))
 have hap46 := OG.off ho1 hb (by decide)
 have hz_ := hE0.size
 refine oP rfl (Yp.callA1 wr59_pl136 T0 ?_)
 refine calls_either (listR_any hE0 hb hr lr hle_i1 hl) ?_ ?_
 rotate_left
 ·
  rintro ch w47 ⟨hPx, rfl, hgx⟩
  refine thenF_panic (postP_panic ?_)
  exact .inr ⟨_, rfl, by unfold decR; simp only [hN1, hPx, Option.bind_some, Option.bind_none], rfl, row_fresh hE0 hgx lr⟩
 rintro v_ w49 ⟨u2, l2, i2, hN2, rfl, ho2, hbq2, hle_i2, hgq2⟩
 have hE0 := row_fresh hE0 hgq2 (Nat.le_trans (Nat.le_refl _) lr)
 have hb14 := kb hgq2 hb14 (by omega)
 have ho1 := OG.kept ho1 hgq2 hap46
 have hb32 := kb hgq2 hb32 (by omega)
 clear hb
 have hb := hbq2; clear hbq2
 have hl50 := bl hb
 have ho2 := OG.low ho2 hz_
 refine oS rfl (Yk.fieldAt wr59_fo53_1 (vr (PQ n17 0) rfl) ?_)
 have hap51 := OG.off ho1 hb32 (by decide)
 have hap52 := OG.off ho2 hb32 (by decide)
 refine oS rfl (Yk.storeC (i := 1) (v := u2) (vr (PQ n17 1) rfl) (vr u2 rfl) hb32 (by rw [refs_len]; decide) wr59_isz51 (RG.one (RG.ofOwn ho2)).1 (RG.one (RG.ofOwn ho2)).2 fun w53 hb54 hg55 hs56 => ?_)
 have hE0 := row_fresh hE0 hg55 (Nat.le_trans hz28 (by omega))
 have hb14 := kb hg55 hb14 (by omega)
 have ho1 := OG.kept ho1 hg55 hap51
 have hb := kb hg55 hb (by omega)
 have ho2 := OG.kept ho2 hg55 hap52
 clear hb32
 have hb32 : w53.heap[n17]? = some (.cells (refsC ((⟨l1, l2, [], zid, []⟩, ⟨u1, u2, (Value.slice none 0 0)⟩) : RefsV)).toArray 53 (0, 0)) := blk_eq hb54 (refs_s1 ((⟨l1, [], [], zid, []⟩, ⟨u1, (Value.slice none 0 0), (Value.slice none 0 0)⟩) : RefsV) u2 (l2)); clear hb54
 have hl57 := bl hb32
 refine oZ (tN (hK45 _ _ (sk fun K58 hK58 => (wt (oM rfl ?_)))))
 have hap59 := OG.off ho1 hb (by decide)
 have hap60 := OG.off ho2 hb (by decide)
 refine oP rfl (Yp.callA1 wr59_pl137 T0 ?_)
 refine calls_either (textR_any _ r v b i2 hb (hr.keep hE0) hapr hle_i2 hl) ?_ ?_
 rotate_left
 ·
  rintro ch w63 ⟨hPx, rfl, hgx⟩
  refine thenF_panic (postP_panic ?_)
  exact .inr ⟨_, rfl, by unfold decR; simp only [hN1, hN2, hPx, Option.bind_some, Option.bind_none], rfl, row_fresh hE0 hgx lr⟩
 rintro v_ w65 ⟨d3, i3, hP3, rfl, hb61, hg62⟩
 have hE0 := row_fresh hE0 hg62 (Nat.le_trans (Nat.le_refl _) lr)
 have hb14 := kb hg62 hb14 (by omega)
 have ho1 := OG.kept ho1 hg62 hap59
 have ho2 := OG.kept ho2 hg62 hap60
 have hb32 := kb hg62 hb32 (by omega)
 clear hb
 have hb := hb61; clear hb61
 have hle_i3 := (txtP_le hP3).1
 have hl66 := bl hb
 refine oS rfl (Yk.fieldAt wr59_fo53_2 (vr (PQ n17 0) rfl) ?_)
 have hap67 := OG.off ho1 hb32 (by decide)
 have hap68 := OG.off ho2 hb32 (by decide)
 refine oS rfl (Yk.storeC (i := 2) (v := St (d3)) (vr (PQ n17 2) rfl) (vr (St (d3)) rfl) hb32 (by rw [refs_len]; decide) wr59_isz9 rfl rfl fun w69 hb70 hg71 hs72 => ?_)
 have hE0 := row_fresh hE0 hg71 (Nat.le_trans hz28 (by omega))
 have hb14 := kb hg71 hb14 (by omega)
 have ho1 := OG.kept ho1 hg71 hap67
 have ho2 := OG.kept ho2 hg71 hap68
 have hb := kb hg71 hb (by omega)
 clear hb32
 have hb32 : w69.heap[n17]? = some (.cells (refsC ((⟨l1, l2, d3, zid, []⟩, ⟨u1, u2, (Value.slice none 0 0)⟩) : RefsV)).toArray 53 (0, 0)) := blk_eq hb70 (refs_s2 ((⟨l1, l2, [], zid, []⟩, ⟨u1, u2, (Value.slice none 0 0)⟩) : RefsV) d3); clear hb70
 have hl73 := bl hb32
 refine oZ (tN (hK58 _ _ (sk fun K74 hK74 => (wt (oM rfl ?_)))))
 have hap75 := OG.off ho1 hb (by decide)
 have hap76 := OG.off ho2 hb (by decide)
 refine oP rfl (Yp.callA1 wr59_pl138 T0 ?_)
 refine calls_either (idR_any _ r v b i3 hb (hr.keep hE0) hapr hle_i3 hl) ?_ ?_
 rotate_left
 ·
  rintro ch w79 ⟨hPx, rfl, hgx⟩
  refine thenF_panic (postP_panic ?_)
  exact .inr ⟨_, rfl, by unfold decR; simp only [hN1, hN2, hP3, hPx, Option.bind_some, Option.bind_none], rfl, row_fresh hE0 hgx lr⟩
 rintro v_ w81 ⟨d4, i4, hP4, rfl, hb77, hg78⟩
 have hE0 := row_fresh hE0 hg78 (Nat.le_trans (Nat.le_refl _) lr)
 have hb14 := kb hg78 hb14 (by omega)
 have ho1 := OG.kept ho1 hg78 hap75
 have ho2 := OG.kept ho2 hg78 hap76
 have hb32 := kb hg78 hb32 (by omega)
 clear hb
 have hb := hb77; clear hb77
 have hle_i4 := idP_le hP4
 have hl82 := bl hb
 refine oS rfl (Yk.fieldAt wr59_fo53_3 (vr (PQ n17 0) rfl) ?_)
 have hap83 := OG.off ho1 hb32 (by decide)
 have hap84 := OG.off ho2 hb32 (by decide)
 refine oS rfl (Yk.storeMid (a := refs_a3 ((⟨l1, l2, d3, zid, []⟩, ⟨u1, u2, (Value.slice none 0 0)⟩) : RefsV)) (m := Lib.byteCells zid.1) (z := refs_z3 ((⟨l1, l2, d3, zid, []⟩, ⟨u1, u2, (Value.slice none 0 0)⟩) : RefsV)) (cells := Lib.byteCells d4.1) (vr (PQ n17 3) rfl) (vr (AB d4.1) rfl) (refs_m3 ((⟨l1, l2, d3, zid, []⟩, ⟨u1, u2, (Value.slice none 0 0)⟩) : RefsV) ▸ hb32) (refs_n3 ((⟨l1, l2, d3, zid, []⟩, ⟨u1, u2, (Value.slice none 0 0)⟩) : RefsV)) (by rw [Lib.byteCells_length, Lib.byteCells_length, zid.2, d4.2]) (by rw [Lib.byteCells_length, d4.2]; exact wr59_isz25) (byteCells_one _) fun w85 hb86 hg87 hs88 => ?_)
 have hE0 := row_fresh hE0 hg87 (Nat.le_trans hz28 (by omega))
 have hb14 := kb hg87 hb14 (by omega)
 have ho1 := OG.kept ho1 hg87 hap83
 have ho2 := OG.kept ho2 hg87 hap84
 have hb := kb hg87 hb (by omega)
 clear hb32
 have hb32 : w85.heap[n17]? = some (.cells (refsC ((⟨l1, l2, d3, d4, []⟩, ⟨u1, u2, (Value.slice none 0 0)⟩) : RefsV)).toArray 53 (0, 0)) := blk_eq hb86 (refs_s3 ((⟨l1, l2, d3, zid, []⟩, ⟨u1, u2, (Value.slice none 0 0)⟩) : RefsV) d4); clear hb86
 have hl89 := bl hb32
 refine oZ (tN (hK74 _ _ (sk fun K90 hK90 => (sk fun K91 hK91 => (wt (oM rfl ?_))))))
 have hap92 := OG.off ho1 hb (by decide)
 have hap93 := OG.off ho2 hb (by decide)
 refine oP rfl (Yp.callA2 wr59_pl139 T0 (vr (NI 64) rfl) ?_)
 refine calls_either (numberR_any _ r v b i4 hb (hr.keep hE0) hapr hle_i4 hl 64) ?_ ?_
 rotate_left
 ·
  rintro ch w96 ⟨hPx, rfl, hgx⟩
  refine thenF_panic (thenF_panic (postP_panic ?_))
  exact .inr ⟨_, rfl, by unfold decR; simp only [hN1, hN2, hP3, hP4, elP_none hPx, Option.bind_some, Option.bind_none], rfl, row_fresh hE0 hgx lr⟩
 rintro v_ w98 ⟨n, j, hP, rfl, hb94, hg95⟩
 have hE0 := row_fresh hE0 hg95 (Nat.le_trans (Nat.le_refl _) lr)
 have hb14 := kb hg95 hb14 (by omega)
 have ho1 := OG.kept ho1 hg95 hap92
 have ho2 := OG.kept ho2 hg95 hap93
 have hb32 := kb hg95 hb32 (by omega)
 clear hb
 have hb := hb94; clear hb94
 have hle_j := (numM_le hle_i4 hP).1
 have hl99 := bl hb
 refine oM rfl (oL_ [(0, PQ r 0), (2, PQ n2 0), (3, PQ n17 0), (18, NI n), (19, NI 0)] ⟨T0, rfl, rfl, rfl, rfl, trivial⟩ fun ρ100 ⟨T0, T2, T3, T18, T19, _⟩ => ?_)
 have hnl := (numM_le hle_i4 hP).2.1
 refine tN (hK91 _ _ (wpF_block (wpF_loop (fun (ρ : Slots) (wz : World) => ∃ k : Nat, ∃ j0 : Nat, ∃ lo : List Ent, ∃ vl : Value, ρ 0 = (PQ r 0 : Value) ∧ ρ 2 = (PQ n2 0 : Value) ∧ ρ 3 = (PQ n17 0 : Value) ∧ ρ 18 = (NI n : Value) ∧ ρ 19 = (NI k : Value) ∧ Ext w0 wz ∧ wz.heap[n2]? = some (.cells (refsC ((⟨[], [], [], zid, []⟩, ⟨.slice none 0 0, .slice none 0 0, .slice none 0 0⟩) : RefsV)).toArray 53 (0, 0)) ∧ OG w0.heap.size 70 33 nmdC wz u1 l1 ∧ OG w0.heap.size 70 33 nmdC wz u2 l2 ∧ wz.heap[r]? = some (.cells (rdC (rdX v b (j0))).toArray 150 (0, 0)) ∧ wz.heap[n17]? = some (.cells (refsC ((⟨l1, l2, d3, d4, lo⟩, ⟨u1, u2, vl⟩) : RefsV)).toArray 53 (0, 0)) ∧ OG w0.heap.size 122 67 entC wz vl lo ∧ (k ≤ n) ∧ (j0 ≤ b.length) ∧ (itP (addEnt b) k ([], j) = some (lo, j0)) ∧ True) (fun ρ _ => n - (intOf (ρ 19)).toNat) ⟨0, j, [], (Value.slice none 0 0), T0, T2, T3, T18, T19, hE0, hb14, ho1, ho2, hb, hb32, OG.nil _ _ _ _ _, Nat.zero_le _, hle_j, rfl, trivial⟩ ?_)))
 clear hb32
 clear hb
 clear hE0 hb14 ho1 ho2
 rintro ρ101 w102 ⟨k, j0, lo, vl, T0, T2, T3, T18, T19, hE0, hb14, ho1, ho2, hb, hbo, hol, hk, hj0, hit, -⟩
 have q19 := T19
 have hap103 := OG.off ho1 hb (by decide)
 have hap104 := OG.off ho2 hb (by decide)
 have hap105 := OG.off hol hb (by decide)
 have hlg3 := (bl hbo)
 refine sk fun K106 hK106 => (wt (oS rfl (Yk.eqI (a := (k : Nat)) (b := (n : Nat)) T19 T18 (k_lss _ _ _ _) (oZ (tN (hK106 _ _ (sk fun K107 hK107 => ?_)))))))
 refine wpF_cond ((k) < (n)) (vr (.bool (decide ((k) < (n)))) rfl) (fun hc0 => ?_) (fun hc0 => ?_)
 ·have hlt : k < n := hc0
  have hol_ : lo.length = k := by have := add_len (f := addEnt b) (fun s t h => addEnt_len h) k hit; simpa using this
  refine wpF_skip (tN (hK107 _ _ (sk fun K108 hK108 => (wpF_block (sk fun K109 hK109 => (wt (oS rfl (Yk.alloc (cs := (entC (⟨0, [], zid, zid, []⟩ : Ent)).toArray) wr59_al122 fun n110 w111 hn112 hb113 hx114 hs115 => ?_))))))))
  have hA116 := Ext.refl w102
  have hea117 := hE0
  have hz118 := hE0.size
  have hlt119 := lte (bl hb14) hn112
  have hlt120 := lte (bl hb) hn112
  have hlt121 := lte (bl hbo) hn112
  have hap122 : OB u1 n110 := own_newer ho1.2 (by omega)
  have hap123 : OB u2 n110 := own_newer ho2.2 (by omega)
  have hap124 : OB vl n110 := own_newer hol.2 (by omega)
  have hE0 := hE0.trans hx114
  have hb14 := eb hx114 hb14
  have ho1 := ho1.keep hx114
  have ho2 := ho2.keep hx114
  have hb := eb hx114 hb
  have hbo := eb hx114 hbo
  have hol := hol.keep hx114
  have hA116 := hA116.trans hx114
  have hb125 := hb113; clear hb113
  have hl126 : n110 < w111.heap.size := by omega
  refine oZ (tN (hK109 _ _ (sk fun K127 hK127 => (wt (oM rfl ?_)))))
  have hap128 := OG.off ho1 hb (by decide)
  have hap129 := OG.off ho2 hb (by decide)
  have hap130 := OG.off hol hb (by decide)
  refine oP rfl (Yp.callA1 wr59_pl140 T0 ?_)
  refine calls_either (byteR_any _ r v b j0 hb (hr.keep hE0) hapr hj0 hl) ?_ ?_
  rotate_left
  ·
   rintro ch w133 ⟨hPx, rfl, hgx⟩
   refine thenF_panic (inBlockF_panic (thenF_panic (thenF_panic (inBlockF_panic (thenF_panic (postP_panic ?_))))))
   exact .inr ⟨_, rfl, by unfold decR; simp only [hN1, hN2, hP3, hP4, el_bad hP hlt hit (show entP b j0 = none by unfold entP; simp only [hPx, Option.bind_some, Option.bind_none]), Option.bind_some, Option.bind_none], rfl, row_fresh hE0 hgx lr⟩
  rintro v_ w135 ⟨d5, i5, hP5, rfl, hb131, hg132⟩
  have hE0 := row_fresh hE0 hg132 (Nat.le_trans (Nat.le_refl _) lr)
  have hb14 := kb hg132 hb14 (by omega)
  have ho1 := OG.kept ho1 hg132 hap128
  have ho2 := OG.kept ho2 hg132 hap129
  have hbo := kb hg132 hbo (by omega)
  have hol := OG.kept hol hg132 hap130
  clear hA116
  have hb125 := kb hg132 hb125 (by omega)
  clear hb
  have hb := hb131; clear hb131
  have hle_i5 := byteP_le hP5
  have hl136 := bl hb
  refine oS rfl (Yk.fieldAt wr59_fo122_0 (vr (PQ n110 0) rfl) (oS rfl (Yk.fieldAt wr59_fo67_0 (vr (PQ n110 0) rfl) ?_)))
  have hap137 := OG.off ho1 hb125 (by decide)
  have hap138 := OG.off ho2 hb125 (by decide)
  refine oS rfl (Yk.storeC (i := 0) (v := B8 (d5)) (vr (PQ n110 0) rfl) (vr (B8 (d5)) rfl) hb125 (by rw [ent_len]; decide) wr59_isz5 rfl rfl fun w139 hb140 hg141 hs142 => ?_)
  have hE0 := row_fresh hE0 hg141 (Nat.le_trans hz118 (by omega))
  have hb14 := kb hg141 hb14 (by omega)
  have ho1 := OG.kept ho1 hg141 hap137
  have ho2 := OG.kept ho2 hg141 hap138
  have hbo := kb hg141 hbo (by omega)
  have hol := OG.kept hol hg141 hap124
  have hb := kb hg141 hb (by omega)
  clear hb125
  have hb125 : w139.heap[n110]? = some (.cells (entC (⟨d5, [], zid, zid, []⟩ : Ent)).toArray 122 (0, 0)) := blk_eq hb140 (ent_s0 (⟨0, [], zid, zid, []⟩ : Ent) d5); clear hb140
  have hl143 := bl hb125
  refine oZ (tN (hK127 _ _ (sk fun K144 hK144 => (wt (oM rfl ?_)))))
  have hap145 := OG.off ho1 hb (by decide)
  have hap146 := OG.off ho2 hb (by decide)
  have hap147 := OG.off hol hb (by decide)
  refine oP rfl (Yp.callA1 wr59_pl137 T0 ?_)
  refine calls_either (textR_any _ r v b i5 hb (hr.keep hE0) hapr hle_i5 hl) ?_ ?_
  rotate_left
  ·
   rintro ch w150 ⟨hPx, rfl, hgx⟩
   refine thenF_panic (inBlockF_panic (thenF_panic (thenF_panic (inBlockF_panic (thenF_panic (postP_panic ?_))))))
   exact .inr ⟨_, rfl, by unfold decR; simp only [hN1, hN2, hP3, hP4, el_bad hP hlt hit (show entP b j0 = none by unfold entP; simp only [hP5, hPx, Option.bind_some, Option.bind_none]), Option.bind_some, Option.bind_none], rfl, row_fresh hE0 hgx lr⟩
  rintro v_ w152 ⟨d6, i6, hP6, rfl, hb148, hg149⟩
  have hE0 := row_fresh hE0 hg149 (Nat.le_trans (Nat.le_refl _) lr)
  have hb14 := kb hg149 hb14 (by omega)
  have ho1 := OG.kept ho1 hg149 hap145
  have ho2 := OG.kept ho2 hg149 hap146
  have hbo := kb hg149 hbo (by omega)
  have hol := OG.kept hol hg149 hap147
  have hb125 := kb hg149 hb125 (by omega)
  clear hb
  have hb := hb148; clear hb148
  have hle_i6 := (txtP_le hP6).1
  have hl153 := bl hb
  refine oS rfl (Yk.fieldAt wr59_fo122_0 (vr (PQ n110 0) rfl) (oS rfl (Yk.fieldAt wr59_fo67_1 (vr (PQ n110 0) rfl) ?_)))
  have hap154 := OG.off ho1 hb125 (by decide)
  have hap155 := OG.off ho2 hb125 (by decide)
  refine oS rfl (Yk.storeC (i := 1) (v := St (d6)) (vr (PQ n110 1) rfl) (vr (St (d6)) rfl) hb125 (by rw [ent_len]; decide) wr59_isz9 rfl rfl fun w156 hb157 hg158 hs159 => ?_)
  have hE0 := row_fresh hE0 hg158 (Nat.le_trans hz118 (by omega))
  have hb14 := kb hg158 hb14 (by omega)
  have ho1 := OG.kept ho1 hg158 hap154
  have ho2 := OG.kept ho2 hg158 hap155
  have hbo := kb hg158 hbo (by omega)
  have hol := OG.kept hol hg158 hap124
  have hb := kb hg158 hb (by omega)
  clear hb125
  have hb125 : w156.heap[n110]? = some (.cells (entC (⟨d5, d6, zid, zid, []⟩ : Ent)).toArray 122 (0, 0)) := blk_eq hb157 (ent_s1 (⟨d5, [], zid, zid, []⟩ : Ent) d6); clear hb157
  have hl160 := bl hb125
  refine oZ (tN (hK144 _ _ (sk fun K161 hK161 => (wt (oM rfl ?_)))))
  have hap162 := OG.off ho1 hb (by decide)
  have hap163 := OG.off ho2 hb (by decide)
  have hap164 := OG.off hol hb (by decide)
  refine oP rfl (Yp.callA1 wr59_pl138 T0 ?_)
  refine calls_either (idR_any _ r v b i6 hb (hr.keep hE0) hapr hle_i6 hl) ?_ ?_
  rotate_left
  ·
   rintro ch w167 ⟨hPx, rfl, hgx⟩
   refine thenF_panic (inBlockF_panic (thenF_panic (thenF_panic (inBlockF_panic (thenF_panic (postP_panic ?_))))))
   exact .inr ⟨_, rfl, by unfold decR; simp only [hN1, hN2, hP3, hP4, el_bad hP hlt hit (show entP b j0 = none by unfold entP; simp only [hP5, hP6, hPx, Option.bind_some, Option.bind_none]), Option.bind_some, Option.bind_none], rfl, row_fresh hE0 hgx lr⟩
  rintro v_ w169 ⟨d7, i7, hP7, rfl, hb165, hg166⟩
  have hE0 := row_fresh hE0 hg166 (Nat.le_trans (Nat.le_refl _) lr)
  have hb14 := kb hg166 hb14 (by omega)
  have ho1 := OG.kept ho1 hg166 hap162
  have ho2 := OG.kept ho2 hg166 hap163
  have hbo := kb hg166 hbo (by omega)
  have hol := OG.kept hol hg166 hap164
  have hb125 := kb hg166 hb125 (by omega)
  clear hb
  have hb := hb165; clear hb165
  have hle_i7 := idP_le hP7
  have hl170 := bl hb
  refine oS rfl (Yk.fieldAt wr59_fo122_0 (vr (PQ n110 0) rfl) (oS rfl (Yk.fieldAt wr59_fo67_2 (vr (PQ n110 0) rfl) ?_)))
  have hap171 := OG.off ho1 hb125 (by decide)
  have hap172 := OG.off ho2 hb125 (by decide)
  refine oS rfl (Yk.storeMid (a := ent_a2 (⟨d5, d6, zid, zid, []⟩ : Ent)) (m := Lib.byteCells zid.1) (z := ent_z2 (⟨d5, d6, zid, zid, []⟩ : Ent)) (cells := Lib.byteCells d7.1) (vr (PQ n110 2) rfl) (vr (AB d7.1) rfl) (ent_m2 (⟨d5, d6, zid, zid, []⟩ : Ent) ▸ hb125) (ent_n2 (⟨d5, d6, zid, zid, []⟩ : Ent)) (by rw [Lib.byteCells_length, Lib.byteCells_length, zid.2, d7.2]) (by rw [Lib.byteCells_length, d7.2]; exact wr59_isz25) (byteCells_one _) fun w173 hb174 hg175 hs176 => ?_)
  have hE0 := row_fresh hE0 hg175 (Nat.le_trans hz118 (by omega))
  have hb14 := kb hg175 hb14 (by omega)
  have ho1 := OG.kept ho1 hg175 hap171
  have ho2 := OG.kept ho2 hg175 hap172
  have hbo := kb hg175 hbo (by omega)
  have hol := OG.kept hol hg175 hap124
  have hb := kb hg175 hb (by omega)
  clear hb125
  have hb125 : w173.heap[n110]? = some (.cells (entC (⟨d5, d6, d7, zid, []⟩ : Ent)).toArray 122 (0, 0)) := blk_eq hb174 (ent_s2 (⟨d5, d6, zid, zid, []⟩ : Ent) d7); clear hb174
  have hl177 := bl hb125
  refine oZ (tN (hK161 _ _ (sk fun K178 hK178 => (wt (oM rfl ?_)))))
  have hap179 := OG.off ho1 hb (by decide)
  have hap180 := OG.off ho2 hb (by decide)
  have hap181 := OG.off hol hb (by decide)
  refine oP rfl (Yp.callA1 wr59_pl138 T0 ?_)
  refine calls_either (idR_any _ r v b i7 hb (hr.keep hE0) hapr hle_i7 hl) ?_ ?_
  rotate_left
  ·
   rintro ch w184 ⟨hPx, rfl, hgx⟩
   refine thenF_panic (inBlockF_panic (thenF_panic (thenF_panic (inBlockF_panic (thenF_panic (postP_panic ?_))))))
   exact .inr ⟨_, rfl, by unfold decR; simp only [hN1, hN2, hP3, hP4, el_bad hP hlt hit (show entP b j0 = none by unfold entP; simp only [hP5, hP6, hP7, hPx, Option.bind_some, Option.bind_none]), Option.bind_some, Option.bind_none], rfl, row_fresh hE0 hgx lr⟩
  rintro v_ w186 ⟨d8, i8, hP8, rfl, hb182, hg183⟩
  have hE0 := row_fresh hE0 hg183 (Nat.le_trans (Nat.le_refl _) lr)
  have hb14 := kb hg183 hb14 (by omega)
  have ho1 := OG.kept ho1 hg183 hap179
  have ho2 := OG.kept ho2 hg183 hap180
  have hbo := kb hg183 hbo (by omega)
  have hol := OG.kept hol hg183 hap181
  have hb125 := kb hg183 hb125 (by omega)
  clear hb
  have hb := hb182; clear hb182
  have hle_i8 := idP_le hP8
  have hl187 := bl hb
  refine oS rfl (Yk.fieldAt wr59_fo122_0 (vr (PQ n110 0) rfl) (oS rfl (Yk.fieldAt wr59_fo67_3 (vr (PQ n110 0) rfl) ?_)))
  have hap188 := OG.off ho1 hb125 (by decide)
  have hap189 := OG.off ho2 hb125 (by decide)
  refine oS rfl (Yk.storeMid (a := ent_a3 (⟨d5, d6, d7, zid, []⟩ : Ent)) (m := Lib.byteCells zid.1) (z := ent_z3 (⟨d5, d6, d7, zid, []⟩ : Ent)) (cells := Lib.byteCells d8.1) (vr (PQ n110 34) rfl) (vr (AB d8.1) rfl) (ent_m3 (⟨d5, d6, d7, zid, []⟩ : Ent) ▸ hb125) (ent_n3 (⟨d5, d6, d7, zid, []⟩ : Ent)) (by rw [Lib.byteCells_length, Lib.byteCells_length, zid.2, d8.2]) (by rw [Lib.byteCells_length, d8.2]; exact wr59_isz25) (byteCells_one _) fun w190 hb191 hg192 hs193 => ?_)
  have hE0 := row_fresh hE0 hg192 (Nat.le_trans hz118 (by omega))
  have hb14 := kb hg192 hb14 (by omega)
  have ho1 := OG.kept ho1 hg192 hap188
  have ho2 := OG.kept ho2 hg192 hap189
  have hbo := kb hg192 hbo (by omega)
  have hol := OG.kept hol hg192 hap124
  have hb := kb hg192 hb (by omega)
  clear hb125
  have hb125 : w190.heap[n110]? = some (.cells (entC (⟨d5, d6, d7, d8, []⟩ : Ent)).toArray 122 (0, 0)) := blk_eq hb191 (ent_s3 (⟨d5, d6, d7, zid, []⟩ : Ent) d8); clear hb191
  have hl194 := bl hb125
  refine oZ (tN (hK178 _ _ (sk fun K195 hK195 => (wt (oM rfl ?_)))))
  have hap196 := OG.off ho1 hb (by decide)
  have hap197 := OG.off ho2 hb (by decide)
  have hap198 := OG.off hol hb (by decide)
  refine oP rfl (Yp.callA1 wr59_pl137 T0 ?_)
  refine calls_either (textR_any _ r v b i8 hb (hr.keep hE0) hapr hle_i8 hl) ?_ ?_
  rotate_left
  ·
   rintro ch w201 ⟨hPx, rfl, hgx⟩
   refine thenF_panic (inBlockF_panic (thenF_panic (thenF_panic (inBlockF_panic (thenF_panic (postP_panic ?_))))))
   exact .inr ⟨_, rfl, by unfold decR; simp only [hN1, hN2, hP3, hP4, el_bad hP hlt hit (show entP b j0 = none by unfold entP; simp only [hP5, hP6, hP7, hP8, hPx, Option.bind_some, Option.bind_none]), Option.bind_some, Option.bind_none], rfl, row_fresh hE0 hgx lr⟩
  rintro v_ w203 ⟨d9, i9, hP9, rfl, hb199, hg200⟩
  have hE0 := row_fresh hE0 hg200 (Nat.le_trans (Nat.le_refl _) lr)
  have hb14 := kb hg200 hb14 (by omega)
  have ho1 := OG.kept ho1 hg200 hap196
  have ho2 := OG.kept ho2 hg200 hap197
  have hbo := kb hg200 hbo (by omega)
  have hol := OG.kept hol hg200 hap198
  have hb125 := kb hg200 hb125 (by omega)
  clear hb
  have hb := hb199; clear hb199
  have hle_i9 := (txtP_le hP9).1
  have hl204 := bl hb
  refine oS rfl (Yk.fieldAt wr59_fo122_1 (vr (PQ n110 0) rfl) ?_)
  have hap205 := OG.off ho1 hb125 (by decide)
  have hap206 := OG.off ho2 hb125 (by decide)
  refine oS rfl (Yk.storeC (i := 66) (v := St (d9)) (vr (PQ n110 66) rfl) (vr (St (d9)) rfl) hb125 (by rw [ent_len]; decide) wr59_isz9 rfl rfl fun w207 hb208 hg209 hs210 => ?_)
  have hE0 := row_fresh hE0 hg209 (Nat.le_trans hz118 (by omega))
  have hb14 := kb hg209 hb14 (by omega)
  have ho1 := OG.kept ho1 hg209 hap205
  have ho2 := OG.kept ho2 hg209 hap206
  have hbo := kb hg209 hbo (by omega)
  have hol := OG.kept hol hg209 hap124
  have hb := kb hg209 hb (by omega)
  clear hb125
  have hb125 : w207.heap[n110]? = some (.cells (entC (⟨d5, d6, d7, d8, d9⟩ : Ent)).toArray 122 (0, 0)) := blk_eq hb208 (ent_s4 (⟨d5, d6, d7, d8, []⟩ : Ent) d9); clear hb208
  have hl211 := bl hb125
  refine oZ (tN (hK195 _ _ (wt (oS rfl (Yk.fieldAt wr59_fo53_4 T3 (oS rfl (Yk.cell1 wr59_ty47 rfl (vr (PQ n17 35) rfl) (cellAt hbo (show (refsC ((⟨l1, l2, d3, d4, lo⟩, ⟨u1, u2, vl⟩) : RefsV))[35]? = some (vl : Value) from refs_g4 ((⟨l1, l2, d3, d4, lo⟩, ⟨u1, u2, vl⟩) : RefsV))) (oS rfl (Yk.loadAll (vr (PQ n110 0) rfl) hb125 (wr59_ty122).choose_spec rfl (st_isz (ent_len (⟨d5, d6, d7, d8, d9⟩ : Ent)) wr59_isz122) (oS rfl (Yk.lit1G (a := (⟨d5, d6, d7, d8, d9⟩ : Ent)) (enc := entC) (vr (.agg (entC (⟨d5, d6, d7, d8, d9⟩ : Ent)).toArray) rfl) (ent_len _) wr59_lg47 fun v212 w213 hr214 hx215 => ?_)))))))))))
  have hE0 := hE0.trans hx215
  have hb14 := eb hx215 hb14
  have ho1 := ho1.keep hx215
  have ho2 := ho2.keep hx215
  have hbo := eb hx215 hbo
  have hol := hol.keep hx215
  have hb := eb hx215 hb
  have hb125 := eb hx215 hb125
  have hap216 := OG.off hol hb14 (by decide)
  have hap217 := OG.apart hol ho1 (by decide)
  have hap218 := OG.apart hol ho2 (by decide)
  have hap219 := OG.off hol hbo (by decide)
  have hap220 := OG.off hol hb (by decide)
  have hap221 := OG.off hol hb14 (by decide)
  have hap222 := OG.apart hol ho1 (by decide)
  have hap223 := OG.apart hol ho2 (by decide)
  have hap224 := OG.off hol hbo (by decide)
  have hap225 := OG.off hol hb (by decide)
  refine oS rfl (Yk.appendRG _ _ w0.heap.size _ 104 wr59_ty47 wr59_ig122.choose_spec.1 wr59_ig122.choose_spec.2 wr59_ty47 (lo) ([(⟨d5, d6, d7, d8, d9⟩ : Ent)]) (OG.of hol (vr vl rfl)) (RG.of hr214 (vr v212 rfl)) (fun _ _ => ent_one) (by simp only [List.length_cons, List.length_nil]; omega) (by simp only [List.length_cons, List.length_nil]; omega) hE0.size fun v226 w227 ho228 hg229 => ?_)
  have hg229 : Grew w213 w227 vl v226 := hg229
  have hap230 : OB v226 r := apart_grew hg229 hap225 (bl hb)
  have hap231 : OB v226 n110 := apart_grew hg229 hap124 (bl hb125)
  have hap232 : OB v226 n2 := apart_grew hg229 hap221 (bl hb14)
  have hap233 : ApartV v226 u1 := apartv_grew hg229 hap222 ho1.2
  have hap234 : ApartV u1 v226 := fun k h1 h2 => hap233 k h2 h1
  have hap235 : ApartV v226 u2 := apartv_grew hg229 hap223 ho2.2
  have hap236 : ApartV u2 v226 := fun k h1 h2 => hap235 k h2 h1
  have hap237 : OB v226 n17 := apart_grew hg229 hap224 (bl hbo)
  have hE0 := ext_grew hE0 hg229 hol.2 (Nat.le_refl _)
  have hb14 := blk_grew hb14 hg229 hap221
  have ho1 := og_grew ho1 hg229 hap222
  have ho2 := og_grew ho2 hg229 hap223
  have hbo := blk_grew hbo hg229 hap224
  have hb := blk_grew hb hg229 hap225
  have hb125 := blk_grew hb125 hg229 hap124
  clear hr214
  clear hol
  refine oS rfl (Yk.fieldAt wr59_fo53_4 T3 ?_)
  have hap238 := OG.off ho1 hbo (by decide)
  have hap239 := OG.off ho2 hbo (by decide)
  have hap240 := OG.off ho228 hbo (by decide)
  refine oS rfl (Yk.storeC (i := 35) (v := v226) (vr (PQ n17 35) rfl) (vr v226 rfl) hbo (by rw [refs_len]; decide) wr59_isz47 (RG.one (RG.ofOwn ho228)).1 (RG.one (RG.ofOwn ho228)).2 fun w241 hb242 hg243 hs244 => ?_)
  have hE0 := row_fresh hE0 hg243 (Nat.le_trans hz28 (by omega))
  have hb14 := kb hg243 hb14 (by omega)
  have ho1 := OG.kept ho1 hg243 hap238
  have ho2 := OG.kept ho2 hg243 hap239
  have hb := kb hg243 hb (by omega)
  have hb125 := kb hg243 hb125 (by omega)
  have ho228 := OG.kept ho228 hg243 hap240
  clear hbo
  have hbo : w241.heap[n17]? = some (.cells (refsC ((⟨l1, l2, d3, d4, (lo) ++ [(⟨d5, d6, d7, d8, d9⟩ : Ent)]⟩, ⟨u1, u2, v226⟩) : RefsV)).toArray 53 (0, 0)) := blk_eq hb242 (refs_s4 ((⟨l1, l2, d3, d4, lo⟩, ⟨u1, u2, vl⟩) : RefsV) v226 ((lo) ++ [(⟨d5, d6, d7, d8, d9⟩ : Ent)])); clear hb242
  have hl245 := bl hbo
  refine oZ (bN (tN (hK108 _ _ (wt (oS rfl (Yk.bin (xv := NI k) (yv := NI 1) T19 rfl rfl (i64_add _ _ _ (by omega)) (oM rfl (oL_ [(0, PQ r 0), (2, PQ n2 0), (3, PQ n17 0), (4, PQ n110 0), (18, NI n), (19, NI ((k) + (1)))] ⟨T0, T2, T3, rfl, T18, rfl, trivial⟩ fun ρ246 ⟨T0, T2, T3, T4, T18, T19, _⟩ => (tN (And.intro ⟨k + 1, i9, lo ++ [⟨d5, d6, d7, d8, d9⟩], v226, T0, T2, T3, T18, T19, hE0, hb14, ho1, ho2, hb, hbo, ho228, by omega, hle_i9, el_step hit (show entP b j0 = some (⟨d5, d6, d7, d8, d9⟩, i9) by unfold entP; simp only [hP5, hP6, hP7, hP8, hP9, Option.bind_some]), trivial⟩ ?_))))))))))
  show n - (intOf (ρ246 19)).toNat < n - (intOf (ρ101 19)).toNat
  rw [T19, q19]
  simp only [intOf, Int.toNat_natCast]; omega
 have hkn : k = n := by omega
 have hN : elP b i4 = some (lo, j0) := (elP_some hP).trans (hkn ▸ hit)
 have hMl : RefsLt (⟨l1, l2, d3, d4, lo⟩ : Refs) := readR_lt hN1 hN2 hP3 hN
 by_cases hj : j0 = b.length
 ·refine wpF_exit (thenF_exit (thenF_exit (inBlockF_hit (tN (hK90 _ _ (sk fun K247 hK247 => ?_))))))
  refine wpF_draw_endE 14 _ [Is (PQ r 0), Is (PQ r 0), Is (PQ r 1), Is (NI j0), Is (PQ r 0), Is (PQ r 0), Is (PQ r 0), Is (v), Is (NI b.length), Is (.bool (true)), Is (.bool (true)), Is (.agg (refsC ((⟨l1, l2, d3, d4, lo⟩, ⟨u1, u2, vl⟩) : RefsV)).toArray), Is (.bool (rightF ((⟨l1, l2, d3, d4, lo⟩, ⟨u1, u2, vl⟩) : RefsV).1)), Is (.bool (rightF ((⟨l1, l2, d3, d4, lo⟩, ⟨u1, u2, vl⟩) : RefsV).1))] (by kernel_rfl) [47, 48, 49, 50, 51, 52, 53, 54, 55, 56, 57, 58, 59, 60, 61] (by kernel_rfl) (by kernel_rfl) (by kernel_rfl) rfl rfl rfl (fun _ _ => trivial) (si2 (si12 trivial)) ?hs1016 ?hQ1016
  case hs1016 =>
   refine ⟨?_, ?_, ?_, ?_, ?_, ?_, ?_, ?_, ?_, ?_, ?_, ?_, ?_, ?_, ?_, trivial⟩
   ·refine stepFL (stepN rfl fun σ w1 hC h => ?_)
    have e0 := (eqo (h 0 (by decide))).trans T0
    exact Yk.move e0 ⟨Ext.refl _, rfl⟩
   ·refine stepFL (stepN rfl fun σ w1 hC h => ?_)
    have e47 := eqo (h 47 (by decide))
    exact Yk.nilCheck e47 ⟨Ext.refl _, rfl⟩
   ·refine stepFL (stepN rfl fun σ w1 hC h => ?_)
    have e48 := eqo (h 48 (by decide))
    exact Yk.fieldAt wr59_fo150_1 e48 ⟨Ext.refl _, rfl⟩
   ·refine stepFL (stepN rfl fun σ w1 hC h => ?_)
    have e49 := eqo (h 49 (by decide))
    exact Yk.cell1 wr59_ty3 rfl e49 (cellAt (eb hC hb) (show (rdC (rdX v b (j0)))[1]? = some (NI j0 : Value) from rd_g1 (rdX v b (j0)))) ⟨Ext.refl _, rfl⟩
   ·refine stepFL (stepN rfl fun σ w1 hC h => ?_)
    have e0 := (eqo (h 0 (by decide))).trans T0
    exact Yk.move e0 ⟨Ext.refl _, rfl⟩
   ·refine stepFL (stepN rfl fun σ w1 hC h => ?_)
    have e51 := eqo (h 51 (by decide))
    exact Yk.nilCheck e51 ⟨Ext.refl _, rfl⟩
   ·refine stepFL (stepN rfl fun σ w1 hC h => ?_)
    have e52 := eqo (h 52 (by decide))
    exact Yk.fieldAt wr59_fo150_0 e52 ⟨Ext.refl _, rfl⟩
   ·refine stepFL (stepN rfl fun σ w1 hC h => ?_)
    have e53 := eqo (h 53 (by decide))
    exact Yk.cell1 wr59_ty26 rfl e53 (cellAt (eb hC hb) (show (rdC (rdX v b (j0)))[0]? = some (v : Value) from rd_g0 (rdX v b (j0)))) ⟨Ext.refl _, rfl⟩
   ·refine stepFL (stepN rfl fun σ w1 hC h => ?_)
    have e54 := eqo (h 54 (by decide))
    exact Yk.lenRB wr59_ty26 (RB.of (hr.keep (hE0.trans hC)) e54) ⟨Ext.refl _, rfl⟩
   ·refine stepFL (stepN rfl fun σ w1 hC h => ?_)
    have e50 := eqo (h 50 (by decide))
    have e55 := eqo (h 55 (by decide))
    exact Yk.eqI (a := (j0 : Nat)) (b := (b.length : Nat)) e50 e55 (k_eql _ _ _ _) ⟨Ext.refl _, (congrArg Value.bool (decide_eq_true (hj)))⟩
   ·refine stepFL (stepN rfl fun σ w1 hC h => ?_)
    have e56 := eqo (h 56 (by decide))
    exact Yk.move e56 ⟨Ext.refl _, rfl⟩
   ·refine stepFL (stepY 10 true 57 rfl rfl (fun _ _ h => h) fun σ w1 hC h => ?_)
    have e3 := (eqo (h 3 (by decide))).trans T3
    exact Yk.loadAll e3 (eb hC hbo) (wr59_ty53).choose_spec rfl (st_isz (refs_len ((⟨l1, l2, d3, d4, lo⟩, ⟨u1, u2, vl⟩) : RefsV)) wr59_isz53) ⟨Ext.refl _, rfl⟩
   ·refine stepFL (stepY 10 true 57 rfl rfl (fun _ _ h => h) fun σ w1 hC h => ?_)
    have e58 := eqo (h 58 (by decide))
    refine Yk.callA1 wr59_pl31 e58 ((fright_any _ ((⟨l1, l2, d3, d4, lo⟩, ⟨u1, u2, vl⟩) : RefsV) ⟨RG.ofOwn (ho1.keep hC), RG.ofOwn (ho2.keep hC), RG.ofOwn (hol.keep hC)⟩ hMl).mono ?_)
    rintro e w2 ⟨rfl, hx⟩
    exact ⟨_, rfl, hx, rfl⟩
   ·refine stepFL (stepN rfl fun σ w1 hC h => ?_)
    have e57 := eqo (h 57 (by decide))
    have e59 := eqo (h 59 (by decide))
    exact Yk.pickT e57 e59 ⟨Ext.refl _, rfl⟩
   ·exact trivial
  intro ρ248 w249 hx250 he hf
  obtain ⟨-, -, -, -, -, -, -, -, -, -, -, -, -, k60, -⟩ := hf
  obtain ⟨T0, T2, T3, T18, T19, -⟩ := he.hold [(0, _), (2, _), (3, _), (18, _), (19, _)] ⟨T0, T2, T3, T18, T19, trivial⟩ rfl
  clear he
  have hE0 := hE0.trans hx250
  have hb14 := eb hx250 hb14
  have ho1 := ho1.keep hx250
  have ho2 := ho2.keep hx250
  have hb := eb hx250 hb
  have hbo := eb hx250 hbo
  have hol := hol.keep hx250
  have T60 : ρ248 60 = .bool (rightF ((⟨l1, l2, d3, d4, lo⟩, ⟨u1, u2, vl⟩) : RefsV).1) := k60
  clear k60
  refine Yp.callA1 wr59_pl141 T60 ?_
  refine calls_either (needR_any _ (rightF ((⟨l1, l2, d3, d4, lo⟩, ⟨u1, u2, vl⟩) : RefsV).1)) ?_ ?_
  rotate_left
  ·
   rintro ch w253 ⟨rfl, hb, hx⟩
   refine thenF_panic (postP_panic ?_)
   exact .inr ⟨_, rfl, by unfold decR; simp only [hN1, hN2, hP3, hP4, hN, Option.bind_some]; exact if_neg fun h => Bool.noConfusion (h.2.symm.trans hb), rfl, hE0.trans hx⟩
  rintro v_ w254 ⟨rfl, hb251, hx252⟩
  have hE0 := hE0.trans hx252
  have hb14 := eb hx252 hb14
  have ho1 := ho1.keep hx252
  have ho2 := ho2.keep hx252
  have hb := eb hx252 hb
  have hbo := eb hx252 hbo
  have hol := hol.keep hx252
  intro ρ255 hu256
  have T0 : ρ255 0 = (PQ r 0 : Value) := (hu256 0 (by decide)).trans T0
  have T2 : ρ255 2 = (PQ n2 0 : Value) := (hu256 2 (by decide)).trans T2
  have T3 : ρ255 3 = (PQ n17 0 : Value) := (hu256 3 (by decide)).trans T3
  have T18 : ρ255 18 = (NI n : Value) := (hu256 18 (by decide)).trans T18
  have T19 : ρ255 19 = (NI k : Value) := (hu256 19 (by decide)).trans T19
  refine tN (hK247 _ _ (sk fun K257 hK257 => (wt (oS rfl (Yk.loadAll T3 hbo (wr59_ty53).choose_spec rfl (st_isz (refs_len ((⟨l1, l2, d3, d4, lo⟩, ⟨u1, u2, vl⟩) : RefsV)) wr59_isz53) ?_)))))
  have hap258 := OG.off ho1 hb14 (by decide)
  have hap259 := OG.off ho2 hb14 (by decide)
  have hap260 := OG.off hol hb14 (by decide)
  refine oS rfl (Yk.storeAll T2 (vr (.agg (refsC ((⟨l1, l2, d3, d4, lo⟩, ⟨u1, u2, vl⟩) : RefsV)).toArray) rfl) hb14 (by simp only [List.size_toArray, refs_len]) (st_isz (refs_len _) wr59_isz53) (refs_one (x := ((⟨l1, l2, d3, d4, lo⟩, ⟨u1, u2, vl⟩) : RefsV)) (RG.one (RG.ofOwn ho1)).2 (RG.one (RG.ofOwn ho2)).2 (RG.one (RG.ofOwn hol)).2) fun w261 hb262 hg263 hs264 => ?_)
  have hE0 := row_fresh hE0 hg263 (Nat.le_trans hz12 (by omega))
  have ho1 := OG.kept ho1 hg263 hap258
  have ho2 := OG.kept ho2 hg263 hap259
  have hb := kb hg263 hb (by omega)
  have hbo := kb hg263 hbo (by omega)
  have hol := OG.kept hol hg263 hap260
  clear hb14
  have hb14 : w261.heap[n2]? = some (.cells (refsC ((⟨l1, l2, d3, d4, lo⟩, ⟨u1, u2, vl⟩) : RefsV)).toArray 53 (0, 0)) := hb262; clear hb262
  have hl265 := bl hb14
  refine oZ (tN (hK257 _ _ (wpF_ret (postP_ret (fn := Tryd.f98) _ rfl [.agg (refsC ((⟨l1, l2, d3, d4, lo⟩, ⟨u1, u2, vl⟩) : RefsV)).toArray] (.agg (refsC ((⟨l1, l2, d3, d4, lo⟩, ⟨u1, u2, vl⟩) : RefsV)).toArray) rfl ⟨ResF.row T2 hb14 (wr59_ty53).choose_spec rfl (st_isz (refs_len _) wr59_isz53), trivial⟩ ?_))))
  exact .inl ⟨_, rfl, ((⟨l1, l2, d3, d4, lo⟩, ⟨u1, u2, vl⟩) : RefsV), by unfold decR; simp only [hN1, hN2, hP3, hP4, hN, Option.bind_some]; exact if_pos ⟨hj, hb251⟩, rfl, ⟨ho1, ho2, hol⟩, hE0⟩
 refine wpF_exit (thenF_exit (thenF_exit (inBlockF_hit (tN (hK90 _ _ (sk fun K266 hK266 => ?_))))))
 refine wpF_draw_endE 14 _ [Is (PQ r 0), Is (PQ r 0), Is (PQ r 1), Is (NI j0), Is (PQ r 0), Is (PQ r 0), Is (PQ r 0), Is (v), Is (NI b.length), Is (.bool (false)), Is (.bool (false)), Is undef, Is undef, Is (.bool (false))] (by kernel_rfl) [47, 48, 49, 50, 51, 52, 53, 54, 55, 56, 57, 58, 59, 60, 61] (by kernel_rfl) (by kernel_rfl) (by kernel_rfl) rfl rfl rfl (fun _ _ => trivial) (si2 (si12 trivial)) ?hs2016 ?hQ2016
 case hs2016 =>
  refine ⟨?_, ?_, ?_, ?_, ?_, ?_, ?_, ?_, ?_, ?_, ?_, ?_, ?_, ?_, ?_, trivial⟩
  ·refine stepFL (stepN rfl fun σ w1 hC h => ?_)
   have e0 := (eqo (h 0 (by decide))).trans T0
   exact Yk.move e0 ⟨Ext.refl _, rfl⟩
  ·refine stepFL (stepN rfl fun σ w1 hC h => ?_)
   have e47 := eqo (h 47 (by decide))
   exact Yk.nilCheck e47 ⟨Ext.refl _, rfl⟩
  ·refine stepFL (stepN rfl fun σ w1 hC h => ?_)
   have e48 := eqo (h 48 (by decide))
   exact Yk.fieldAt wr59_fo150_1 e48 ⟨Ext.refl _, rfl⟩
  ·refine stepFL (stepN rfl fun σ w1 hC h => ?_)
   have e49 := eqo (h 49 (by decide))
   exact Yk.cell1 wr59_ty3 rfl e49 (cellAt (eb hC hb) (show (rdC (rdX v b (j0)))[1]? = some (NI j0 : Value) from rd_g1 (rdX v b (j0)))) ⟨Ext.refl _, rfl⟩
  ·refine stepFL (stepN rfl fun σ w1 hC h => ?_)
   have e0 := (eqo (h 0 (by decide))).trans T0
   exact Yk.move e0 ⟨Ext.refl _, rfl⟩
  ·refine stepFL (stepN rfl fun σ w1 hC h => ?_)
   have e51 := eqo (h 51 (by decide))
   exact Yk.nilCheck e51 ⟨Ext.refl _, rfl⟩
  ·refine stepFL (stepN rfl fun σ w1 hC h => ?_)
   have e52 := eqo (h 52 (by decide))
   exact Yk.fieldAt wr59_fo150_0 e52 ⟨Ext.refl _, rfl⟩
  ·refine stepFL (stepN rfl fun σ w1 hC h => ?_)
   have e53 := eqo (h 53 (by decide))
   exact Yk.cell1 wr59_ty26 rfl e53 (cellAt (eb hC hb) (show (rdC (rdX v b (j0)))[0]? = some (v : Value) from rd_g0 (rdX v b (j0)))) ⟨Ext.refl _, rfl⟩
  ·refine stepFL (stepN rfl fun σ w1 hC h => ?_)
   have e54 := eqo (h 54 (by decide))
   exact Yk.lenRB wr59_ty26 (RB.of (hr.keep (hE0.trans hC)) e54) ⟨Ext.refl _, rfl⟩
  ·refine stepFL (stepN rfl fun σ w1 hC h => ?_)
   have e50 := eqo (h 50 (by decide))
   have e55 := eqo (h 55 (by decide))
   exact Yk.eqI (a := (j0 : Nat)) (b := (b.length : Nat)) e50 e55 (k_eql _ _ _ _) ⟨Ext.refl _, (congrArg Value.bool (decide_eq_false (hj)))⟩
  ·refine stepFL (stepN rfl fun σ w1 hC h => ?_)
   have e56 := eqo (h 56 (by decide))
   exact Yk.move e56 ⟨Ext.refl _, rfl⟩
  ·refine stepFL (stepX 10 true 57 rfl rfl (fun x _ (h : x = .bool false) => by rw [h]; intro h; cases h) fun _ => rfl)
  ·refine stepFL (stepX 10 true 57 rfl rfl (fun x _ (h : x = .bool false) => by rw [h]; intro h; cases h) fun _ => rfl)
  ·refine stepFL (stepN rfl fun σ w1 hC h => ?_)
   have e57 := eqo (h 57 (by decide))
   exact Yk.pickF e57 (vr (.bool (false)) rfl) ⟨Ext.refl _, rfl⟩
  ·exact trivial
 intro ρ267 w268 hx269 he hf
 obtain ⟨-, -, -, -, -, -, -, -, -, -, -, -, -, k60, -⟩ := hf
 obtain ⟨T0, T2, T3, T18, T19, -⟩ := he.hold [(0, _), (2, _), (3, _), (18, _), (19, _)] ⟨T0, T2, T3, T18, T19, trivial⟩ rfl
 clear he
 have hE0 := hE0.trans hx269
 have hb14 := eb hx269 hb14
 have ho1 := ho1.keep hx269
 have ho2 := ho2.keep hx269
 have hb := eb hx269 hb
 have hbo := eb hx269 hbo
 have hol := hol.keep hx269
 have T60 : ρ267 60 = .bool (false) := k60
 clear k60
 refine Yp.callA1 wr59_pl141 T60 ?_
 refine calls_either (needR_any _ (false)) ?_ ?_
 rotate_left
 ·
  rintro ch w272 ⟨rfl, hb, hx⟩
  refine thenF_panic (postP_panic ?_)
  exact .inr ⟨_, rfl, by unfold decR; simp only [hN1, hN2, hP3, hP4, hN, Option.bind_some]; exact if_neg fun h => hj h.1, rfl, hE0.trans hx⟩
 rintro v_ w273 ⟨rfl, hb270, hx271⟩
 cases hb270
open Go.RowKit
structure FitsD (n : Nat) (D : List Deferred) (ρ : Slots) (a : Act) : Prop where
  size : a.tmps.size = n
  defers : a.defers = D
  get : ∀ t, a.tmps.getD t undef = ρ t
theorem FitsD.fits {n : Nat} {D : List Deferred} {ρ : Slots} {a : Act} (h : FitsD n D ρ a) : Fits n ρ { a with defers := [] } := ⟨h.size, rfl, h.get⟩
theorem FitsD.ofFits {n : Nat} {ρ : Slots} {a : Act} (h : Fits n ρ a) : FitsD n [] ρ a := ⟨h.size, h.defers, h.get⟩
theorem FitsD.toFits {n : Nat} {ρ : Slots} {a : Act} (h : FitsD n [] ρ a) : Fits n ρ a := ⟨h.size, h.defers, h.get⟩
theorem FitsD.eval {n : Nat} {D : List Deferred} {ρ : Slots} {a : Act} (h : FitsD n D ρ a) : a.eval = evalR ρ := by
  funext x
  cases x with
  | tmp t => exact h.get t
  | _ => rfl
theorem FitsD.put {n : Nat} {D : List Deferred} {ρ : Slots} {a : Act} (h : FitsD n D ρ a) (d : Option Tmp) (hd : ∀ t, d = some t → t < n) (v : Value) : FitsD n D (updO ρ d v) (a.put d v) := by
  have hf := h.fits.put d hd v
  cases d with
  | none => exact h
  | some d => exact ⟨hf.size, h.defers, hf.get⟩
def wpR (P : Program) (n : Nat) (D : List Deferred) (c : Code) (QQ : Exit → Act → World → Prop) (ρ : Slots) (w : World) : Prop := ∀ a, FitsD n D ρ a → c.wp P QQ a w
def opsR (P : Program) (ops : Array Oper) (n : Nat) (D : List Deferred) (QQ : Exit → Act → World → Prop) (l : List Oper) (ρ : Slots) (w : World) : Prop := ∀ a, FitsD n D ρ a → wpList P ops QQ l a w
section
variable {P : Program} {n : Nat} {D : List Deferred} {QQ : Exit → Act → World → Prop} {ρ : Slots} {w : World}
theorem wpR_seq_k {x y : Code} (QR : PostF) (hq : ∀ e ρ a w, e ≠ .normal → Fits n ρ a → QR e ρ w → QQ e a w) (h : ∀ K : Slots → World → Prop, (∀ ρ w, wpR P n [] y QQ ρ w → K ρ w) → wpF P n x (thenF K QR) ρ w) : wpR P n [] (.seq x y) QQ ρ w := fun a ha =>
  wp_seq (wp_mono (h (fun ρ w => wpR P n [] y QQ ρ w) (fun _ _ h => h) a ha.toFits) fun e a' w' ⟨ρ', hf, hQ⟩ => by
    cases e with
    | normal => exact hQ a' (FitsD.ofFits hf)
    | exit _ => exact hq _ ρ' a' w' (by simp) hf hQ
    | goto _ => exact hq _ ρ' a' w' (by simp) hf hQ
    | ret => exact hq _ ρ' a' w' (by simp) hf hQ
    | panic _ => exact hq _ ρ' a' w' (by simp) hf hQ
    | outgrown => exact hq _ ρ' a' w' (by simp) hf hQ)
theorem wpR_seq_text {id : Nat} {l : List Oper} {y : Code} (h : opsR P l.toArray n D (Exit.then (y.wp P QQ) QQ) l ρ w) : wpR P n D (.seq (.region id l.toArray false) y) QQ ρ w := fun a ha => wp_seq (wp_region_lit (h a ha))
theorem wpR_ret (h : ∀ a, FitsD n D ρ a → QQ .ret a w) : wpR P n D .ret QQ ρ w := fun a ha => wp_ret (h a ha)
theorem opsR_end {ops : Array Oper} {y : Code} (I : Slots → Prop) (hI : I ρ) (h : ∀ ρ', I ρ' → wpR P n D y QQ ρ' w) : opsR P ops n D (Exit.then (y.wp P QQ) QQ) [] ρ w := fun a ha => h ρ hI a ha
theorem opsR_stepP {ops : Array Oper} {rest : List Oper} {dst : Option Tmp} {op : Op} {ty : TypeId} {pos : String} {af : Array Edge} (hd : (match dst with | some d => Nat.blt d n | none => true) = true)
    (h : Yp P (fun v w' => opsR P ops n D QQ rest (updO ρ dst v) w') (fun ch w' => ∀ a, FitsD n D ρ a → QQ (.panic ch) a w') ((execOp (evalR ρ) ⟨dst, op, ty, pos, af, none⟩).run P w)) : opsR P ops n D QQ (⟨dst, op, ty, pos, af, none⟩ :: rest) ρ w := by
  intro a ha
  have hdn : ∀ t, dst = some t → t < n := fun t ht => by subst ht; exact Nat.le_of_ble_eq_true hd
  refine wpList_plain rfl fun K hK => ?_
  unfold Oper.wp Oper.upon
  rw [ha.eval]
  have hput := fun v => ha.put dst hdn v
  revert h
  generalize (execOp (evalR ρ) ⟨dst, op, ty, pos, af, none⟩).run P w = r
  intro h
  match r, h with
  | .ok (.value v) w', h => exact hK _ _ (h _ (hput v))
  | .ok .skip w', h => exact hK _ _ (h _ (hput undef))
  | .halt (.panic v) w', h => exact h a ha
  | .ok (.enter f args) w', h =>
    refine Calls.mono h ?_
    intro e w'' hx
    match e, hx with
    | .returned v, hx => exact hK _ _ (hx _ (hput v))
    | .panicked ch, hx => exact hx a ha
theorem opsR_step {ops : Array Oper} {rest : List Oper} {dst : Option Tmp} {op : Op} {ty : TypeId} {pos : String} {af : Array Edge} (hd : (match dst with | some d => Nat.blt d n | none => true) = true)
    (h : Yk P (fun v w' => opsR P ops n D QQ rest (updO ρ dst v) w') ((execOp (evalR ρ) ⟨dst, op, ty, pos, af, none⟩).run P w)) : opsR P ops n D QQ (⟨dst, op, ty, pos, af, none⟩ :: rest) ρ w :=
  opsR_stepP hd (Yp.ofK h)
theorem opsR_defer {ops : Array Oper} {rest : List Oper} {x : Operand} {ty : TypeId} {pos : String} {af : Array Edge} {fv : Fn} {first cap : Array Value} (hx : evalR ρ x = .func fv first cap)
    (hr : (execOp (evalR ρ) ⟨none, .defer ⟨.value x, #[], #[]⟩, ty, pos, af, none⟩).run P w = .ok (.defer ⟨.fn fv cap, first⟩) w)
    (h : opsR P ops n (⟨.fn fv cap, first⟩ :: D) QQ rest ρ w) : opsR P ops n D QQ (⟨none, .defer ⟨.value x, #[], #[]⟩, ty, pos, af, none⟩ :: rest) ρ w := by
  intro a ha
  refine wpList_plain rfl fun K hK => ?_
  unfold Oper.wp Oper.upon
  rw [ha.eval, hr]
  refine hK _ _ (h _ ⟨ha.size, ?_, ha.get⟩)
  show _ :: a.defers = _
  rw [ha.defers]
theorem postP_bodyD {fn : Func} {R : Ending → World → Prop} : ∀ e ρ a w, e ≠ .normal → Fits n ρ a → postP P fn R e ρ w → bodyPostD P fn R e a w := fun e ρ a w he ha h => by
  cases e with
  | normal => exact absurd rfl he
  | ret =>
    show Leaves P fn a.tmps R a.defers .returning w
    rw [ha.defers]
    exact h a.tmps ha.get
  | panic ch =>
    show Leaves P fn a.tmps R a.defers (.panicking ch) w
    rw [ha.defers]
    exact h
  | exit _ => exact h.elim
  | goto _ => exact h.elim
  | outgrown => exact h.elim
theorem calls_of_wpR {f : FuncId} {fn : Func} {c : Code} {args : List Value} {R : Ending → World → Prop} (hf : P.funcs[f]? = some fn) (hb : fn.body = some c) (m : Nat) (hm : fn.ntmps = m) (hn : args.length ≤ m)
    (h : ∀ ρ, Begun args ρ → wpR P m [] c (bodyPostD P fn R) ρ w) : Calls P f args.toArray w R := by
  subst hm
  refine calls_of_wp_defers hf hb ?_
  have hget : ∀ t, (args.toArray ++ Array.replicate (fn.ntmps - args.toArray.size) undef).getD t undef = args.getD t undef := fun t => by
    simp only [Array.getD_eq_getD_getElem?, List.getD_eq_getElem?_getD, Array.getElem?_append, List.size_toArray, List.getElem?_toArray]
    by_cases ht : t < args.length
    · rw [if_pos ht]
    · rw [if_neg ht, List.getElem?_eq_none (by omega), Array.getElem?_replicate]
      split <;> rfl
  refine h (fun t => args.getD t undef) ⟨fun _ => rfl⟩ _ ⟨?_, rfl, hget⟩
  simp
  omega
end
open Go.RowKit
section
variable {P : Program} {n : Nat}
theorem wp_of_wpF {c : Code} {QF : PostF} {Q : Exit → Act → World → Prop} {ρ : Slots} {a : Act} {w : World} (h : wpF P n c QF ρ w) (ha : Fits n ρ a) (hq : ∀ e ρ' a' w', Fits n ρ' a' → QF e ρ' w' → Q e a' w') : c.wp P Q a w :=
  wp_mono (h a ha) fun e a' w' ⟨ρ', hf, hQ⟩ => hq e ρ' a' w' hf hQ
def askD : FrameMode → Value × FrameMode
  | .panicking ({ v, recovered := false, goexit := false } :: older) => (v, .panicking ({ v, recovered := true } :: older))
  | u => (.nilIface, u)
theorem recover_ask (c₀ : Frame) (cs : List Frame) (u : FrameMode) (hu : c₀.mode = u) (K : Value → List Frame → Prop) (h : K (askD u).1 ({ c₀ with mode := (askD u).2 } :: cs)) :
    match recoverD (c₀ :: cs) with
    | some (v, cs') => K v cs'
    | none => K .nilIface (c₀ :: cs) := by
  subst hu
  obtain ⟨cf, ct, ctodo, cd, cm, ck, cr⟩ := c₀
  match cm, h with
  | .run, h => exact h
  | .returning, h => exact h
  | .panicking [], h => exact h
  | .panicking ({ v, recovered := true, goexit := g } :: older), h => exact h
  | .panicking ({ v, recovered := false, goexit := true } :: older), h => exact h
  | .panicking ({ v, recovered := false, goexit := false } :: older), h => exact h
theorem callsD_of_rest {f : FuncId} {fn : Func} {c : Code} {args : List Value} {u : FrameMode} {w : World} {R : Ending → World → Prop} {id : Nat} {d0 d1 : Tmp} {ty0 ty1 : TypeId} {p0 p1 : String} {af0 af1 : Array Edge}
    (hf : P.funcs[f]? = some fn) (hb : fn.body = some (.seq (.region id #[⟨some d0, .call ⟨.builtin .recover, #[], #[]⟩, ty0, p0, af0, none⟩, ⟨some d1, .assign (.tmp d0), ty1, p1, af1, none⟩] false) c)) (m : Nat) (hm : fn.ntmps = m) (hn : args.length ≤ m) (h0 : Nat.blt d0 m = true) (h1 : Nat.blt d1 m = true)
    (h : ∀ ρ0, Begun args ρ0 → wpF P m c (postP P fn R) (updO (updO ρ0 (some d0) (askD u).1) (some d1) (askD u).1) w) :
    CallsD P f args.toArray u w fun e u' w' => u' = (askD u).2 ∧ R e w' := by
  subst hm
  refine callsD_of_wpS hf hb fun c₀ cs hu => ?_
  have hget : ∀ t, (args.toArray ++ Array.replicate (fn.ntmps - args.toArray.size) undef).getD t undef = args.getD t undef := fun t => by
    simp only [Array.getD_eq_getD_getElem?, List.getD_eq_getElem?_getD, Array.getElem?_append, List.size_toArray, List.getElem?_toArray]
    by_cases ht : t < args.length
    · rw [if_pos ht]
    · rw [if_neg ht, List.getElem?_eq_none (by omega), Array.getElem?_replicate]
      split <;> rfl
  have hF : Fits fn.ntmps (fun t => args.getD t undef) { tmps := args.toArray ++ Array.replicate (fn.ntmps - args.toArray.size) undef, defers := [] } := ⟨by simp; omega, rfl, hget⟩
  generalize ({ tmps := args.toArray ++ Array.replicate (fn.ntmps - args.toArray.size) undef, defers := [] } : Act) = a at hF ⊢
  have hd0 : ∀ t, some d0 = some t → t < fn.ntmps := fun t ht => by cases ht; exact Nat.le_of_ble_eq_true h0
  have hd1 : ∀ t, some d1 = some t → t < fn.ntmps := fun t ht => by cases ht; exact Nat.le_of_ble_eq_true h1
  have hF1 := hF.put (some d0) hd0 (askD u).1
  have hF2 := hF1.put (some d1) hd1 (askD u).1
  apply wpS_seq
  apply wpS_region
  have hr0 : (execOp a.eval (⟨some d0, .call ⟨.builtin .recover, #[], #[]⟩, ty0, p0, af0, none⟩ : Oper)).run P w = .ok .recover w := by
    simp [go_sem]
  have hkey : ∀ (v : Value) (cs' : List Frame), v = (askD u).1 → cs' = { c₀ with mode := (askD u).2 } :: cs → wpOpsS P #[⟨some d0, .call ⟨.builtin .recover, #[], #[]⟩, ty0, p0, af0, none⟩, ⟨some d1, .assign (.tmp d0), ty1, p1, af1, none⟩] (Exit.thenS (c.wpS P (bodyPostS P fn c₀ cs fun e u' w' => u' = (askD u).2 ∧ R e w')) (bodyPostS P fn c₀ cs fun e u' w' => u' = (askD u).2 ∧ R e w')) [1] (a.put (some d0) v) cs' w := by
    rintro v cs' rfl rfl
    have hv : (a.put (some d0) (askD u).1).eval (.tmp d0) = (askD u).1 := by
      rw [hF1.eval]
      show (bif Nat.beq d0 d0 then _ else _) = _
      rw [Nat.beq_refl]
      rfl
    have hr1 : (execOp (a.put (some d0) (askD u).1).eval (⟨some d1, .assign (.tmp d0), ty1, p1, af1, none⟩ : Oper)).run P w = .ok (.value (askD u).1) w := by
      simp [execOp, hv]
    simp only [wpOpsS, List.getElem?_toArray, List.getElem?_cons_succ, List.getElem?_cons_zero, Region.wanted, hr1, Oper.upon, if_true]
    refine wpS_of_wp (wp_of_wpF (h _ ⟨fun _ => rfl⟩) hF2 fun e ρ' a' w' hf' hQ => ?_)
    cases e with
    | normal => obtain ⟨v, hv, hR⟩ := hQ a'.tmps hf'.get; exact ⟨hf'.defers, _, rfl, v, hv, rfl, hR⟩
    | ret => obtain ⟨v, hv, hR⟩ := hQ a'.tmps hf'.get; exact ⟨hf'.defers, _, rfl, v, hv, rfl, hR⟩
    | panic ch => exact ⟨hf'.defers, _, rfl, rfl, hQ⟩
    | exit _ => exact hQ.elim
    | goto _ => exact hQ.elim
    | outgrown => exact hQ.elim
  show wpOpsS P _ _ [0, 1] a (c₀ :: cs) w
  unfold wpOpsS
  simp only [List.getElem?_toArray, List.getElem?_cons_zero, Region.wanted, if_true, hr0]
  exact recover_ask c₀ cs u hu (fun v cs' => wpOpsS P _ _ [1] (a.put (some d0) v) cs' w) (hkey _ _ rfl rfl)
end
open Go.RowKit
section
variable {P : Program} {K : Value → World → Prop} {ρ : Slots} {w : World} {d : Option Tmp} {ty : TypeId} {pos : String} {af : Array Edge} {gd : Option (Nat × Bool)} {t ty2 : TypeId}
theorem Yk.assertOk {x : Operand} {u : TypeId} {v : Value} {fs} (hu : P.underlying u = some (.struct fs)) (hx : evalR ρ x = .iface u v) (hk : K (.tuple #[v, .bool true]) w) : Yk P K ((execOp (evalR ρ) ⟨d, .typeAssert x t u true, ty, pos, af, gd⟩).run P w) := by
  refine Yk.value (v := .tuple #[v, .bool true]) (w' := w) ?_ hk
  unfold execOp
  simp [Instr.typeAssert, hx, run_underlying hu, Result.andThen]
theorem Yk.neqNilN {x : Operand} (he : (Op.equal t .nilIface .nilIface).run P w = .ok true w) (hx : evalR ρ x = .nilIface) (hk : K (.bool false) w) : Yk P K ((execOp (evalR ρ) ⟨d, .binOp .neq t x (.const .nilIface) ty2, ty, pos, af, gd⟩).run P w) := by
  have hy : evalR ρ (.const .nilIface) = .nilIface := rfl
  refine Yk.value (v := .bool false) (w' := w) ?_ hk
  unfold execOp
  simp only [hx, hy]
  simp [eqGuard, Go.binOp, he, Result.andThen]
theorem Yk.neqNilS {x : Operand} {u : TypeId} {v : Value} (he : (Op.equal t (.iface u v) .nilIface).run P w = .ok false w) (hx : evalR ρ x = .iface u v) (hk : K (.bool true) w) : Yk P K ((execOp (evalR ρ) ⟨d, .binOp .neq t x (.const .nilIface) ty2, ty, pos, af, gd⟩).run P w) := by
  have hy : evalR ρ (.const .nilIface) = .nilIface := rfl
  refine Yk.value (v := .bool true) (w' := w) ?_ hk
  unfold execOp
  simp only [hx, hy]
  simp [eqGuard, Go.binOp, he, Result.andThen]
theorem deferOk {x : Operand} {fv : Fn} {first cap : Array Value} (hx : evalR ρ x = .func fv first cap) : (execOp (evalR ρ) ⟨none, .defer ⟨.value x, #[], #[]⟩, ty, pos, af, none⟩).run P w = .ok (.defer ⟨.fn fv cap, first⟩) w := by
  unfold execOp
  simp [resolve, hx, Deferred.ofValue]
theorem ResF.cell1 {p : Tmp} {ty : TypeId} {g : Nat} {t : TypeId} {v : Value} {fr : Nat × Nat} {d : TypeDesc} (hp : ρ p = .pointer (some ⟨g, 0, none⟩)) (hg : w.heap[g]? = some (.cells ([v]).toArray t fr))
    (hu : P.underlying ty = some d) (hd : (match d with | .struct _ | .array _ _ => false | _ => true) = true) : ResF P ρ w (.cell p ty) v := by
  refine ⟨_, hp, ?_⟩
  have hc : w.cell? ⟨g, 0, none⟩ = some v := cellAt hg rfl
  have hagg : (isAgg ty).run P w = .ok false w := by
    unfold isAgg
    cases d <;> first | (simp at hd; done) | simp [run_underlying hu, Result.andThen]
  simp [loadVar, hagg, hc]
theorem leaves_nil {fn : Func} {tmps : Array Value} {R : Ending → World → Prop} (rs : List ResultVar) (hrs : fn.results = rs.toArray) (vs : List Value) (v : Value) (hv : tupled vs = v) (ht : ∀ t, tmps.getD t undef = ρ t) (h : ResAll P ρ w rs vs) (hR : R (.returned v) w) : Leaves P fn tmps R [] .returning w :=
  ⟨_, results_fn hrs ht h, by rw [hv]; exact hR⟩
end
open Go.RowKit
set_option maxRecDepth 100000
theorem anyNilR (w : World) : (Op.equal 20 .nilIface .nilIface).run Tryd.prog w = .ok true w := by kernel_rfl
theorem anyNilRX (u : TypeId) (v : Value) (w : World) : (Op.equal 20 (.iface u v) .nilIface).run Tryd.prog w = .ok false w := by kernel_rfl
theorem wr60_ty146 : ∃ fs, Tryd.prog.underlying 146 = some (.struct fs) := struct_of (by kernel_rfl)
theorem wr60_al146 {d : Option Tmp} {ty : TypeId} {pos : String} {af : Array Edge} {gd : Option (Nat × Bool)} (σ : Operand → Value) (w : World) : (execOp σ ⟨d, .alloc 146, ty, pos, af, gd⟩).run Tryd.prog w = .ok (.value (PQ w.heap.size 0)) (w.alloc (.cells (([] : List Value)).toArray 146)) := by kernel_rfl
theorem wr60_isz53 : (Tryd.prog.info? 53).map (·.size) = some 36 := by kernel_rfl
theorem wr60_isz27 : (Tryd.prog.info? 27).map (·.size) = some 1 := by kernel_rfl
theorem decodeR1_idle (b2 b3 : Nat) (w : World) : CallsD Tryd.prog 97 #[PQ b2 0, PQ b3 0] (.returning) w fun e u' w' => u' = (askD (.returning)).2 ∧ (e = .returned (.tuple #[]) ∧ Ext w w') := by
 have hE := Ext.refl w
 refine callsD_of_rest (u := .returning) (args := [PQ b2 0, PQ b3 0]) Tryd.func97 rfl 17 rfl (Nat.le_of_ble_eq_true rfl) rfl rfl (R := fun e w' => e = .returned (.tuple #[]) ∧ Ext w w') ?_
 intro ρz hb
 have T0 : (updO (updO ρz (some 5) (askD (.returning)).1) (some 2) (askD (.returning)).1) 0 = (PQ b2 0 : Value) := hb.get 0
 have T1 : (updO (updO ρz (some 5) (askD (.returning)).1) (some 2) (askD (.returning)).1) 1 = (PQ b3 0 : Value) := hb.get 1
 have T2 : (updO (updO ρz (some 5) (askD (.returning)).1) (some 2) (askD (.returning)).1) 2 = (.nilIface : Value) := rfl
 generalize updO (updO ρz (some 5) (askD (.returning)).1) (some 2) (askD (.returning)).1 = ρ0 at T0 T1 T2 ⊢
 clear hb
 refine sk fun K1 hK1 => (wt (oM rfl (oS rfl (Yk.neqNilN (anyNilR _) T2 (oZ (tN (hK1 _ _ (wpF_false (vr (.bool (false)) rfl) (wpF_skip (postP_end (fn := Tryd.f97) [] rfl [] (.tuple #[]) rfl trivial ?_))))))))))
 exact ⟨rfl, hE⟩

theorem decodeR1_stop (w0 : World) (b2 b3 : Nat) (X2 : RefsV) (v3 : Value) (w : World) (h0 : Ext w0 w) (l2 : w0.heap.size ≤ b2) (l3 : w0.heap.size ≤ b3) (hne : b2 ≠ b3) (h2 : w.heap[b2]? = some (.cells (refsC X2).toArray 53 (0, 0))) (h3 : w.heap[b3]? = some (.cells ([v3]).toArray 27 (0, 0))) : CallsD Tryd.prog 97 #[PQ b2 0, PQ b3 0] (.panicking [stopR]) w fun e u' w' => u' = (askD (.panicking [stopR])).2 ∧ (e = .returned (.tuple #[]) ∧ w'.heap[b2]? = some (.cells (refsC ((⟨[], [], [], zid, []⟩, ⟨.slice none 0 0, .slice none 0 0, .slice none 0 0⟩) : RefsV)).toArray 53 (0, 0)) ∧ w'.heap[b3]? = some (.cells ([NI 6]).toArray 27 (0, 0)) ∧ Ext w0 w') := by
 have hl2_ := (bl h2)
 have hl3_ := (bl h3)
 refine callsD_of_rest (u := .panicking [stopR]) (args := [PQ b2 0, PQ b3 0]) Tryd.func97 rfl 17 rfl (Nat.le_of_ble_eq_true rfl) rfl rfl (R := fun e w' => e = .returned (.tuple #[]) ∧ w'.heap[b2]? = some (.cells (refsC ((⟨[], [], [], zid, []⟩, ⟨.slice none 0 0, .slice none 0 0, .slice none 0 0⟩) : RefsV)).toArray 53 (0, 0)) ∧ w'.heap[b3]? = some (.cells ([NI 6]).toArray 27 (0, 0)) ∧ Ext w0 w') ?_
 intro ρz hb
 have T0 : (updO (updO ρz (some 5) (askD (.panicking [stopR])).1) (some 2) (askD (.panicking [stopR])).1) 0 = (PQ b2 0 : Value) := hb.get 0
 have T1 : (updO (updO ρz (some 5) (askD (.panicking [stopR])).1) (some 2) (askD (.panicking [stopR])).1) 1 = (PQ b3 0 : Value) := hb.get 1
 have T2 : (updO (updO ρz (some 5) (askD (.panicking [stopR])).1) (some 2) (askD (.panicking [stopR])).1) 2 = ((.iface 146 (.agg #[])) : Value) := rfl
 generalize updO (updO ρz (some 5) (askD (.panicking [stopR])).1) (some 2) (askD (.panicking [stopR])).1 = ρ0 at T0 T1 T2 ⊢
 clear hb
 refine sk fun K1 hK1 => (wt (oM rfl (oS rfl (Yk.neqNilS (anyNilRX _ _ _) T2 (oZ (tN (hK1 _ _ (wpF_true (vr (.bool (true)) rfl) (sk fun K2 hK2 => (sk fun K3 hK3 => (wt (oM rfl (oS rfl (Yk.assertOk (wr60_ty146).choose_spec T2 (oM rfl (oS rfl (Yk.extract (vs := [.agg (([] : List Value)).toArray, .bool (true)]) (vr (.tuple #[.agg (([] : List Value)).toArray, .bool (true)]) rfl) (show _ = some (.agg (([] : List Value)).toArray : Value) from rfl) (oS rfl (Yk.extract (vs := [.agg (([] : List Value)).toArray, .bool (true)]) (vr (.tuple #[.agg (([] : List Value)).toArray, .bool (true)]) rfl) (show _ = some (.bool (true) : Value) from rfl) (oS rfl (Yk.alloc (cs := (([] : List Value)).toArray) wr60_al146 fun n4 w5 hn6 hb7 hx8 hs9 => ?_)))))))))))))))))))))
 have hA10 := Ext.refl w
 have hea11 := h0
 have hz12 := h0.size
 have hlt13 := lte (bl h2) hn6
 have hlt14 := lte (bl h3) hn6
 have h0 := h0.trans hx8
 have h2 := eb hx8 h2
 have h3 := eb hx8 h3
 have hA10 := hA10.trans hx8
 have hb15 := hb7; clear hb7
 have hl16 : n4 < w5.heap.size := by omega
 refine oS rfl (Yk.storeAll (vr (PQ n4 0) rfl) (vr (.agg (([] : List Value)).toArray) rfl) hb15 (rfl) ((show (Tryd.prog.info? 146).map (·.size) = some 0 from by kernel_rfl)) ((by intro u hu; cases hu)) fun w17 hb18 hg19 hs20 => ?_)
 have h0 := row_fresh h0 hg19 (Nat.le_trans hz12 (by omega))
 have h2 := kb hg19 h2 (by omega)
 have h3 := kb hg19 h3 (by omega)
 have hA10 := row_fresh hA10 hg19 (Nat.le_trans (Nat.le_refl _) (by omega))
 clear hb15
 have hb15 := hb18; clear hb18
 have hl21 := bl hb15
 refine oA rfl (oZ (tN (hK3 _ _ (sk fun K22 hK22 => (wt (oM rfl (oS rfl (Yk.notB (vr (.bool (true)) rfl) (oZ (tN (hK22 _ _ (wpF_false (vr (.bool (false)) rfl) (wpF_skip (tN (hK2 _ _ (wt (oS rfl (Yk.run (v := .agg (refsC ((⟨[], [], [], zid, []⟩, ⟨.slice none 0 0, .slice none 0 0, .slice none 0 0⟩) : RefsV)).toArray) (by kernel_rfl) (oS rfl (Yk.storeAll T0 (vr (.agg (refsC ((⟨[], [], [], zid, []⟩, ⟨.slice none 0 0, .slice none 0 0, .slice none 0 0⟩) : RefsV)).toArray) rfl) h2 (by simp only [List.size_toArray, refs_len]) (st_isz (refs_len _) wr60_isz53) (refs_one (x := ((⟨[], [], [], zid, []⟩, ⟨.slice none 0 0, .slice none 0 0, .slice none 0 0⟩) : RefsV)) rfl rfl rfl) fun w23 hb24 hg25 hs26 => ?_))))))))))))))))))))
 have h0 := row_fresh h0 hg25 (Nat.le_trans (Nat.le_refl _) (by omega))
 have h3 := kb hg25 h3 (by omega)
 clear hA10
 have hb15 := kb hg25 hb15 (by omega)
 clear h2
 have h2 : w23.heap[b2]? = some (.cells (refsC ((⟨[], [], [], zid, []⟩, ⟨.slice none 0 0, .slice none 0 0, .slice none 0 0⟩) : RefsV)).toArray 53 (0, 0)) := hb24; clear hb24
 have hl27 := bl h2
 refine oS rfl (Yk.storeC (i := 0) (v := NI 6) T1 (vr (NI 6) rfl) h3 (Nat.le_of_ble_eq_true rfl) wr60_isz27 rfl rfl fun w28 hb29 hg30 hs31 => ?_)
 have h0 := row_fresh h0 hg30 (Nat.le_trans (Nat.le_refl _) (by omega))
 have hb15 := kb hg30 hb15 (by omega)
 have h2 := kb hg30 h2 (by omega)
 clear h3
 have h3 := hb29; clear hb29
 have hl32 := bl h3
 refine oZ (postP_end (fn := Tryd.f97) [] rfl [] (.tuple #[]) rfl trivial ?_)
 exact ⟨rfl, h2, h3, h0⟩
open Go.RowKit
set_option maxRecDepth 100000
theorem OG.setE {α : Type} {n k g : Nat} {t : TypeId} {enc : α → List Value} {w w' : World} {v : Value} {l : List α} (h : OG n t k enc w v l) (hg : w.grownBy w' (some g)) (hl : g < n) : OG n t k enc w' v l :=
 h.kept hg fun e => by have := (h.2.lt g e).1; omega
theorem RefsOw.set {w w' : World} {X : RefsV} {n g : Nat} (h : RefsOw n w X) (hg : w.grownBy w' (some g)) (hl : g < n) : RefsOw n w' X := ⟨h.br.setE hg hl, h.tg.setE hg hl, h.lg.setE hg hl⟩
theorem RefsOw.toAt {w : World} {X : RefsV} {n : Nat} (h : RefsOw n w X) : RefsAt w X := ⟨RG.ofOwn h.br, RG.ofOwn h.tg, RG.ofOwn h.lg⟩
def DecResR (w : World) (X : RefsV) (c : Nat) : Option Refs → Prop
 | some m => c = 0 ∧ X.1 = m ∧ RefsAt w X
 | none => c = 6 ∧ X = ((⟨[], [], [], zid, []⟩, ⟨.slice none 0 0, .slice none 0 0, .slice none 0 0⟩) : RefsV)
theorem wr61_al53 {d : Option Tmp} {ty : TypeId} {pos : String} {af : Array Edge} {gd : Option (Nat × Bool)} (σ : Operand → Value) (w : World) : (execOp σ ⟨d, .alloc 53, ty, pos, af, gd⟩).run Tryd.prog w = .ok (.value (PQ w.heap.size 0)) (w.alloc (.cells (refsC ((⟨[], [], [], zid, []⟩, ⟨.slice none 0 0, .slice none 0 0, .slice none 0 0⟩) : RefsV)).toArray 53)) := by kernel_rfl
theorem wr61_al27 {d : Option Tmp} {ty : TypeId} {pos : String} {af : Array Edge} {gd : Option (Nat × Bool)} (σ : Operand → Value) (w : World) : (execOp σ ⟨d, .alloc 27, ty, pos, af, gd⟩).run Tryd.prog w = .ok (.value (PQ w.heap.size 0)) (w.alloc (.cells ([NI 0]).toArray 27)) := by kernel_rfl
theorem wr61_bs150_0h {z0 : Value} (h0 : ∃ ao n c, z0 = .slice ao n c) (w : World) : (Instr.build 150 #[(0, z0)]).run Tryd.prog w = .ok (.agg #[z0, .int .i64 0]) w := by obtain ⟨_, _, _, rfl⟩ := h0; kernel_rfl
theorem wr61_bs150_0 {z0 : Value} (h0 : ∃ ao n c, z0 = .slice ao n c) (w : World) : (Instr.build 150 #[(0, z0)]).run Tryd.prog w = .ok (.agg (z0 :: (.int .i64 (0) :: ([]))).toArray) w := by
 exact wr61_bs150_0h h0 w
theorem wr61_pl98 : Plain Tryd.prog 98 := fun _ _ => by kernel_rfl
theorem wr61_ty53 : ∃ fs, Tryd.prog.underlying 53 = some (.struct fs) := struct_of (by kernel_rfl)
theorem wr61_isz53 : (Tryd.prog.info? 53).map (·.size) = some 36 := by kernel_rfl
theorem wr61_ty27 : Tryd.prog.underlying 27 = some (.int .i64) := by kernel_rfl
theorem wr61_isz27 : (Tryd.prog.info? 27).map (·.size) = some 1 := by kernel_rfl
set_option maxHeartbeats 1600000
theorem decodeR_any (w : World) (v : Value) (b : Bs) (hr : RB w v b) (hl : b.length ≤ 4611686018427387904) :
  Calls Tryd.prog 46 #[v] w fun e w' => ∃ x, e = .returned x ∧ ∃ X c, x = .tuple #[.agg (refsC X).toArray, NI c] ∧ DecResR w' X c (decR b) ∧ Ext w w' := by
 refine calls_of_wpR (args := [v]) Tryd.func46 rfl 9 rfl (Nat.le_of_ble_eq_true rfl) ?_
 intro ρ0 hb
 have T0 : ρ0 0 = (v : Value) := hb.get 0
 clear hb
 have hE := Ext.refl w
 refine wpR_seq_k _ postP_bodyD fun K1 hK1 => (wt (oS rfl (Yk.alloc (cs := (refsC ((⟨[], [], [], zid, []⟩, ⟨.slice none 0 0, .slice none 0 0, .slice none 0 0⟩) : RefsV)).toArray) wr61_al53 fun n2 w3 hn4 hb5 hx6 hs7 => ?_)))
 have hE := hE.trans hx6
 have hb8 := hb5; clear hb5
 have hl9 : n2 < w3.heap.size := by omega
 refine oS rfl (Yk.alloc (cs := ([NI 0]).toArray) wr61_al27 fun n10 w11 hn12 hb13 hx14 hs15 => ?_)
 have hA16 := Ext.refl w3
 have hea17 := hE
 have hz18 := hE.size
 have hlt19 := lte (bl hb8) hn12
 have hE := hE.trans hx14
 have hb8 := eb hx14 hb8
 have hA16 := hA16.trans hx14
 have hb20 := hb13; clear hb13
 have hl21 : n10 < w11.heap.size := by omega
 refine oL_ [(0, v), (2, PQ n2 0), (3, PQ n10 0)] ⟨T0, rfl, rfl, trivial⟩ fun ρ22 ⟨T0, T2, T3, _⟩ => ?_
 have hrA : RB w11 v b := (hr.keep hE)
 have hA2 := hb8
 have hA3 := hb20
 have hEA := hE
 have hA23 := Ext.refl w11
 have hea24 := hE
 have hea25 := hA16
 have hz26 := hE.size
 have hz27 := hA16.size
 refine tN (hK1 _ _ (wpR_seq_text (opsR_step rfl (Yk.mkFunc (vs := #[PQ n2 0, PQ n10 0]) (by simp only [List.map_toArray, List.map_cons, List.map_nil]; exact congrArg List.toArray (list2 T2 T3)) (opsR_defer (vr (.func (.func 97) #[] #[PQ n2 0, PQ n10 0]) rfl) (deferOk (vr (.func (.func 97) #[] #[PQ n2 0, PQ n10 0]) rfl)) (opsR_end (fun ρ => ρ 0 = (v : Value) ∧ ρ 2 = (PQ n2 0 : Value) ∧ ρ 3 = (PQ n10 0 : Value) ∧ True) ⟨T0, T2, T3, trivial⟩ fun ρ28 ⟨T0, T2, T3, _⟩ => (wpR_seq_text (opsR_step rfl (Yk.move T0 (opsR_step rfl (Yk.build1 (vr v rfl) (fun w => wr61_bs150_0 (RB.slice (hr.keep hE)) w) (opsR_step rfl (Yk.box (cs := (rdC ((⟨b, 0⟩, ⟨v⟩) : RdV) : List Value).toArray) (vr (.agg (rdC ((⟨b, 0⟩, ⟨v⟩) : RdV)).toArray) rfl) fun n29 w30 hn31 hb32 hx33 hs34 => ?_)))))))))))))
 have hlt35 := lte (bl hb8) hn31
 have hlt36 := lte (bl hb20) hn31
 have hE := hE.trans hx33
 have hb8 := eb hx33 hb8
 have hA16 := hA16.trans hx33
 have hb20 := eb hx33 hb20
 have hA23 := hA23.trans hx33
 have hb37 := hb32; clear hb32
 have hl38 : n29 < w30.heap.size := by omega
 refine opsR_stepP rfl (Yp.callA1 wr61_pl98 (vr (PQ n29 0) rfl) ?_)
 refine calls_either (refsR_any hA23 hb37 hrA (by omega) hl) ?_ ?_
 rotate_left
 ·
  rintro ch w39 ⟨hP, rfl, hx⟩
  intro a_ ha_
  show Leaves _ _ a_.tmps _ a_.defers (.panicking _) _
  rw [ha_.defers]
  refine leaves_cons (f := 97) (args := #[PQ n2 0, PQ n10 0]) (by simp) (by simp [go_sem]) ((decodeR1_stop w n2 n10 _ _ _ (hEA.trans hx) (by omega) (by omega) (by omega) (eb hx hA2) (eb hx hA3)).mono ?_)
  rintro e u' w3 ⟨rfl, rfl, hb2, hb3, hE3⟩
  exact leaves_nil (ρ := _) _ rfl [.agg (refsC ((⟨[], [], [], zid, []⟩, ⟨.slice none 0 0, .slice none 0 0, .slice none 0 0⟩) : RefsV)).toArray, NI 6] (.tuple #[.agg (refsC ((⟨[], [], [], zid, []⟩, ⟨.slice none 0 0, .slice none 0 0, .slice none 0 0⟩) : RefsV)).toArray, NI 6]) rfl ha_.get ⟨ResF.row (T2) hb2 (wr61_ty53).choose_spec rfl (st_isz (refs_len _) wr61_isz53), ResF.cell1 (T3) hb3 wr61_ty27 rfl, trivial⟩ ⟨_, rfl, _, _, rfl, by rw [hP]; exact ⟨rfl, rfl⟩, hE3⟩
 rintro v_ w41 ⟨X, hP, rfl, hX, hx⟩
 have hE := hEA.trans hx
 have hb2 := eb hx hA2
 have hb3 := eb hx hA3
 have hs2 := hx.size
 have hmt := RG.ofOwn hX.br
 have hmg := RG.ofOwn hX.tg
 have hml := RG.ofOwn hX.lg
 have hl2 := (bl hb2)
 have hl3 := (bl hb3)
 have hzA := hEA.size
 refine opsR_step rfl (Yk.storeAll T2 (vr (.agg (refsC X).toArray) rfl) hb2 (by simp only [List.size_toArray, refs_len]) (st_isz (refs_len _) wr61_isz53) (refs_one (x := X) (RG.one hmt).2 (RG.one hmg).2 (RG.one hml).2) fun w42 hb43 hg44 hs45 => ?_)
 have hE := row_fresh hE hg44 (Nat.le_trans (Nat.le_refl _) (by omega))
 have hb3 := kb hg44 hb3 (by omega)
 have hX : RefsOw w11.heap.size w42 X := RefsOw.set hX hg44 (by omega)
 clear hmt
 clear hmg
 clear hml
 clear hb2
 have hb2 : w42.heap[n2]? = some (.cells (refsC X).toArray 53 (0, 0)) := hb43; clear hb43
 have hl46 := bl hb2
 refine opsR_step rfl (Yk.storeC (i := 0) (v := NI 0) T3 (vr (NI 0) rfl) hb3 (Nat.le_of_ble_eq_true rfl) wr61_isz27 rfl rfl fun w47 hb48 hg49 hs50 => ?_)
 have hE := row_fresh hE hg49 (Nat.le_trans hz18 (by omega))
 have hX : RefsOw w11.heap.size w47 X := RefsOw.set hX hg49 (by omega)
 have hb2 := kb hg49 hb2 (by omega)
 clear hb3
 have hb3 := hb48; clear hb48
 have hl51 := bl hb3
 refine opsR_end (fun ρ => ρ 0 = (v : Value) ∧ ρ 2 = (PQ n2 0 : Value) ∧ ρ 3 = (PQ n10 0 : Value) ∧ True) ⟨T0, T2, T3, trivial⟩ fun ρ52 ⟨T0, T2, T3, _⟩ => (wpR_ret fun a_ ha_ => ?_)
 show Leaves _ _ a_.tmps _ a_.defers .returning _
 rw [ha_.defers]
 refine leaves_cons (f := 97) (args := #[PQ n2 0, PQ n10 0]) (by simp) (by simp [go_sem]) ((decodeR1_idle n2 n10 _).mono ?_)
 rintro e u' w3 ⟨rfl, rfl, hxi⟩
 exact leaves_nil (ρ := _) _ rfl [.agg (refsC X).toArray, NI 0] (.tuple #[.agg (refsC X).toArray, NI 0]) rfl ha_.get ⟨ResF.row (T2) (eb hxi hb2) (wr61_ty53).choose_spec rfl (st_isz (refs_len _) wr61_isz53), ResF.cell1 (T3) (eb hxi hb3) wr61_ty27 rfl, trivial⟩ ⟨_, rfl, _, _, rfl, by rw [hP]; exact ⟨rfl, rfl, (RefsOw.toAt hX).keep hxi⟩, hE.trans hxi⟩
open Go.RowKit
set_option maxRecDepth 100000
theorem encodeR_yes (w : World) (z : RefsV) (hm : RefsAt w z) (hL : RefsLt z.1) (hR : rightF z.1 = true) :
  Calls Tryd.prog 45 #[.agg (refsC z).toArray] w fun e w' => ∃ v, e = .returned (.tuple #[v, NI 0]) ∧ RB w' v (encR z.1) ∧ Ext w w' :=
 (encodeR_any w z hm hL).mono fun e w' h => by
  obtain ⟨v, rfl, h1, h2⟩ := h
  rw [if_pos hR] at h1
  exact ⟨v, by rw [if_pos hR], h1, h2⟩
theorem encodeR_no (w : World) (z : RefsV) (hm : RefsAt w z) (hL : RefsLt z.1) (hR : rightF z.1 = false) :
  Calls Tryd.prog 45 #[.agg (refsC z).toArray] w fun e w' => ∃ v, e = .returned (.tuple #[v, NI 1]) ∧ RB w' v [] ∧ Ext w w' :=
 (encodeR_any w z hm hL).mono fun e w' h => by
  obtain ⟨v, rfl, h1, h2⟩ := h
  rw [if_neg (by rw [hR]; decide)] at h1
  exact ⟨v, by rw [if_neg (by rw [hR]; decide)], h1, h2⟩
theorem zeroR_not : rightF zeroR = false := by
 rw [Bool.eq_false_iff]
 intro h
 have h2 := (rightF_iff.1 h).1.hd
 unfold rE2 at h2
 have h3 : zeroB zeroR.at_ = true := decide_eq_true rfl
 rw [h3] at h2
 exact absurd h2 (by decide)
theorem encR_len {r : Refs} (h : rightF r = true) : (encR r).length ≤ 40000 := by
 have hR := right_len h
 have h1 := nl_len hR.bl hR.bn
 have h2 := nl_len hR.tl hR.tn
 have h3 := textR_len hR.hd (by omega)
 have h4 := uvarint_len9 (n := r.log.length) (by have := hR.ll; omega)
 have h5 := ents_len hR r.log.length
 rw [List.take_length] at h5
 have h6 : r.at_.1.length = 32 := r.at_.2
 unfold encR
 simp only [List.length_append]
 omega
theorem decR_nil : decR [] = none := rfl
def DecS (m : Refs) (c : Nat) : Option Refs → Prop
 | some n => c = 0 ∧ m = n
 | none => c = 6 ∧ m = zeroR
theorem DecResR.all {w : World} {X : RefsV} {c : Nat} {o : Option Refs} (h : DecResR w X c o) : RefsAt w X ∧ DecS X.1 c o := by
 cases o with
 | some m => exact ⟨h.2.2, h.1, h.2.1⟩
 | none =>
  obtain ⟨h1, h2⟩ := h
  subst h2
  exact ⟨⟨RG.nil _ _ _, RG.nil _ _ _, RG.nil _ _ _⟩, h1, rfl⟩
theorem decodeR_all (w : World) (v : Value) (b : Bs) (hr : RB w v b) (hl : b.length ≤ 4611686018427387904) :
  Calls Tryd.prog 46 #[v] w fun e w' => ∃ X c, e = .returned (.tuple #[.agg (refsC X).toArray, NI c]) ∧ RefsAt w' X ∧ DecS X.1 c (decR b) ∧ Ext w w' :=
 (decodeR_any w v b hr hl).mono fun e w' h => by
  obtain ⟨x, rfl, X, c, rfl, h1, h2⟩ := h
  exact ⟨X, c, rfl, h1.all.1, h1.all.2, h2⟩
theorem wr62_ty49 : ∃ fs, Tryd.prog.underlying 49 = some (.struct fs) := struct_of (by kernel_rfl)
theorem wr62_isz49 : (Tryd.prog.info? 49).map (·.size) = some 36 := by kernel_rfl
theorem wr62_pl25 : Plain Tryd.prog 25 := fun _ _ => by kernel_rfl
theorem wr62_ty26 : Tryd.prog.underlying 26 = some (.slice 5) := by kernel_rfl
theorem wr62_pl27 : Plain Tryd.prog 27 := fun _ _ => by kernel_rfl
theorem wr62_pl45 : Plain Tryd.prog 45 := fun _ _ => by kernel_rfl
theorem wr62_pl46 : Plain Tryd.prog 46 := fun _ _ => by kernel_rfl
theorem wr62_al53 {d : Option Tmp} {ty : TypeId} {pos : String} {af : Array Edge} {gd : Option (Nat × Bool)} (σ : Operand → Value) (w : World) : (execOp σ ⟨d, .alloc 53, ty, pos, af, gd⟩).run Tryd.prog w = .ok (.value (PQ w.heap.size 0)) (w.alloc (.cells (refsC ((⟨[], [], [], zid, []⟩, ⟨.slice none 0 0, .slice none 0 0, .slice none 0 0⟩) : RefsV)).toArray 53)) := by kernel_rfl
theorem wr62_isz53 : (Tryd.prog.info? 53).map (·.size) = some 36 := by kernel_rfl
theorem wr62_ty53 : ∃ fs, Tryd.prog.underlying 53 = some (.struct fs) := struct_of (by kernel_rfl)
theorem wr62_pl35 : Plain Tryd.prog 35 := fun _ _ => by kernel_rfl
theorem wr62_pl30 : Plain Tryd.prog 30 := fun _ _ => by kernel_rfl
theorem wr62_pl29 : Plain Tryd.prog 29 := fun _ _ => by kernel_rfl
theorem wr62_ty5 : Tryd.prog.underlying 5 = some (.int .u8) := by kernel_rfl
theorem wr62_ty9 : Tryd.prog.underlying 9 = some (.string) := by kernel_rfl
set_option maxHeartbeats 1600000
theorem refsBack_walk (w : World) (y : RefsV) (hm : RefsAt w y) (hN : NamesLt y.1) (vb : Value) (b : Bs) (hrb : RB w vb b) :
  Calls Tryd.prog 14 #[.agg (refsC y).toArray, vb] w fun e w' => e = .returned (.bool true) ∧ Ext w w' := by
 have hmt := hm.branches
 have hmg := hm.tags
 have hml := hm.log
 refine calls_of_wpF (args := [.agg (refsC y).toArray, vb]) Tryd.func14 rfl 71 rfl (Nat.le_of_ble_eq_true rfl) ?_
 intro ρ0 hb
 have T0 : ρ0 0 = (.agg (refsC y).toArray : Value) := hb.get 0
 have T1 : ρ0 1 = (vb : Value) := hb.get 1
 clear hb
 have hE := Ext.refl w
 refine sk fun K1 hK1 => (wt (oS rfl (Yk.box (cs := (refsC y : List Value).toArray) T0 fun n2 w3 hn4 hb5 hx6 hs7 => ?_)))
 have hE := hE.trans hx6
 have hb8 := hb5; clear hb5
 have hl9 : n2 < w3.heap.size := by omega
 refine oA rfl (oZ (tN (hK1 _ _ (sk fun K10 hK10 => (sk fun K11 hK11 => (wt (oS rfl (Yk.loadAll (vr (PQ n2 0) rfl) hb8 (wr62_ty49).choose_spec rfl (st_isz (refs_len y) wr62_isz49) (oS rfl (Yk.callA1 wr62_pl25 (vr (.agg (refsC y).toArray) rfl) ((light20_any _ y (RefsAt.mk (hmt.keep hE) (hmg.keep hE) (hml.keep hE))).mono ?_)))))))))))
 rintro e w13 ⟨rfl, hx12⟩
 refine ⟨_, rfl, ?_⟩
 have hE := hE.trans hx12
 have hb8 := eb hx12 hb8
 refine oS rfl (Yk.notB (vr (.bool (lightR y.1)) rfl) (oM rfl (opsF_mayV (vb) rfl rfl (gF (vr (.bool (!(lightR y.1))) rfl)) (fun hG14 => Yk.move T1 ⟨rfl, rfl⟩) (opsF_mayV (NI b.length) rfl rfl (gF (vr (.bool (!(lightR y.1))) rfl)) (fun hG15 => Yk.lenRB wr62_ty26 (RB.of (hrb.keep hE) (mayT (vr (cond (!(!(lightR y.1))) (vb) undef) rfl) hG15)) ⟨rfl, rfl⟩) (opsF_mayV (.bool (decide ((6000) < (b.length)))) rfl rfl (gF (vr (.bool (!(lightR y.1))) rfl)) (fun hG16 => Yk.eqI (a := ((b.length : Nat) : Int)) (b := ((6000 : Nat) : Int)) (mayT (vr (cond (!(!(lightR y.1))) (NI b.length) undef) rfl) hG16) (vr (NI 6000) rfl) (k_gtr _ .i64 (b.length) (6000)) ⟨rfl, rfl⟩) (oS rfl (Yk.pickOrN (vr (.bool (!(lightR y.1))) rfl) (vr (.bool (true)) rfl) (fun hA => (mayT (vr (cond (!(!(lightR y.1))) (.bool (decide ((6000) < (b.length)))) undef) rfl) (not_i hA))) fun bb17 hbb18 => (oZ (tN (hK11 _ _ ?_))))))))))
 refine wpF_condB (bb17) (vr (.bool (bb17)) rfl) (fun hc0 => ?_) (fun hc0 => ?_)
 ·refine sk fun K19 hK19 => (wt (oA rfl (oZ (tN (hK19 _ _ (wpF_ret (thenF_ret (postF_ret (fn := Tryd.f14) _ rfl [.bool (true)] (.bool (true)) rfl ⟨rfl, trivial⟩ ?_))))))))
  exact ⟨rfl, hE⟩
 subst hbb18
 have h0 : lightR y.1 = true ∧ b.length ≤ 6000 := by simpa using hc0
 have hc := lightR_few h0.1
 have hL : RefsLt y.1 := lt_of hN hc
 have hbl := h0.2
 rcases hD : decR b with _ | m
 ·cases hR : rightF y.1
  ·refine wpF_skip (tN (hK10 _ _ (sk fun K20 hK20 => (wt (oS rfl (Yk.loadAll (vr (PQ n2 0) rfl) hb8 (wr62_ty49).choose_spec rfl (st_isz (refs_len y) wr62_isz49) (oS rfl (Yk.callA1 wr62_pl27 (vr (.agg (refsC y).toArray) rfl) ((told20_any _ y (RefsAt.mk (hmt.keep hE) (hmg.keep hE) (hml.keep hE)) hc).mono ?_)))))))))
   rintro e w24 ⟨v21, rfl, hp22, hx23⟩
   refine ⟨_, rfl, ?_⟩
   have hE := hE.trans hx23
   have hb8 := eb hx23 hb8
   refine oS rfl (Yk.callA1 wr62_pl45 (vr (.agg (refsC (y.1, v21)).toArray) rfl) ((encodeR_no _ (y.1, v21) hp22 hL hR).mono ?_))
   rintro e w28 ⟨v25, rfl, hr26, hx27⟩
   refine ⟨_, rfl, ?_⟩
   have hE := hE.trans hx27
   have hb8 := eb hx27 hb8
   have hp22 := hp22.keep hx27
   refine oM rfl (oS rfl (Yk.extract (vs := [v25, NI 1]) (vr (.tuple #[v25, NI 1]) rfl) (show _ = some (v25 : Value) from rfl) (oS rfl (Yk.extract (vs := [v25, NI 1]) (vr (.tuple #[v25, NI 1]) rfl) (show _ = some (NI 1 : Value) from rfl) (oA rfl (oA rfl (oZ (tN (hK20 _ _ (sk fun K29 hK29 => (wt (oM rfl (oS rfl (Yk.callA1 wr62_pl46 (vr v25 rfl) ((decodeR_all _ v25 (([] : List UInt8)) hr26 (by decide)).mono ?_)))))))))))))))
   rintro e w31 ⟨X30, c30, rfl, hX30, hd30, hx30⟩
   refine ⟨_, rfl, ?_⟩
   have hE := hE.trans hx30
   have hb8 := eb hx30 hb8
   have hp22 := hp22.keep hx30
   have hr26 := hr26.keep hx30
   have hr32 : RG 33 nmdC w31 X30.2.branches X30.1.branches := hX30.branches
   have hr33 : RG 33 nmdC w31 X30.2.tags X30.1.tags := hX30.tags
   have hr34 : RG 67 entC w31 X30.2.log X30.1.log := hX30.log
   rw [show decR _ = _ from decR_nil] at hd30
   obtain ⟨hc30, hm30⟩ := hd30
   subst hc30
   refine oM rfl (oS rfl (Yk.extract (vs := [.agg (refsC X30).toArray, NI 6]) (vr (.tuple #[.agg (refsC X30).toArray, NI 6]) rfl) (show _ = some (.agg (refsC X30).toArray : Value) from rfl) (oS rfl (Yk.extract (vs := [.agg (refsC X30).toArray, NI 6]) (vr (.tuple #[.agg (refsC X30).toArray, NI 6]) rfl) (show _ = some (NI 6 : Value) from rfl) (oS rfl (Yk.alloc (cs := (refsC ((⟨[], [], [], zid, []⟩, ⟨.slice none 0 0, .slice none 0 0, .slice none 0 0⟩) : RefsV)).toArray) wr62_al53 fun n35 w36 hn37 hb38 hx39 hs40 => ?_))))))
   have hA41 := Ext.refl w31
   have hea42 := hE
   have hz43 := hE.size
   have hlt44 := lte (bl hb8) hn37
   have hE := hE.trans hx39
   have hb8 := eb hx39 hb8
   have hA41 := hA41.trans hx39
   have hb45 := hb38; clear hb38
   have hl46 : n35 < w36.heap.size := by omega
   refine oS rfl (Yk.storeAll (vr (PQ n35 0) rfl) (vr (.agg (refsC X30).toArray) rfl) hb45 (by simp only [List.size_toArray, refs_len]) (st_isz (refs_len _) wr62_isz53) (refs_one (x := X30) (RG.one (hr32.keep hA41)).2 (RG.one (hr33.keep hA41)).2 (RG.one (hr34.keep hA41)).2) fun w47 hb48 hg49 hs50 => ?_)
   have hE := row_fresh hE hg49 (Nat.le_trans hz43 (by omega))
   have hb8 := kb hg49 hb8 (by omega)
   have hA41 := row_fresh hA41 hg49 (Nat.le_trans (Nat.le_refl _) (by omega))
   clear hb45
   have hb45 : w47.heap[n35]? = some (.cells (refsC X30).toArray 53 (0, 0)) := hb48; clear hb48
   have hl51 := bl hb45
   refine oA rfl (oZ (tN (hK29 _ _ (sk fun K52 hK52 => (sk fun K53 hK53 => ?_)))))
   refine wpF_draw [Is (NI 1), Is (.bool (false)), Is (.bool (false)), Is undef, Is undef, Is undef, Is undef, Is undef, Is undef, Is undef, Is undef, Is undef, Is (.bool (false))] (by kernel_rfl) [32, 33, 34, 35, 36, 37, 38, 39, 40, 41, 42, 43, 44] (by kernel_rfl) (by kernel_rfl) ⟨Stab.is _, (si12 trivial)⟩ ?hs1005 ?hQ1005
   case hs1005 =>
    refine ⟨?_, ?_, ?_, ?_, ?_, ?_, ?_, ?_, ?_, ?_, ?_, ?_, ?_, trivial⟩
    ·refine stepN rfl fun σ w1 hC h => ?_
     have e6 : σ 6 = NI 1 := (eqo (h 6 (by decide))).trans rfl
     exact Yk.move e6 ⟨Ext.refl _, rfl⟩
    ·refine stepN rfl fun σ w1 hC h => ?_
     have e32 := eqo (h 32 (by decide))
     exact Yk.eqI (a := (1 : Nat)) (b := (0 : Nat)) e32 rfl (k_eql _ _ _ _) ⟨Ext.refl _, (congrArg Value.bool (decide_eq_false (by decide)))⟩
    ·refine stepN rfl fun σ w1 hC h => ?_
     have e33 := eqo (h 33 (by decide))
     exact Yk.move e33 ⟨Ext.refl _, rfl⟩
    ·refine stepX 2 true 34 rfl rfl (fun x _ (h : x = .bool false) => by rw [h]; intro h; cases h) fun _ => rfl
    ·refine stepX 2 true 34 rfl rfl (fun x _ (h : x = .bool false) => by rw [h]; intro h; cases h) fun _ => rfl
    ·refine stepX 2 true 34 rfl rfl (fun x _ (h : x = .bool false) => by rw [h]; intro h; cases h) fun _ => rfl
    ·refine stepX 5 false 37 rfl rfl (fun x _ (h : x = undef) => by rw [h]; intro h; cases h) fun _ => rfl
    ·refine stepX 5 false 37 rfl rfl (fun x _ (h : x = undef) => by rw [h]; intro h; cases h) fun _ => rfl
    ·refine stepX 5 false 37 rfl rfl (fun x _ (h : x = undef) => by rw [h]; intro h; cases h) fun _ => rfl
    ·refine stepX 5 false 37 rfl rfl (fun x _ (h : x = undef) => by rw [h]; intro h; cases h) fun _ => rfl
    ·refine stepX 5 false 37 rfl rfl (fun x _ (h : x = undef) => by rw [h]; intro h; cases h) fun _ => rfl
    ·refine stepX 2 true 34 rfl rfl (fun x _ (h : x = .bool false) => by rw [h]; intro h; cases h) fun _ => rfl
    ·refine stepN rfl fun σ w1 hC h => ?_
     have e34 := eqo (h 34 (by decide))
     exact Yk.pickF e34 (vr (.bool (false)) rfl) ⟨Ext.refl _, rfl⟩
   intro ρ54 w55 hx56 he hf
   obtain ⟨-, -, -, -, -, -, -, -, -, -, -, -, k44, -⟩ := hf
   obtain ⟨T0, T1, T2, T4, T5, T6, T7, T8, -⟩ := he.hold [(0, _), (1, _), (2, PQ n2 0), (4, .bool (false)), (5, v25), (6, NI 1), (7, PQ n35 0), (8, NI 6)] ⟨T0, T1, rfl, rfl, rfl, rfl, rfl, rfl, trivial⟩ rfl
   clear he
   have hE := hE.trans hx56
   have hb8 := eb hx56 hb8
   have hA41 := hA41.trans hx56
   have hb45 := eb hx56 hb45
   have T44 : ρ54 44 = .bool (false) := k44
   clear k44
   refine tN (hK53 _ _ (wpF_false T44 (wpF_skip (tN (hK52 _ _ (sk fun K57 hK57 => (wt (oM rfl (oS rfl (Yk.callA1 wr62_pl46 T1 ((decodeR_all _ vb (b) (hrb.keep hE) (by omega)).mono ?_)))))))))))
   rintro e w59 ⟨X58, c58, rfl, hX58, hd58, hx58⟩
   refine ⟨_, rfl, ?_⟩
   have hE := hE.trans hx58
   have hb8 := eb hx58 hb8
   have hA41 := hA41.trans hx58
   have hb45 := eb hx58 hb45
   have hr60 : RG 33 nmdC w59 X58.2.branches X58.1.branches := hX58.branches
   have hr61 : RG 33 nmdC w59 X58.2.tags X58.1.tags := hX58.tags
   have hr62 : RG 67 entC w59 X58.2.log X58.1.log := hX58.log
   rw [show decR _ = _ from hD] at hd58
   obtain ⟨hc58, hm58⟩ := hd58
   subst hc58
   refine oM rfl (oS rfl (Yk.extract (vs := [.agg (refsC X58).toArray, NI 6]) (vr (.tuple #[.agg (refsC X58).toArray, NI 6]) rfl) (show _ = some (.agg (refsC X58).toArray : Value) from rfl) (oS rfl (Yk.extract (vs := [.agg (refsC X58).toArray, NI 6]) (vr (.tuple #[.agg (refsC X58).toArray, NI 6]) rfl) (show _ = some (NI 6 : Value) from rfl) (oS rfl (Yk.alloc (cs := (refsC ((⟨[], [], [], zid, []⟩, ⟨.slice none 0 0, .slice none 0 0, .slice none 0 0⟩) : RefsV)).toArray) wr62_al53 fun n63 w64 hn65 hb66 hx67 hs68 => ?_))))))
   have hA69 := Ext.refl w59
   have hea70 := hE
   have hea71 := hA41
   have hz72 := hE.size
   have hz73 := hA41.size
   have hlt74 := lte (bl hb8) hn65
   have hlt75 := lte (bl hb45) hn65
   have hE := hE.trans hx67
   have hb8 := eb hx67 hb8
   have hA41 := hA41.trans hx67
   have hb45 := eb hx67 hb45
   have hA69 := hA69.trans hx67
   have hb76 := hb66; clear hb66
   have hl77 : n63 < w64.heap.size := by omega
   refine oS rfl (Yk.storeAll (vr (PQ n63 0) rfl) (vr (.agg (refsC X58).toArray) rfl) hb76 (by simp only [List.size_toArray, refs_len]) (st_isz (refs_len _) wr62_isz53) (refs_one (x := X58) (RG.one (hr60.keep hA69)).2 (RG.one (hr61.keep hA69)).2 (RG.one (hr62.keep hA69)).2) fun w78 hb79 hg80 hs81 => ?_)
   have hE := row_fresh hE hg80 (Nat.le_trans hz72 (by omega))
   have hb8 := kb hg80 hb8 (by omega)
   have hA41 := row_fresh hA41 hg80 (Nat.le_trans hz73 (by omega))
   have hb45 := kb hg80 hb45 (by omega)
   have hA69 := row_fresh hA69 hg80 (Nat.le_trans (Nat.le_refl _) (by omega))
   clear hb76
   have hb76 : w78.heap[n63]? = some (.cells (refsC X58).toArray 53 (0, 0)) := hb79; clear hb79
   have hl82 := bl hb76
   refine oA rfl (oZ (tN (hK57 _ _ (sk fun K83 hK83 => (wt (oS rfl (Yk.loadAll (vr (PQ n63 0) rfl) hb76 (wr62_ty53).choose_spec rfl (st_isz (refs_len X58) wr62_isz53) (oS rfl (Yk.callA1 wr62_pl45 (vr (.agg (refsC X58).toArray) rfl) ((encodeR_no _ X58 (hX58.keep hA69) (by rw [hm58]; exact zeroR_lt) (by rw [hm58]; exact zeroR_not)).mono ?_))))))))))
   rintro e w87 ⟨v84, rfl, hr85, hx86⟩
   refine ⟨_, rfl, ?_⟩
   have hE := hE.trans hx86
   have hb8 := eb hx86 hb8
   have hA41 := hA41.trans hx86
   have hb45 := eb hx86 hb45
   have hA69 := hA69.trans hx86
   have hb76 := eb hx86 hb76
   refine oM rfl (oS rfl (Yk.extract (vs := [v84, NI 1]) (vr (.tuple #[v84, NI 1]) rfl) (show _ = some (v84 : Value) from rfl) (oS rfl (Yk.extract (vs := [v84, NI 1]) (vr (.tuple #[v84, NI 1]) rfl) (show _ = some (NI 1 : Value) from rfl) (oA rfl (oA rfl (oZ (tN (hK83 _ _ (sk fun K88 hK88 => (wt (oM rfl (oS rfl (Yk.eqI (a := (6 : Nat)) (b := (0 : Nat)) rfl rfl (k_neq _ _ _ _) (oM rfl (oN (d := 57) rfl rfl rfl (vr (.bool (true)) (congrArg Value.bool (decide_eq_true (by decide)))) rfl (oN (d := 57) rfl rfl rfl (vr (.bool (true)) (congrArg Value.bool (decide_eq_true (by decide)))) rfl (oN (d := 57) rfl rfl rfl (vr (.bool (true)) (congrArg Value.bool (decide_eq_true (by decide)))) rfl (opsF_offU (d := 60) rfl rfl rfl (vr undef rfl) ?_)))))))))))))))))))
   refine opsF_offU (d := 60) rfl rfl rfl (vr undef rfl) (opsF_offU (d := 60) rfl rfl rfl (vr undef rfl) (opsF_offU (d := 60) rfl rfl rfl (vr undef rfl) (opsF_offU (d := 60) rfl rfl rfl (vr undef rfl) (oN (d := 57) rfl rfl rfl (vr (.bool (true)) (congrArg Value.bool (decide_eq_true (by decide)))) rfl (oS rfl (Yk.pickT (vr (.bool (true)) (congrArg Value.bool (decide_eq_true (by decide)))) (vr (.bool (true)) rfl) (oM rfl (oY (d := 68) rfl rfl (vr (.bool (true)) rfl) (Yk.callA0 wr62_pl35  ((awake20 _).mono ?_))))))))))
   rintro e w90 ⟨rfl, hx89⟩
   refine ⟨_, rfl, ?_⟩
   have hE := hE.trans hx89
   have hb8 := eb hx89 hb8
   have hA41 := hA41.trans hx89
   have hb45 := eb hx89 hb45
   have hA69 := hA69.trans hx89
   have hb76 := eb hx89 hb76
   have hr85 := hr85.keep hx89
   refine oS rfl (Yk.pickT (vr (.bool (true)) rfl) (vr (.bool (true)) rfl) (oA rfl (oZ (tN (hK88 _ _ (wpF_ret (postF_ret (fn := Tryd.f14) _ rfl [.bool (true)] (.bool (true)) rfl ⟨rfl, trivial⟩ ?_)))))))
   exact ⟨rfl, hE⟩
  refine wpF_skip (tN (hK10 _ _ (sk fun K91 hK91 => (wt (oS rfl (Yk.loadAll (vr (PQ n2 0) rfl) hb8 (wr62_ty49).choose_spec rfl (st_isz (refs_len y) wr62_isz49) (oS rfl (Yk.callA1 wr62_pl27 (vr (.agg (refsC y).toArray) rfl) ((told20_any _ y (RefsAt.mk (hmt.keep hE) (hmg.keep hE) (hml.keep hE)) hc).mono ?_)))))))))
  rintro e w95 ⟨v92, rfl, hp93, hx94⟩
  refine ⟨_, rfl, ?_⟩
  have hE := hE.trans hx94
  have hb8 := eb hx94 hb8
  refine oS rfl (Yk.callA1 wr62_pl45 (vr (.agg (refsC (y.1, v92)).toArray) rfl) ((encodeR_yes _ (y.1, v92) hp93 hL hR).mono ?_))
  rintro e w99 ⟨v96, rfl, hr97, hx98⟩
  refine ⟨_, rfl, ?_⟩
  have hE := hE.trans hx98
  have hb8 := eb hx98 hb8
  have hp93 := hp93.keep hx98
  refine oM rfl (oS rfl (Yk.extract (vs := [v96, NI 0]) (vr (.tuple #[v96, NI 0]) rfl) (show _ = some (v96 : Value) from rfl) (oS rfl (Yk.extract (vs := [v96, NI 0]) (vr (.tuple #[v96, NI 0]) rfl) (show _ = some (NI 0 : Value) from rfl) (oA rfl (oA rfl (oZ (tN (hK91 _ _ (sk fun K100 hK100 => (wt (oM rfl (oS rfl (Yk.callA1 wr62_pl46 (vr v96 rfl) ((decodeR_all _ v96 (encR y.1) hr97 (by have := encR_len hR; omega)).mono ?_)))))))))))))))
  rintro e w102 ⟨X101, c101, rfl, hX101, hd101, hx101⟩
  refine ⟨_, rfl, ?_⟩
  have hE := hE.trans hx101
  have hb8 := eb hx101 hb8
  have hp93 := hp93.keep hx101
  have hr97 := hr97.keep hx101
  have hr103 : RG 33 nmdC w102 X101.2.branches X101.1.branches := hX101.branches
  have hr104 : RG 33 nmdC w102 X101.2.tags X101.1.tags := hX101.tags
  have hr105 : RG 67 entC w102 X101.2.log X101.1.log := hX101.log
  rw [show decR _ = _ from (decR_enc hR)] at hd101
  obtain ⟨hc101, hm101⟩ := hd101
  subst hc101
  refine oM rfl (oS rfl (Yk.extract (vs := [.agg (refsC X101).toArray, NI 0]) (vr (.tuple #[.agg (refsC X101).toArray, NI 0]) rfl) (show _ = some (.agg (refsC X101).toArray : Value) from rfl) (oS rfl (Yk.extract (vs := [.agg (refsC X101).toArray, NI 0]) (vr (.tuple #[.agg (refsC X101).toArray, NI 0]) rfl) (show _ = some (NI 0 : Value) from rfl) (oS rfl (Yk.alloc (cs := (refsC ((⟨[], [], [], zid, []⟩, ⟨.slice none 0 0, .slice none 0 0, .slice none 0 0⟩) : RefsV)).toArray) wr62_al53 fun n106 w107 hn108 hb109 hx110 hs111 => ?_))))))
  have hA112 := Ext.refl w102
  have hea113 := hE
  have hz114 := hE.size
  have hlt115 := lte (bl hb8) hn108
  have hE := hE.trans hx110
  have hb8 := eb hx110 hb8
  have hA112 := hA112.trans hx110
  have hb116 := hb109; clear hb109
  have hl117 : n106 < w107.heap.size := by omega
  refine oS rfl (Yk.storeAll (vr (PQ n106 0) rfl) (vr (.agg (refsC X101).toArray) rfl) hb116 (by simp only [List.size_toArray, refs_len]) (st_isz (refs_len _) wr62_isz53) (refs_one (x := X101) (RG.one (hr103.keep hA112)).2 (RG.one (hr104.keep hA112)).2 (RG.one (hr105.keep hA112)).2) fun w118 hb119 hg120 hs121 => ?_)
  have hE := row_fresh hE hg120 (Nat.le_trans hz114 (by omega))
  have hb8 := kb hg120 hb8 (by omega)
  have hA112 := row_fresh hA112 hg120 (Nat.le_trans (Nat.le_refl _) (by omega))
  clear hb116
  have hb116 : w118.heap[n106]? = some (.cells (refsC X101).toArray 53 (0, 0)) := hb119; clear hb119
  have hl122 := bl hb116
  refine oA rfl (oZ (tN (hK100 _ _ (sk fun K123 hK123 => (sk fun K124 hK124 => ?_)))))
  refine wpF_draw [Is (NI 0), Is (.bool (true)), Is (.bool (true)), Is (NI 0), Is (.bool (false)), Is (.bool (false)), Is (.agg (refsC X101).toArray), fun x w' => ∃ v, x = .agg (refsC (X101.1, v)).toArray ∧ RefsAt w' (X101.1, v), Is (.agg (refsC y).toArray), Is (.bool (true)), Is (.bool (false)), Is (.bool (false)), Is (.bool (false))] (by kernel_rfl) [32, 33, 34, 35, 36, 37, 38, 39, 40, 41, 42, 43, 44] (by kernel_rfl) (by kernel_rfl) (si7 ⟨(fun _ _ _ ⟨v, h1, h2⟩ k => ⟨v, h1, h2.keep k⟩), (si5 trivial)⟩) ?hs2005 ?hQ2005
  case hs2005 =>
   refine ⟨?_, ?_, ?_, ?_, ?_, ?_, ?_, ?_, ?_, ?_, ?_, ?_, ?_, trivial⟩
   ·refine stepN rfl fun σ w1 hC h => ?_
    have e6 : σ 6 = NI 0 := (eqo (h 6 (by decide))).trans rfl
    exact Yk.move e6 ⟨Ext.refl _, rfl⟩
   ·refine stepN rfl fun σ w1 hC h => ?_
    have e32 := eqo (h 32 (by decide))
    exact Yk.eqI (a := (0 : Nat)) (b := (0 : Nat)) e32 rfl (k_eql _ _ _ _) ⟨Ext.refl _, (congrArg Value.bool (decide_eq_true (rfl)))⟩
   ·refine stepN rfl fun σ w1 hC h => ?_
    have e33 := eqo (h 33 (by decide))
    exact Yk.move e33 ⟨Ext.refl _, rfl⟩
   ·refine stepY 2 true 34 rfl rfl (fun _ _ h => h) fun σ w1 hC h => ?_
    have e8 : σ 8 = NI 0 := (eqo (h 8 (by decide))).trans rfl
    exact Yk.move e8 ⟨Ext.refl _, rfl⟩
   ·refine stepY 2 true 34 rfl rfl (fun _ _ h => h) fun σ w1 hC h => ?_
    have e35 := eqo (h 35 (by decide))
    exact Yk.eqI (a := (0 : Nat)) (b := (0 : Nat)) e35 rfl (k_neq _ _ _ _) ⟨Ext.refl _, (congrArg Value.bool (decide_eq_false (fun h => h rfl)))⟩
   ·refine stepY 2 true 34 rfl rfl (fun _ _ h => h) fun σ w1 hC h => ?_
    have e36 := eqo (h 36 (by decide))
    exact Yk.move e36 ⟨Ext.refl _, rfl⟩
   ·refine stepY 5 false 37 rfl rfl (fun _ _ h => h) fun σ w1 hC h => ?_
    have e7 : σ 7 = PQ n106 0 := (eqo (h 7 (by decide))).trans rfl
    exact Yk.loadAll e7 (eb hC hb116) (wr62_ty53).choose_spec rfl (st_isz (refs_len X101) wr62_isz53) ⟨Ext.refl _, rfl⟩
   ·refine stepY 5 false 37 rfl rfl (fun _ _ h => h) fun σ w1 hC h => ?_
    have e38 := eqo (h 38 (by decide))
    refine Yk.callA1 wr62_pl30 e38 ((of20_any _ X101 (hX101.keep (hA112.trans hC)) (by rw [hm101]; exact hc)).mono ?_)
    rintro e w2 ⟨v, rfl, hR, hx⟩
    exact ⟨_, rfl, hx, v, rfl, hR⟩
   ·refine stepY 5 false 37 rfl rfl (fun _ _ h => h) fun σ w1 hC h => ?_
    have e2 : σ 2 = PQ n2 0 := (eqo (h 2 (by decide))).trans rfl
    exact Yk.loadAll e2 (eb hC hb8) (wr62_ty49).choose_spec rfl (st_isz (refs_len y) wr62_isz49) ⟨Ext.refl _, rfl⟩
   ·refine stepY 5 false 37 rfl rfl (fun _ _ h => h) fun σ w1 hC h => ?_
    have e39 : (fun x w' => ∃ v, x = .agg (refsC (X101.1, v)).toArray ∧ RefsAt w' (X101.1, v)) (σ 39) w1 := h 39 (by decide)
    have e40 := eqo (h 40 (by decide))
    obtain ⟨q, hqe, hq⟩ := e39
    refine Yk.callA2 wr62_pl29 hqe e40 ((same20_true _ (X101.1, q) y hq (RefsAt.mk (hmt.keep (hE.trans hC)) (hmg.keep (hE.trans hC)) (hml.keep (hE.trans hC))) (show y.1 = X101.1 from hm101.symm) (by show RefsLt X101.1; rw [hm101]; exact hL)).mono ?_)
    rintro e w2 ⟨rfl, hx⟩
    exact ⟨_, rfl, hx, rfl⟩
   ·refine stepY 5 false 37 rfl rfl (fun _ _ h => h) fun σ w1 hC h => ?_
    have e41 := eqo (h 41 (by decide))
    exact Yk.notB e41 ⟨Ext.refl _, rfl⟩
   ·refine stepY 2 true 34 rfl rfl (fun _ _ h => h) fun σ w1 hC h => ?_
    have e37 := eqo (h 37 (by decide))
    have e42 := eqo (h 42 (by decide))
    exact Yk.pickF e37 e42 ⟨Ext.refl _, rfl⟩
   ·refine stepN rfl fun σ w1 hC h => ?_
    have e34 := eqo (h 34 (by decide))
    have e43 := eqo (h 43 (by decide))
    exact Yk.pickT e34 e43 ⟨Ext.refl _, rfl⟩
  intro ρ125 w126 hx127 he hf
  obtain ⟨-, -, -, -, -, -, -, -, -, -, -, -, k44, -⟩ := hf
  obtain ⟨T0, T1, T2, T4, T5, T6, T7, T8, -⟩ := he.hold [(0, _), (1, _), (2, PQ n2 0), (4, .bool (false)), (5, v96), (6, NI 0), (7, PQ n106 0), (8, NI 0)] ⟨T0, T1, rfl, rfl, rfl, rfl, rfl, rfl, trivial⟩ rfl
  clear he
  have hE := hE.trans hx127
  have hb8 := eb hx127 hb8
  have hA112 := hA112.trans hx127
  have hb116 := eb hx127 hb116
  have T44 : ρ125 44 = .bool (false) := k44
  clear k44
  refine tN (hK124 _ _ (wpF_false T44 (wpF_skip (tN (hK123 _ _ (sk fun K128 hK128 => (wt (oM rfl (oS rfl (Yk.callA1 wr62_pl46 T1 ((decodeR_all _ vb (b) (hrb.keep hE) (by omega)).mono ?_)))))))))))
  rintro e w130 ⟨X129, c129, rfl, hX129, hd129, hx129⟩
  refine ⟨_, rfl, ?_⟩
  have hE := hE.trans hx129
  have hb8 := eb hx129 hb8
  have hA112 := hA112.trans hx129
  have hb116 := eb hx129 hb116
  have hr131 : RG 33 nmdC w130 X129.2.branches X129.1.branches := hX129.branches
  have hr132 : RG 33 nmdC w130 X129.2.tags X129.1.tags := hX129.tags
  have hr133 : RG 67 entC w130 X129.2.log X129.1.log := hX129.log
  rw [show decR _ = _ from hD] at hd129
  obtain ⟨hc129, hm129⟩ := hd129
  subst hc129
  refine oM rfl (oS rfl (Yk.extract (vs := [.agg (refsC X129).toArray, NI 6]) (vr (.tuple #[.agg (refsC X129).toArray, NI 6]) rfl) (show _ = some (.agg (refsC X129).toArray : Value) from rfl) (oS rfl (Yk.extract (vs := [.agg (refsC X129).toArray, NI 6]) (vr (.tuple #[.agg (refsC X129).toArray, NI 6]) rfl) (show _ = some (NI 6 : Value) from rfl) (oS rfl (Yk.alloc (cs := (refsC ((⟨[], [], [], zid, []⟩, ⟨.slice none 0 0, .slice none 0 0, .slice none 0 0⟩) : RefsV)).toArray) wr62_al53 fun n134 w135 hn136 hb137 hx138 hs139 => ?_))))))
  have hA140 := Ext.refl w130
  have hea141 := hE
  have hea142 := hA112
  have hz143 := hE.size
  have hz144 := hA112.size
  have hlt145 := lte (bl hb8) hn136
  have hlt146 := lte (bl hb116) hn136
  have hE := hE.trans hx138
  have hb8 := eb hx138 hb8
  have hA112 := hA112.trans hx138
  have hb116 := eb hx138 hb116
  have hA140 := hA140.trans hx138
  have hb147 := hb137; clear hb137
  have hl148 : n134 < w135.heap.size := by omega
  refine oS rfl (Yk.storeAll (vr (PQ n134 0) rfl) (vr (.agg (refsC X129).toArray) rfl) hb147 (by simp only [List.size_toArray, refs_len]) (st_isz (refs_len _) wr62_isz53) (refs_one (x := X129) (RG.one (hr131.keep hA140)).2 (RG.one (hr132.keep hA140)).2 (RG.one (hr133.keep hA140)).2) fun w149 hb150 hg151 hs152 => ?_)
  have hE := row_fresh hE hg151 (Nat.le_trans hz143 (by omega))
  have hb8 := kb hg151 hb8 (by omega)
  have hA112 := row_fresh hA112 hg151 (Nat.le_trans hz144 (by omega))
  have hb116 := kb hg151 hb116 (by omega)
  have hA140 := row_fresh hA140 hg151 (Nat.le_trans (Nat.le_refl _) (by omega))
  clear hb147
  have hb147 : w149.heap[n134]? = some (.cells (refsC X129).toArray 53 (0, 0)) := hb150; clear hb150
  have hl153 := bl hb147
  refine oA rfl (oZ (tN (hK128 _ _ (sk fun K154 hK154 => (wt (oS rfl (Yk.loadAll (vr (PQ n134 0) rfl) hb147 (wr62_ty53).choose_spec rfl (st_isz (refs_len X129) wr62_isz53) (oS rfl (Yk.callA1 wr62_pl45 (vr (.agg (refsC X129).toArray) rfl) ((encodeR_no _ X129 (hX129.keep hA140) (by rw [hm129]; exact zeroR_lt) (by rw [hm129]; exact zeroR_not)).mono ?_))))))))))
  rintro e w158 ⟨v155, rfl, hr156, hx157⟩
  refine ⟨_, rfl, ?_⟩
  have hE := hE.trans hx157
  have hb8 := eb hx157 hb8
  have hA112 := hA112.trans hx157
  have hb116 := eb hx157 hb116
  have hA140 := hA140.trans hx157
  have hb147 := eb hx157 hb147
  refine oM rfl (oS rfl (Yk.extract (vs := [v155, NI 1]) (vr (.tuple #[v155, NI 1]) rfl) (show _ = some (v155 : Value) from rfl) (oS rfl (Yk.extract (vs := [v155, NI 1]) (vr (.tuple #[v155, NI 1]) rfl) (show _ = some (NI 1 : Value) from rfl) (oA rfl (oA rfl (oZ (tN (hK154 _ _ (sk fun K159 hK159 => (wt (oM rfl (oS rfl (Yk.eqI (a := (6 : Nat)) (b := (0 : Nat)) rfl rfl (k_neq _ _ _ _) (oM rfl (oN (d := 57) rfl rfl rfl (vr (.bool (true)) (congrArg Value.bool (decide_eq_true (by decide)))) rfl (oN (d := 57) rfl rfl rfl (vr (.bool (true)) (congrArg Value.bool (decide_eq_true (by decide)))) rfl (oN (d := 57) rfl rfl rfl (vr (.bool (true)) (congrArg Value.bool (decide_eq_true (by decide)))) rfl (opsF_offU (d := 60) rfl rfl rfl (vr undef rfl) ?_)))))))))))))))))))
  refine opsF_offU (d := 60) rfl rfl rfl (vr undef rfl) (opsF_offU (d := 60) rfl rfl rfl (vr undef rfl) (opsF_offU (d := 60) rfl rfl rfl (vr undef rfl) (opsF_offU (d := 60) rfl rfl rfl (vr undef rfl) (oN (d := 57) rfl rfl rfl (vr (.bool (true)) (congrArg Value.bool (decide_eq_true (by decide)))) rfl (oS rfl (Yk.pickT (vr (.bool (true)) (congrArg Value.bool (decide_eq_true (by decide)))) (vr (.bool (true)) rfl) (oM rfl (oY (d := 68) rfl rfl (vr (.bool (true)) rfl) (Yk.callA0 wr62_pl35  ((awake20 _).mono ?_))))))))))
  rintro e w161 ⟨rfl, hx160⟩
  refine ⟨_, rfl, ?_⟩
  have hE := hE.trans hx160
  have hb8 := eb hx160 hb8
  have hA112 := hA112.trans hx160
  have hb116 := eb hx160 hb116
  have hA140 := hA140.trans hx160
  have hb147 := eb hx160 hb147
  have hr156 := hr156.keep hx160
  refine oS rfl (Yk.pickT (vr (.bool (true)) rfl) (vr (.bool (true)) rfl) (oA rfl (oZ (tN (hK159 _ _ (wpF_ret (postF_ret (fn := Tryd.f14) _ rfl [.bool (true)] (.bool (true)) rfl ⟨rfl, trivial⟩ ?_)))))))
  exact ⟨rfl, hE⟩
 obtain ⟨hRm, hem⟩ := decR_back hD
 cases hR : rightF y.1
 ·refine wpF_skip (tN (hK10 _ _ (sk fun K162 hK162 => (wt (oS rfl (Yk.loadAll (vr (PQ n2 0) rfl) hb8 (wr62_ty49).choose_spec rfl (st_isz (refs_len y) wr62_isz49) (oS rfl (Yk.callA1 wr62_pl27 (vr (.agg (refsC y).toArray) rfl) ((told20_any _ y (RefsAt.mk (hmt.keep hE) (hmg.keep hE) (hml.keep hE)) hc).mono ?_)))))))))
  rintro e w166 ⟨v163, rfl, hp164, hx165⟩
  refine ⟨_, rfl, ?_⟩
  have hE := hE.trans hx165
  have hb8 := eb hx165 hb8
  refine oS rfl (Yk.callA1 wr62_pl45 (vr (.agg (refsC (y.1, v163)).toArray) rfl) ((encodeR_no _ (y.1, v163) hp164 hL hR).mono ?_))
  rintro e w170 ⟨v167, rfl, hr168, hx169⟩
  refine ⟨_, rfl, ?_⟩
  have hE := hE.trans hx169
  have hb8 := eb hx169 hb8
  have hp164 := hp164.keep hx169
  refine oM rfl (oS rfl (Yk.extract (vs := [v167, NI 1]) (vr (.tuple #[v167, NI 1]) rfl) (show _ = some (v167 : Value) from rfl) (oS rfl (Yk.extract (vs := [v167, NI 1]) (vr (.tuple #[v167, NI 1]) rfl) (show _ = some (NI 1 : Value) from rfl) (oA rfl (oA rfl (oZ (tN (hK162 _ _ (sk fun K171 hK171 => (wt (oM rfl (oS rfl (Yk.callA1 wr62_pl46 (vr v167 rfl) ((decodeR_all _ v167 (([] : List UInt8)) hr168 (by decide)).mono ?_)))))))))))))))
  rintro e w173 ⟨X172, c172, rfl, hX172, hd172, hx172⟩
  refine ⟨_, rfl, ?_⟩
  have hE := hE.trans hx172
  have hb8 := eb hx172 hb8
  have hp164 := hp164.keep hx172
  have hr168 := hr168.keep hx172
  have hr174 : RG 33 nmdC w173 X172.2.branches X172.1.branches := hX172.branches
  have hr175 : RG 33 nmdC w173 X172.2.tags X172.1.tags := hX172.tags
  have hr176 : RG 67 entC w173 X172.2.log X172.1.log := hX172.log
  rw [show decR _ = _ from decR_nil] at hd172
  obtain ⟨hc172, hm172⟩ := hd172
  subst hc172
  refine oM rfl (oS rfl (Yk.extract (vs := [.agg (refsC X172).toArray, NI 6]) (vr (.tuple #[.agg (refsC X172).toArray, NI 6]) rfl) (show _ = some (.agg (refsC X172).toArray : Value) from rfl) (oS rfl (Yk.extract (vs := [.agg (refsC X172).toArray, NI 6]) (vr (.tuple #[.agg (refsC X172).toArray, NI 6]) rfl) (show _ = some (NI 6 : Value) from rfl) (oS rfl (Yk.alloc (cs := (refsC ((⟨[], [], [], zid, []⟩, ⟨.slice none 0 0, .slice none 0 0, .slice none 0 0⟩) : RefsV)).toArray) wr62_al53 fun n177 w178 hn179 hb180 hx181 hs182 => ?_))))))
  have hA183 := Ext.refl w173
  have hea184 := hE
  have hz185 := hE.size
  have hlt186 := lte (bl hb8) hn179
  have hE := hE.trans hx181
  have hb8 := eb hx181 hb8
  have hA183 := hA183.trans hx181
  have hb187 := hb180; clear hb180
  have hl188 : n177 < w178.heap.size := by omega
  refine oS rfl (Yk.storeAll (vr (PQ n177 0) rfl) (vr (.agg (refsC X172).toArray) rfl) hb187 (by simp only [List.size_toArray, refs_len]) (st_isz (refs_len _) wr62_isz53) (refs_one (x := X172) (RG.one (hr174.keep hA183)).2 (RG.one (hr175.keep hA183)).2 (RG.one (hr176.keep hA183)).2) fun w189 hb190 hg191 hs192 => ?_)
  have hE := row_fresh hE hg191 (Nat.le_trans hz185 (by omega))
  have hb8 := kb hg191 hb8 (by omega)
  have hA183 := row_fresh hA183 hg191 (Nat.le_trans (Nat.le_refl _) (by omega))
  clear hb187
  have hb187 : w189.heap[n177]? = some (.cells (refsC X172).toArray 53 (0, 0)) := hb190; clear hb190
  have hl193 := bl hb187
  refine oA rfl (oZ (tN (hK171 _ _ (sk fun K194 hK194 => (sk fun K195 hK195 => ?_)))))
  refine wpF_draw [Is (NI 1), Is (.bool (false)), Is (.bool (false)), Is undef, Is undef, Is undef, Is undef, Is undef, Is undef, Is undef, Is undef, Is undef, Is (.bool (false))] (by kernel_rfl) [32, 33, 34, 35, 36, 37, 38, 39, 40, 41, 42, 43, 44] (by kernel_rfl) (by kernel_rfl) ⟨Stab.is _, (si12 trivial)⟩ ?hs3005 ?hQ3005
  case hs3005 =>
   refine ⟨?_, ?_, ?_, ?_, ?_, ?_, ?_, ?_, ?_, ?_, ?_, ?_, ?_, trivial⟩
   ·refine stepN rfl fun σ w1 hC h => ?_
    have e6 : σ 6 = NI 1 := (eqo (h 6 (by decide))).trans rfl
    exact Yk.move e6 ⟨Ext.refl _, rfl⟩
   ·refine stepN rfl fun σ w1 hC h => ?_
    have e32 := eqo (h 32 (by decide))
    exact Yk.eqI (a := (1 : Nat)) (b := (0 : Nat)) e32 rfl (k_eql _ _ _ _) ⟨Ext.refl _, (congrArg Value.bool (decide_eq_false (by decide)))⟩
   ·refine stepN rfl fun σ w1 hC h => ?_
    have e33 := eqo (h 33 (by decide))
    exact Yk.move e33 ⟨Ext.refl _, rfl⟩
   ·refine stepX 2 true 34 rfl rfl (fun x _ (h : x = .bool false) => by rw [h]; intro h; cases h) fun _ => rfl
   ·refine stepX 2 true 34 rfl rfl (fun x _ (h : x = .bool false) => by rw [h]; intro h; cases h) fun _ => rfl
   ·refine stepX 2 true 34 rfl rfl (fun x _ (h : x = .bool false) => by rw [h]; intro h; cases h) fun _ => rfl
   ·refine stepX 5 false 37 rfl rfl (fun x _ (h : x = undef) => by rw [h]; intro h; cases h) fun _ => rfl
   ·refine stepX 5 false 37 rfl rfl (fun x _ (h : x = undef) => by rw [h]; intro h; cases h) fun _ => rfl
   ·refine stepX 5 false 37 rfl rfl (fun x _ (h : x = undef) => by rw [h]; intro h; cases h) fun _ => rfl
   ·refine stepX 5 false 37 rfl rfl (fun x _ (h : x = undef) => by rw [h]; intro h; cases h) fun _ => rfl
   ·refine stepX 5 false 37 rfl rfl (fun x _ (h : x = undef) => by rw [h]; intro h; cases h) fun _ => rfl
   ·refine stepX 2 true 34 rfl rfl (fun x _ (h : x = .bool false) => by rw [h]; intro h; cases h) fun _ => rfl
   ·refine stepN rfl fun σ w1 hC h => ?_
    have e34 := eqo (h 34 (by decide))
    exact Yk.pickF e34 (vr (.bool (false)) rfl) ⟨Ext.refl _, rfl⟩
  intro ρ196 w197 hx198 he hf
  obtain ⟨-, -, -, -, -, -, -, -, -, -, -, -, k44, -⟩ := hf
  obtain ⟨T0, T1, T2, T4, T5, T6, T7, T8, -⟩ := he.hold [(0, _), (1, _), (2, PQ n2 0), (4, .bool (false)), (5, v167), (6, NI 1), (7, PQ n177 0), (8, NI 6)] ⟨T0, T1, rfl, rfl, rfl, rfl, rfl, rfl, trivial⟩ rfl
  clear he
  have hE := hE.trans hx198
  have hb8 := eb hx198 hb8
  have hA183 := hA183.trans hx198
  have hb187 := eb hx198 hb187
  have T44 : ρ196 44 = .bool (false) := k44
  clear k44
  refine tN (hK195 _ _ (wpF_false T44 (wpF_skip (tN (hK194 _ _ (sk fun K199 hK199 => (wt (oM rfl (oS rfl (Yk.callA1 wr62_pl46 T1 ((decodeR_all _ vb (b) (hrb.keep hE) (by omega)).mono ?_)))))))))))
  rintro e w201 ⟨X200, c200, rfl, hX200, hd200, hx200⟩
  refine ⟨_, rfl, ?_⟩
  have hE := hE.trans hx200
  have hb8 := eb hx200 hb8
  have hA183 := hA183.trans hx200
  have hb187 := eb hx200 hb187
  have hr202 : RG 33 nmdC w201 X200.2.branches X200.1.branches := hX200.branches
  have hr203 : RG 33 nmdC w201 X200.2.tags X200.1.tags := hX200.tags
  have hr204 : RG 67 entC w201 X200.2.log X200.1.log := hX200.log
  rw [show decR _ = _ from hD] at hd200
  obtain ⟨hc200, hm200⟩ := hd200
  subst hc200
  refine oM rfl (oS rfl (Yk.extract (vs := [.agg (refsC X200).toArray, NI 0]) (vr (.tuple #[.agg (refsC X200).toArray, NI 0]) rfl) (show _ = some (.agg (refsC X200).toArray : Value) from rfl) (oS rfl (Yk.extract (vs := [.agg (refsC X200).toArray, NI 0]) (vr (.tuple #[.agg (refsC X200).toArray, NI 0]) rfl) (show _ = some (NI 0 : Value) from rfl) (oS rfl (Yk.alloc (cs := (refsC ((⟨[], [], [], zid, []⟩, ⟨.slice none 0 0, .slice none 0 0, .slice none 0 0⟩) : RefsV)).toArray) wr62_al53 fun n205 w206 hn207 hb208 hx209 hs210 => ?_))))))
  have hA211 := Ext.refl w201
  have hea212 := hE
  have hea213 := hA183
  have hz214 := hE.size
  have hz215 := hA183.size
  have hlt216 := lte (bl hb8) hn207
  have hlt217 := lte (bl hb187) hn207
  have hE := hE.trans hx209
  have hb8 := eb hx209 hb8
  have hA183 := hA183.trans hx209
  have hb187 := eb hx209 hb187
  have hA211 := hA211.trans hx209
  have hb218 := hb208; clear hb208
  have hl219 : n205 < w206.heap.size := by omega
  refine oS rfl (Yk.storeAll (vr (PQ n205 0) rfl) (vr (.agg (refsC X200).toArray) rfl) hb218 (by simp only [List.size_toArray, refs_len]) (st_isz (refs_len _) wr62_isz53) (refs_one (x := X200) (RG.one (hr202.keep hA211)).2 (RG.one (hr203.keep hA211)).2 (RG.one (hr204.keep hA211)).2) fun w220 hb221 hg222 hs223 => ?_)
  have hE := row_fresh hE hg222 (Nat.le_trans hz214 (by omega))
  have hb8 := kb hg222 hb8 (by omega)
  have hA183 := row_fresh hA183 hg222 (Nat.le_trans hz215 (by omega))
  have hb187 := kb hg222 hb187 (by omega)
  have hA211 := row_fresh hA211 hg222 (Nat.le_trans (Nat.le_refl _) (by omega))
  clear hb218
  have hb218 : w220.heap[n205]? = some (.cells (refsC X200).toArray 53 (0, 0)) := hb221; clear hb221
  have hl224 := bl hb218
  refine oA rfl (oZ (tN (hK199 _ _ (sk fun K225 hK225 => (wt (oS rfl (Yk.loadAll (vr (PQ n205 0) rfl) hb218 (wr62_ty53).choose_spec rfl (st_isz (refs_len X200) wr62_isz53) (oS rfl (Yk.callA1 wr62_pl45 (vr (.agg (refsC X200).toArray) rfl) ((encodeR_yes _ X200 (hX200.keep hA211) (by rw [hm200]; exact right_lt hRm) (by rw [hm200]; exact hRm)).mono ?_))))))))))
  rintro e w229 ⟨v226, rfl, hr227, hx228⟩
  refine ⟨_, rfl, ?_⟩
  have hE := hE.trans hx228
  have hb8 := eb hx228 hb8
  have hA183 := hA183.trans hx228
  have hb187 := eb hx228 hb187
  have hA211 := hA211.trans hx228
  have hb218 := eb hx228 hb218
  refine oM rfl (oS rfl (Yk.extract (vs := [v226, NI 0]) (vr (.tuple #[v226, NI 0]) rfl) (show _ = some (v226 : Value) from rfl) (oS rfl (Yk.extract (vs := [v226, NI 0]) (vr (.tuple #[v226, NI 0]) rfl) (show _ = some (NI 0 : Value) from rfl) (oA rfl (oA rfl (oZ (tN (hK225 _ _ (sk fun K230 hK230 => (wt (oM rfl (oS rfl (Yk.eqI (a := (0 : Nat)) (b := (0 : Nat)) rfl rfl (k_neq _ _ _ _) (oM rfl (oY (d := 57) rfl rfl (vr (.bool (false)) (congrArg Value.bool (decide_eq_false (fun h => h rfl)))) (Yk.move (vr (NI 0) rfl) (oY (d := 57) rfl rfl (vr (.bool (false)) (congrArg Value.bool (decide_eq_false (fun h => h rfl)))) (Yk.eqI (a := (0 : Nat)) (b := (0 : Nat)) rfl rfl (k_eql _ _ _ _) (oY (d := 57) rfl rfl (vr (.bool (false)) (congrArg Value.bool (decide_eq_false (fun h => h rfl)))) (Yk.move (vr (.bool (true)) (congrArg Value.bool (decide_eq_true (rfl)))) (oY (d := 60) rfl rfl (vr (.bool (true)) rfl) (Yk.move (vr v226 rfl) ?_)))))))))))))))))))))))
  refine oY (d := 60) rfl rfl (vr (.bool (true)) rfl) (Yk.convRB wr62_ty26 wr62_ty5 wr62_ty9 (RB.of hr227 (vr v226 rfl)) (oY (d := 60) rfl rfl (vr (.bool (true)) rfl) (Yk.move T1 (oY (d := 60) rfl rfl (vr (.bool (true)) rfl) (Yk.convRB wr62_ty26 wr62_ty5 wr62_ty9 (RB.of (hrb.keep hE) (vr vb rfl)) (oY (d := 60) rfl rfl (vr (.bool (true)) rfl) (Yk.eqSt (l := encR X200.1) (m := b) (.inl rfl) (vr (St (encR X200.1)) rfl) (vr (St (b)) rfl) (decide ((encR X200.1 : List UInt8) = b)) rfl (oY (d := 57) rfl rfl (vr (.bool (false)) (congrArg Value.bool (decide_eq_false (fun h => h rfl)))) (Yk.pickT (vr (.bool (true)) rfl) (vr (.bool (true)) (congrArg Value.bool (decide_eq_true (by rw [hm200]; exact hem)))) (oS rfl (Yk.pickF (vr (.bool (false)) (congrArg Value.bool (decide_eq_false (fun h => h rfl)))) (vr (.bool (true)) rfl) (oM rfl (oY (d := 68) rfl rfl (vr (.bool (true)) rfl) (Yk.callA0 wr62_pl35  ((awake20 _).mono ?_)))))))))))))))
  rintro e w232 ⟨rfl, hx231⟩
  refine ⟨_, rfl, ?_⟩
  have hE := hE.trans hx231
  have hb8 := eb hx231 hb8
  have hA183 := hA183.trans hx231
  have hb187 := eb hx231 hb187
  have hA211 := hA211.trans hx231
  have hb218 := eb hx231 hb218
  have hr227 := hr227.keep hx231
  refine oS rfl (Yk.pickT (vr (.bool (true)) rfl) (vr (.bool (true)) rfl) (oA rfl (oZ (tN (hK230 _ _ (wpF_ret (postF_ret (fn := Tryd.f14) _ rfl [.bool (true)] (.bool (true)) rfl ⟨rfl, trivial⟩ ?_)))))))
  exact ⟨rfl, hE⟩
 refine wpF_skip (tN (hK10 _ _ (sk fun K233 hK233 => (wt (oS rfl (Yk.loadAll (vr (PQ n2 0) rfl) hb8 (wr62_ty49).choose_spec rfl (st_isz (refs_len y) wr62_isz49) (oS rfl (Yk.callA1 wr62_pl27 (vr (.agg (refsC y).toArray) rfl) ((told20_any _ y (RefsAt.mk (hmt.keep hE) (hmg.keep hE) (hml.keep hE)) hc).mono ?_)))))))))
 rintro e w237 ⟨v234, rfl, hp235, hx236⟩
 refine ⟨_, rfl, ?_⟩
 have hE := hE.trans hx236
 have hb8 := eb hx236 hb8
 refine oS rfl (Yk.callA1 wr62_pl45 (vr (.agg (refsC (y.1, v234)).toArray) rfl) ((encodeR_yes _ (y.1, v234) hp235 hL hR).mono ?_))
 rintro e w241 ⟨v238, rfl, hr239, hx240⟩
 refine ⟨_, rfl, ?_⟩
 have hE := hE.trans hx240
 have hb8 := eb hx240 hb8
 have hp235 := hp235.keep hx240
 refine oM rfl (oS rfl (Yk.extract (vs := [v238, NI 0]) (vr (.tuple #[v238, NI 0]) rfl) (show _ = some (v238 : Value) from rfl) (oS rfl (Yk.extract (vs := [v238, NI 0]) (vr (.tuple #[v238, NI 0]) rfl) (show _ = some (NI 0 : Value) from rfl) (oA rfl (oA rfl (oZ (tN (hK233 _ _ (sk fun K242 hK242 => (wt (oM rfl (oS rfl (Yk.callA1 wr62_pl46 (vr v238 rfl) ((decodeR_all _ v238 (encR y.1) hr239 (by have := encR_len hR; omega)).mono ?_)))))))))))))))
 rintro e w244 ⟨X243, c243, rfl, hX243, hd243, hx243⟩
 refine ⟨_, rfl, ?_⟩
 have hE := hE.trans hx243
 have hb8 := eb hx243 hb8
 have hp235 := hp235.keep hx243
 have hr239 := hr239.keep hx243
 have hr245 : RG 33 nmdC w244 X243.2.branches X243.1.branches := hX243.branches
 have hr246 : RG 33 nmdC w244 X243.2.tags X243.1.tags := hX243.tags
 have hr247 : RG 67 entC w244 X243.2.log X243.1.log := hX243.log
 rw [show decR _ = _ from (decR_enc hR)] at hd243
 obtain ⟨hc243, hm243⟩ := hd243
 subst hc243
 refine oM rfl (oS rfl (Yk.extract (vs := [.agg (refsC X243).toArray, NI 0]) (vr (.tuple #[.agg (refsC X243).toArray, NI 0]) rfl) (show _ = some (.agg (refsC X243).toArray : Value) from rfl) (oS rfl (Yk.extract (vs := [.agg (refsC X243).toArray, NI 0]) (vr (.tuple #[.agg (refsC X243).toArray, NI 0]) rfl) (show _ = some (NI 0 : Value) from rfl) (oS rfl (Yk.alloc (cs := (refsC ((⟨[], [], [], zid, []⟩, ⟨.slice none 0 0, .slice none 0 0, .slice none 0 0⟩) : RefsV)).toArray) wr62_al53 fun n248 w249 hn250 hb251 hx252 hs253 => ?_))))))
 have hA254 := Ext.refl w244
 have hea255 := hE
 have hz256 := hE.size
 have hlt257 := lte (bl hb8) hn250
 have hE := hE.trans hx252
 have hb8 := eb hx252 hb8
 have hA254 := hA254.trans hx252
 have hb258 := hb251; clear hb251
 have hl259 : n248 < w249.heap.size := by omega
 refine oS rfl (Yk.storeAll (vr (PQ n248 0) rfl) (vr (.agg (refsC X243).toArray) rfl) hb258 (by simp only [List.size_toArray, refs_len]) (st_isz (refs_len _) wr62_isz53) (refs_one (x := X243) (RG.one (hr245.keep hA254)).2 (RG.one (hr246.keep hA254)).2 (RG.one (hr247.keep hA254)).2) fun w260 hb261 hg262 hs263 => ?_)
 have hE := row_fresh hE hg262 (Nat.le_trans hz256 (by omega))
 have hb8 := kb hg262 hb8 (by omega)
 have hA254 := row_fresh hA254 hg262 (Nat.le_trans (Nat.le_refl _) (by omega))
 clear hb258
 have hb258 : w260.heap[n248]? = some (.cells (refsC X243).toArray 53 (0, 0)) := hb261; clear hb261
 have hl264 := bl hb258
 refine oA rfl (oZ (tN (hK242 _ _ (sk fun K265 hK265 => (sk fun K266 hK266 => ?_)))))
 refine wpF_draw [Is (NI 0), Is (.bool (true)), Is (.bool (true)), Is (NI 0), Is (.bool (false)), Is (.bool (false)), Is (.agg (refsC X243).toArray), fun x w' => ∃ v, x = .agg (refsC (X243.1, v)).toArray ∧ RefsAt w' (X243.1, v), Is (.agg (refsC y).toArray), Is (.bool (true)), Is (.bool (false)), Is (.bool (false)), Is (.bool (false))] (by kernel_rfl) [32, 33, 34, 35, 36, 37, 38, 39, 40, 41, 42, 43, 44] (by kernel_rfl) (by kernel_rfl) (si7 ⟨(fun _ _ _ ⟨v, h1, h2⟩ k => ⟨v, h1, h2.keep k⟩), (si5 trivial)⟩) ?hs4005 ?hQ4005
 case hs4005 =>
  refine ⟨?_, ?_, ?_, ?_, ?_, ?_, ?_, ?_, ?_, ?_, ?_, ?_, ?_, trivial⟩
  ·refine stepN rfl fun σ w1 hC h => ?_
   have e6 : σ 6 = NI 0 := (eqo (h 6 (by decide))).trans rfl
   exact Yk.move e6 ⟨Ext.refl _, rfl⟩
  ·refine stepN rfl fun σ w1 hC h => ?_
   have e32 := eqo (h 32 (by decide))
   exact Yk.eqI (a := (0 : Nat)) (b := (0 : Nat)) e32 rfl (k_eql _ _ _ _) ⟨Ext.refl _, (congrArg Value.bool (decide_eq_true (rfl)))⟩
  ·refine stepN rfl fun σ w1 hC h => ?_
   have e33 := eqo (h 33 (by decide))
   exact Yk.move e33 ⟨Ext.refl _, rfl⟩
  ·refine stepY 2 true 34 rfl rfl (fun _ _ h => h) fun σ w1 hC h => ?_
   have e8 : σ 8 = NI 0 := (eqo (h 8 (by decide))).trans rfl
   exact Yk.move e8 ⟨Ext.refl _, rfl⟩
  ·refine stepY 2 true 34 rfl rfl (fun _ _ h => h) fun σ w1 hC h => ?_
   have e35 := eqo (h 35 (by decide))
   exact Yk.eqI (a := (0 : Nat)) (b := (0 : Nat)) e35 rfl (k_neq _ _ _ _) ⟨Ext.refl _, (congrArg Value.bool (decide_eq_false (fun h => h rfl)))⟩
  ·refine stepY 2 true 34 rfl rfl (fun _ _ h => h) fun σ w1 hC h => ?_
   have e36 := eqo (h 36 (by decide))
   exact Yk.move e36 ⟨Ext.refl _, rfl⟩
  ·refine stepY 5 false 37 rfl rfl (fun _ _ h => h) fun σ w1 hC h => ?_
   have e7 : σ 7 = PQ n248 0 := (eqo (h 7 (by decide))).trans rfl
   exact Yk.loadAll e7 (eb hC hb258) (wr62_ty53).choose_spec rfl (st_isz (refs_len X243) wr62_isz53) ⟨Ext.refl _, rfl⟩
  ·refine stepY 5 false 37 rfl rfl (fun _ _ h => h) fun σ w1 hC h => ?_
   have e38 := eqo (h 38 (by decide))
   refine Yk.callA1 wr62_pl30 e38 ((of20_any _ X243 (hX243.keep (hA254.trans hC)) (by rw [hm243]; exact hc)).mono ?_)
   rintro e w2 ⟨v, rfl, hR, hx⟩
   exact ⟨_, rfl, hx, v, rfl, hR⟩
  ·refine stepY 5 false 37 rfl rfl (fun _ _ h => h) fun σ w1 hC h => ?_
   have e2 : σ 2 = PQ n2 0 := (eqo (h 2 (by decide))).trans rfl
   exact Yk.loadAll e2 (eb hC hb8) (wr62_ty49).choose_spec rfl (st_isz (refs_len y) wr62_isz49) ⟨Ext.refl _, rfl⟩
  ·refine stepY 5 false 37 rfl rfl (fun _ _ h => h) fun σ w1 hC h => ?_
   have e39 : (fun x w' => ∃ v, x = .agg (refsC (X243.1, v)).toArray ∧ RefsAt w' (X243.1, v)) (σ 39) w1 := h 39 (by decide)
   have e40 := eqo (h 40 (by decide))
   obtain ⟨q, hqe, hq⟩ := e39
   refine Yk.callA2 wr62_pl29 hqe e40 ((same20_true _ (X243.1, q) y hq (RefsAt.mk (hmt.keep (hE.trans hC)) (hmg.keep (hE.trans hC)) (hml.keep (hE.trans hC))) (show y.1 = X243.1 from hm243.symm) (by show RefsLt X243.1; rw [hm243]; exact hL)).mono ?_)
   rintro e w2 ⟨rfl, hx⟩
   exact ⟨_, rfl, hx, rfl⟩
  ·refine stepY 5 false 37 rfl rfl (fun _ _ h => h) fun σ w1 hC h => ?_
   have e41 := eqo (h 41 (by decide))
   exact Yk.notB e41 ⟨Ext.refl _, rfl⟩
  ·refine stepY 2 true 34 rfl rfl (fun _ _ h => h) fun σ w1 hC h => ?_
   have e37 := eqo (h 37 (by decide))
   have e42 := eqo (h 42 (by decide))
   exact Yk.pickF e37 e42 ⟨Ext.refl _, rfl⟩
  ·refine stepN rfl fun σ w1 hC h => ?_
   have e34 := eqo (h 34 (by decide))
   have e43 := eqo (h 43 (by decide))
   exact Yk.pickT e34 e43 ⟨Ext.refl _, rfl⟩
 intro ρ267 w268 hx269 he hf
 obtain ⟨-, -, -, -, -, -, -, -, -, -, -, -, k44, -⟩ := hf
 obtain ⟨T0, T1, T2, T4, T5, T6, T7, T8, -⟩ := he.hold [(0, _), (1, _), (2, PQ n2 0), (4, .bool (false)), (5, v238), (6, NI 0), (7, PQ n248 0), (8, NI 0)] ⟨T0, T1, rfl, rfl, rfl, rfl, rfl, rfl, trivial⟩ rfl
 clear he
 have hE := hE.trans hx269
 have hb8 := eb hx269 hb8
 have hA254 := hA254.trans hx269
 have hb258 := eb hx269 hb258
 have T44 : ρ267 44 = .bool (false) := k44
 clear k44
 refine tN (hK266 _ _ (wpF_false T44 (wpF_skip (tN (hK265 _ _ (sk fun K270 hK270 => (wt (oM rfl (oS rfl (Yk.callA1 wr62_pl46 T1 ((decodeR_all _ vb (b) (hrb.keep hE) (by omega)).mono ?_)))))))))))
 rintro e w272 ⟨X271, c271, rfl, hX271, hd271, hx271⟩
 refine ⟨_, rfl, ?_⟩
 have hE := hE.trans hx271
 have hb8 := eb hx271 hb8
 have hA254 := hA254.trans hx271
 have hb258 := eb hx271 hb258
 have hr273 : RG 33 nmdC w272 X271.2.branches X271.1.branches := hX271.branches
 have hr274 : RG 33 nmdC w272 X271.2.tags X271.1.tags := hX271.tags
 have hr275 : RG 67 entC w272 X271.2.log X271.1.log := hX271.log
 rw [show decR _ = _ from hD] at hd271
 obtain ⟨hc271, hm271⟩ := hd271
 subst hc271
 refine oM rfl (oS rfl (Yk.extract (vs := [.agg (refsC X271).toArray, NI 0]) (vr (.tuple #[.agg (refsC X271).toArray, NI 0]) rfl) (show _ = some (.agg (refsC X271).toArray : Value) from rfl) (oS rfl (Yk.extract (vs := [.agg (refsC X271).toArray, NI 0]) (vr (.tuple #[.agg (refsC X271).toArray, NI 0]) rfl) (show _ = some (NI 0 : Value) from rfl) (oS rfl (Yk.alloc (cs := (refsC ((⟨[], [], [], zid, []⟩, ⟨.slice none 0 0, .slice none 0 0, .slice none 0 0⟩) : RefsV)).toArray) wr62_al53 fun n276 w277 hn278 hb279 hx280 hs281 => ?_))))))
 have hA282 := Ext.refl w272
 have hea283 := hE
 have hea284 := hA254
 have hz285 := hE.size
 have hz286 := hA254.size
 have hlt287 := lte (bl hb8) hn278
 have hlt288 := lte (bl hb258) hn278
 have hE := hE.trans hx280
 have hb8 := eb hx280 hb8
 have hA254 := hA254.trans hx280
 have hb258 := eb hx280 hb258
 have hA282 := hA282.trans hx280
 have hb289 := hb279; clear hb279
 have hl290 : n276 < w277.heap.size := by omega
 refine oS rfl (Yk.storeAll (vr (PQ n276 0) rfl) (vr (.agg (refsC X271).toArray) rfl) hb289 (by simp only [List.size_toArray, refs_len]) (st_isz (refs_len _) wr62_isz53) (refs_one (x := X271) (RG.one (hr273.keep hA282)).2 (RG.one (hr274.keep hA282)).2 (RG.one (hr275.keep hA282)).2) fun w291 hb292 hg293 hs294 => ?_)
 have hE := row_fresh hE hg293 (Nat.le_trans hz285 (by omega))
 have hb8 := kb hg293 hb8 (by omega)
 have hA254 := row_fresh hA254 hg293 (Nat.le_trans hz286 (by omega))
 have hb258 := kb hg293 hb258 (by omega)
 have hA282 := row_fresh hA282 hg293 (Nat.le_trans (Nat.le_refl _) (by omega))
 clear hb289
 have hb289 : w291.heap[n276]? = some (.cells (refsC X271).toArray 53 (0, 0)) := hb292; clear hb292
 have hl295 := bl hb289
 refine oA rfl (oZ (tN (hK270 _ _ (sk fun K296 hK296 => (wt (oS rfl (Yk.loadAll (vr (PQ n276 0) rfl) hb289 (wr62_ty53).choose_spec rfl (st_isz (refs_len X271) wr62_isz53) (oS rfl (Yk.callA1 wr62_pl45 (vr (.agg (refsC X271).toArray) rfl) ((encodeR_yes _ X271 (hX271.keep hA282) (by rw [hm271]; exact right_lt hRm) (by rw [hm271]; exact hRm)).mono ?_))))))))))
 rintro e w300 ⟨v297, rfl, hr298, hx299⟩
 refine ⟨_, rfl, ?_⟩
 have hE := hE.trans hx299
 have hb8 := eb hx299 hb8
 have hA254 := hA254.trans hx299
 have hb258 := eb hx299 hb258
 have hA282 := hA282.trans hx299
 have hb289 := eb hx299 hb289
 refine oM rfl (oS rfl (Yk.extract (vs := [v297, NI 0]) (vr (.tuple #[v297, NI 0]) rfl) (show _ = some (v297 : Value) from rfl) (oS rfl (Yk.extract (vs := [v297, NI 0]) (vr (.tuple #[v297, NI 0]) rfl) (show _ = some (NI 0 : Value) from rfl) (oA rfl (oA rfl (oZ (tN (hK296 _ _ (sk fun K301 hK301 => (wt (oM rfl (oS rfl (Yk.eqI (a := (0 : Nat)) (b := (0 : Nat)) rfl rfl (k_neq _ _ _ _) (oM rfl (oY (d := 57) rfl rfl (vr (.bool (false)) (congrArg Value.bool (decide_eq_false (fun h => h rfl)))) (Yk.move (vr (NI 0) rfl) (oY (d := 57) rfl rfl (vr (.bool (false)) (congrArg Value.bool (decide_eq_false (fun h => h rfl)))) (Yk.eqI (a := (0 : Nat)) (b := (0 : Nat)) rfl rfl (k_eql _ _ _ _) (oY (d := 57) rfl rfl (vr (.bool (false)) (congrArg Value.bool (decide_eq_false (fun h => h rfl)))) (Yk.move (vr (.bool (true)) (congrArg Value.bool (decide_eq_true (rfl)))) (oY (d := 60) rfl rfl (vr (.bool (true)) rfl) (Yk.move (vr v297 rfl) ?_)))))))))))))))))))))))
 refine oY (d := 60) rfl rfl (vr (.bool (true)) rfl) (Yk.convRB wr62_ty26 wr62_ty5 wr62_ty9 (RB.of hr298 (vr v297 rfl)) (oY (d := 60) rfl rfl (vr (.bool (true)) rfl) (Yk.move T1 (oY (d := 60) rfl rfl (vr (.bool (true)) rfl) (Yk.convRB wr62_ty26 wr62_ty5 wr62_ty9 (RB.of (hrb.keep hE) (vr vb rfl)) (oY (d := 60) rfl rfl (vr (.bool (true)) rfl) (Yk.eqSt (l := encR X271.1) (m := b) (.inl rfl) (vr (St (encR X271.1)) rfl) (vr (St (b)) rfl) (decide ((encR X271.1 : List UInt8) = b)) rfl (oY (d := 57) rfl rfl (vr (.bool (false)) (congrArg Value.bool (decide_eq_false (fun h => h rfl)))) (Yk.pickT (vr (.bool (true)) rfl) (vr (.bool (true)) (congrArg Value.bool (decide_eq_true (by rw [hm271]; exact hem)))) (oS rfl (Yk.pickF (vr (.bool (false)) (congrArg Value.bool (decide_eq_false (fun h => h rfl)))) (vr (.bool (true)) rfl) (oM rfl (oY (d := 68) rfl rfl (vr (.bool (true)) rfl) (Yk.callA0 wr62_pl35  ((awake20 _).mono ?_)))))))))))))))
 rintro e w303 ⟨rfl, hx302⟩
 refine ⟨_, rfl, ?_⟩
 have hE := hE.trans hx302
 have hb8 := eb hx302 hb8
 have hA254 := hA254.trans hx302
 have hb258 := eb hx302 hb258
 have hA282 := hA282.trans hx302
 have hb289 := eb hx302 hb289
 have hr298 := hr298.keep hx302
 refine oS rfl (Yk.pickT (vr (.bool (true)) rfl) (vr (.bool (true)) rfl) (oA rfl (oZ (tN (hK301 _ _ (wpF_ret (postF_ret (fn := Tryd.f14) _ rfl [.bool (true)] (.bool (true)) rfl ⟨rfl, trivial⟩ ?_)))))))
 exact ⟨rfl, hE⟩
end Go.Proofs.YtmonlobfofkbdaaDoor
