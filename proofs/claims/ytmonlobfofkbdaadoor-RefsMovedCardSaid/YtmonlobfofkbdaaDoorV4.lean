/- Part 4 of what stands behind these statements: laws and walks of the functions that are reached. Conditions: those that each theorem names. -/
import Derived.Test.YtmonlobfofkbdaaDoorV3
set_option linter.unusedVariables false
set_option linter.unusedSimpArgs false
namespace Go.Proofs.YtmonlobfofkbdaaDoor
open Go.RowKit
set_option maxRecDepth 100000
theorem lightR_few {r : Refs} (h : lightR r = true) : r.branches.length ≤ 80 ∧ r.tags.length ≤ 80 ∧ r.log.length ≤ 80 := by
 unfold lightR at h
 simp only [Bool.and_eq_true] at h
 have h1 := h.1
 exact few_of (by simpa using h1)
theorem wr38_ty49 : ∃ fs, Tryd.prog.underlying 49 = some (.struct fs) := struct_of (by kernel_rfl)
theorem wr38_isz49 : (Tryd.prog.info? 49).map (·.size) = some 36 := by kernel_rfl
theorem wr38_pl25 : Plain Tryd.prog 25 := fun _ _ => by kernel_rfl
theorem wr38_fo67_1 : FieldOff Tryd.prog 67 1 1 := fun b o w => by simp [go_sem]
theorem wr38_ty9 : Tryd.prog.underlying 9 = some (.string) := by kernel_rfl
theorem wr38_fo67_0 : FieldOff Tryd.prog 67 0 0 := fun b o w => by simp [go_sem]
theorem wr38_isz5 : (Tryd.prog.info? 5).map (·.size) = some 1 := by kernel_rfl
theorem wr38_pl27 : Plain Tryd.prog 27 := fun _ _ => by kernel_rfl
theorem wr38_ty67 : ∃ fs, Tryd.prog.underlying 67 = some (.struct fs) := struct_of (by kernel_rfl)
theorem wr38_isz67 : (Tryd.prog.info? 67).map (·.size) = some 66 := by kernel_rfl
theorem wr38_lh22 (c0 c1 c2 c3 c4 c5 c6 c7 c8 c9 c10 c11 c12 c13 c14 c15 c16 c17 c18 c19 c20 c21 c22 c23 c24 c25 c26 c27 c28 c29 c30 c31 c32 c33 c34 c35 c36 c37 c38 c39 c40 c41 c42 c43 c44 c45 c46 c47 c48 c49 c50 c51 c52 c53 c54 c55 c56 c57 c58 c59 c60 c61 c62 c63 c64 c65 : Value) (w : World) : (Instr.buildSlice 22 1 #[(0, .agg #[c0, c1, c2, c3, c4, c5, c6, c7, c8, c9, c10, c11, c12, c13, c14, c15, c16, c17, c18, c19, c20, c21, c22, c23, c24, c25, c26, c27, c28, c29, c30, c31, c32, c33, c34, c35, c36, c37, c38, c39, c40, c41, c42, c43, c44, c45, c46, c47, c48, c49, c50, c51, c52, c53, c54, c55, c56, c57, c58, c59, c60, c61, c62, c63, c64, c65])]).run Tryd.prog w = .ok (.slice (some ⟨w.heap.size, 0, none⟩) 1 1) (w.alloc (.cells #[c0, c1, c2, c3, c4, c5, c6, c7, c8, c9, c10, c11, c12, c13, c14, c15, c16, c17, c18, c19, c20, c21, c22, c23, c24, c25, c26, c27, c28, c29, c30, c31, c32, c33, c34, c35, c36, c37, c38, c39, c40, c41, c42, c43, c44, c45, c46, c47, c48, c49, c50, c51, c52, c53, c54, c55, c56, c57, c58, c59, c60, c61, c62, c63, c64, c65] 67)) := by kernel_rfl
theorem wr38_lg22 : ∀ (cs : Array Value), cs.size = 66 → ∀ w : World, (Instr.buildSlice 22 1 #[(0, .agg cs)]).run Tryd.prog w = .ok (.slice (some ⟨w.heap.size, 0, none⟩) 1 1) (w.alloc (.cells cs 67))
 | ⟨c0 :: c1 :: c2 :: c3 :: c4 :: c5 :: c6 :: c7 :: c8 :: c9 :: c10 :: c11 :: c12 :: c13 :: c14 :: c15 :: c16 :: c17 :: c18 :: c19 :: c20 :: c21 :: c22 :: c23 :: c24 :: c25 :: c26 :: c27 :: c28 :: c29 :: c30 :: c31 :: c32 :: c33 :: c34 :: c35 :: c36 :: c37 :: c38 :: c39 :: c40 :: c41 :: c42 :: c43 :: c44 :: c45 :: c46 :: c47 :: c48 :: c49 :: c50 :: c51 :: c52 :: c53 :: c54 :: c55 :: c56 :: c57 :: c58 :: c59 :: c60 :: c61 :: c62 :: c63 :: c64 :: c65 :: []⟩, _, w => wr38_lh22 c0 c1 c2 c3 c4 c5 c6 c7 c8 c9 c10 c11 c12 c13 c14 c15 c16 c17 c18 c19 c20 c21 c22 c23 c24 c25 c26 c27 c28 c29 c30 c31 c32 c33 c34 c35 c36 c37 c38 c39 c40 c41 c42 c43 c44 c45 c46 c47 c48 c49 c50 c51 c52 c53 c54 c55 c56 c57 c58 c59 c60 c61 c62 c63 c64 c65 w
theorem wr38_pl26 : Plain Tryd.prog 26 := fun _ _ => by kernel_rfl
theorem wr38_al53 {d : Option Tmp} {ty : TypeId} {pos : String} {af : Array Edge} {gd : Option (Nat × Bool)} (σ : Operand → Value) (w : World) : (execOp σ ⟨d, .alloc 53, ty, pos, af, gd⟩).run Tryd.prog w = .ok (.value (PQ w.heap.size 0)) (w.alloc (.cells (refsC ((⟨[], [], [], zid, []⟩, ⟨.slice none 0 0, .slice none 0 0, .slice none 0 0⟩) : RefsV)).toArray 53)) := by kernel_rfl
theorem wr38_isz53 : (Tryd.prog.info? 53).map (·.size) = some 36 := by kernel_rfl
theorem wr38_fo53_4 : FieldOff Tryd.prog 53 4 35 := fun b o w => by simp [go_sem]
theorem wr38_ty47 : Tryd.prog.underlying 47 = some (.slice 122) := by kernel_rfl
theorem wr38_pl35 : Plain Tryd.prog 35 := fun _ _ => by kernel_rfl
theorem wr38_al25 {d : Option Tmp} {ty : TypeId} {pos : String} {af : Array Edge} {gd : Option (Nat × Bool)} (σ : Operand → Value) (w : World) : (execOp σ ⟨d, .alloc 25, ty, pos, af, gd⟩).run Tryd.prog w = .ok (.value (PQ w.heap.size 0)) (w.alloc (.cells (Lib.byteCells (List.replicate 32 0)).toArray 25)) := by kernel_rfl
theorem wr38_fo49_0 : FieldOff Tryd.prog 49 0 0 := fun b o w => by simp [go_sem]
theorem wr38_ty46 : Tryd.prog.underlying 46 = some (.slice 69) := by kernel_rfl
theorem wr38_szg69 : ∀ w' : World, (sizeOf 69).run Tryd.prog w' = .ok 33 w' := fun _ => by kernel_rfl
theorem wr38_fo69_0 : FieldOff Tryd.prog 69 0 0 := fun b o w => by simp [go_sem]
theorem wr38_fo69_1 : FieldOff Tryd.prog 69 1 1 := fun b o w => by simp [go_sem]
theorem wr38_ty25 : Tryd.prog.underlying 25 = some (.array 32 5) := by kernel_rfl
theorem wr38_isz25 : (Tryd.prog.info? 25).map (·.size) = some 32 := by kernel_rfl
theorem wr38_fo53_0 : FieldOff Tryd.prog 53 0 0 := fun b o w => by simp [go_sem]
theorem wr38_ty51 : Tryd.prog.underlying 51 = some (.slice 70) := by kernel_rfl
theorem wr38_szg70 : ∀ w' : World, (sizeOf 70).run Tryd.prog w' = .ok 33 w' := fun _ => by kernel_rfl
theorem wr38_fo70_0 : FieldOff Tryd.prog 70 0 0 := fun b o w => by simp [go_sem]
theorem wr38_fo70_1 : FieldOff Tryd.prog 70 1 1 := fun b o w => by simp [go_sem]
theorem wr38_fo67_2 : FieldOff Tryd.prog 67 2 2 := fun b o w => by simp [go_sem]
theorem wr38_eg25 : Tryd.prog.eqGuardType Tryd.prog.depth 25 = false := by kernel_rfl
theorem wr38_ty5 : Tryd.prog.underlying 5 = some (.int .u8) := by kernel_rfl
theorem wr38_sz5 : ∀ w' : World, (sizeOf 5).run Tryd.prog w' = .ok 1 w' := fun _ => by kernel_rfl
theorem wr38_fo67_3 : FieldOff Tryd.prog 67 3 34 := fun b o w => by simp [go_sem]
theorem wr38_fo53_1 : FieldOff Tryd.prog 53 1 1 := fun b o w => by simp [go_sem]
theorem wr38_fo49_1 : FieldOff Tryd.prog 49 1 1 := fun b o w => by simp [go_sem]
theorem wr38_fo53_2 : FieldOff Tryd.prog 53 2 2 := fun b o w => by simp [go_sem]
theorem wr38_fo49_2 : FieldOff Tryd.prog 49 2 2 := fun b o w => by simp [go_sem]
set_option maxHeartbeats 1600000
theorem refsMoved_walk (w : World) (y : RefsV) (hm : RefsAt w y) (hN : NamesLt y.1) (u : Upd) :
  Calls Tryd.prog 9 #[.agg (refsC y).toArray, .agg (updC u).toArray] w fun e w' => e = .returned (.bool true) ∧ Ext w w' := by
 have hmt := hm.branches
 have hmg := hm.tags
 have hml := hm.log
 refine calls_of_wpF (args := [.agg (refsC y).toArray, .agg (updC u).toArray]) Tryd.func9 rfl 113 rfl (Nat.le_of_ble_eq_true rfl) ?_
 intro ρ0 hb
 have T0 : ρ0 0 = (.agg (refsC y).toArray : Value) := hb.get 0
 have T1 : ρ0 1 = (.agg (updC u).toArray : Value) := hb.get 1
 clear hb
 have hE := Ext.refl w
 refine sk fun K1 hK1 => (wt (oS rfl (Yk.box (cs := (refsC y : List Value).toArray) T0 fun n2 w3 hn4 hb5 hx6 hs7 => ?_)))
 have hE := hE.trans hx6
 have hb8 := hb5; clear hb5
 have hl9 : n2 < w3.heap.size := by omega
 refine oS rfl (Yk.box (cs := (updC u : List Value).toArray) T1 fun n10 w11 hn12 hb13 hx14 hs15 => ?_)
 have hA16 := Ext.refl w3
 have hea17 := hE
 have hz18 := hE.size
 have hlt19 := lte (bl hb8) hn12
 have hE := hE.trans hx14
 have hb8 := eb hx14 hb8
 have hA16 := hA16.trans hx14
 have hb20 := hb13; clear hb13
 have hl21 : n10 < w11.heap.size := by omega
 refine oA rfl (oZ (tN (hK1 _ _ (sk fun K22 hK22 => (sk fun K23 hK23 => (wt (oS rfl (Yk.loadAll (vr (PQ n2 0) rfl) hb8 (wr38_ty49).choose_spec rfl (st_isz (refs_len y) wr38_isz49) (oS rfl (Yk.callA1 wr38_pl25 (vr (.agg (refsC y).toArray) rfl) ((light20_any _ y (RefsAt.mk (hmt.keep hE) (hmg.keep hE) (hml.keep hE))).mono ?_)))))))))))
 rintro e w25 ⟨rfl, hx24⟩
 refine ⟨_, rfl, ?_⟩
 have hE := hE.trans hx24
 have hb8 := eb hx24 hb8
 have hA16 := hA16.trans hx24
 have hb20 := eb hx24 hb20
 refine oS rfl (Yk.notB (vr (.bool (lightR y.1)) rfl) (oM rfl (opsF_mayV (PQ n10 1) rfl rfl (gF (vr (.bool (!(lightR y.1))) rfl)) (fun hG26 => Yk.fieldAt wr38_fo67_1 (vr (PQ n10 0) rfl) ⟨rfl, rfl⟩) (opsF_mayV (St (u.name)) rfl rfl (gF (vr (.bool (!(lightR y.1))) rfl)) (fun hG27 => Yk.cell1 wr38_ty9 rfl (mayT (vr (cond (!(!(lightR y.1))) (PQ n10 1) undef) rfl) hG27) (cellAt hb20 (show (updC u)[1]? = some (St (u.name) : Value) from upd_g1 u)) ⟨rfl, rfl⟩) (opsF_mayV (NI ((u.name : List UInt8).length)) rfl rfl (gF (vr (.bool (!(lightR y.1))) rfl)) (fun hG28 => Yk.lenSt (l := u.name) wr38_ty9 (mayT (vr (cond (!(!(lightR y.1))) (St (u.name)) undef) rfl) hG28) ⟨rfl, rfl⟩) (opsF_mayV (.bool (decide ((100) < ((u.name : List UInt8).length)))) rfl rfl (gF (vr (.bool (!(lightR y.1))) rfl)) (fun hG29 => Yk.eqI (a := (((u.name : List UInt8).length : Nat) : Int)) (b := ((100 : Nat) : Int)) (mayT (vr (cond (!(!(lightR y.1))) (NI ((u.name : List UInt8).length)) undef) rfl) hG29) (vr (NI 100) rfl) (k_gtr _ .i64 ((u.name : List UInt8).length) (100)) ⟨rfl, rfl⟩) (oS rfl (Yk.pickOrN (vr (.bool (!(lightR y.1))) rfl) (vr (.bool (true)) rfl) (fun hA => (mayT (vr (cond (!(!(lightR y.1))) (.bool (decide ((100) < ((u.name : List UInt8).length)))) undef) rfl) (not_i hA))) fun bb30 hbb31 => (oZ (tN (hK23 _ _ ?_)))))))))))
 refine wpF_condB (bb30) (vr (.bool (bb30)) rfl) (fun hc0 => ?_) (fun hc0 => ?_)
 ·refine sk fun K32 hK32 => (wt (oA rfl (oZ (tN (hK32 _ _ (wpF_ret (thenF_ret (postF_ret (fn := Tryd.f9) _ rfl [.bool (true)] (.bool (true)) rfl ⟨rfl, trivial⟩ ?_))))))))
  exact ⟨rfl, hE⟩
 subst hbb31
 have h0 : lightR y.1 = true ∧ u.name.length ≤ 100 := by simpa using hc0
 have hc := lightR_few h0.1
 have hL : RefsLt y.1 := lt_of hN hc
 have hul := h0.2
 refine wpF_skip (tN (hK22 _ _ (sk fun K33 hK33 => (wt (oS rfl (Yk.fieldAt wr38_fo67_0 (vr (PQ n10 0) rfl) (oS rfl (Yk.storeC (i := 0) (v := B8 (1)) (vr (PQ n10 0) rfl) (vr (B8 (1)) rfl) hb20 (by rw [upd_len]; decide) wr38_isz5 rfl rfl fun w34 hb35 hg36 hs37 => ?_))))))))
 have hE := row_fresh hE hg36 (Nat.le_trans hz18 (by omega))
 have hb8 := kb hg36 hb8 (by omega)
 have hA16 := row_fresh hA16 hg36 (Nat.le_trans (Nat.le_refl _) (by omega))
 clear hb20
 have hb20 : w34.heap[n10]? = some (.cells (updC (⟨1, u.name, u.old, u.new⟩ : Upd)).toArray 67 (0, 0)) := blk_eq hb35 (upd_s0 u 1); clear hb35
 have hl38 := bl hb20
 refine oZ (tN (hK33 _ _ (sk fun K39 hK39 => ?_)))
 have hA40 := Ext.refl w34
 have hea41 := hE
 have hea42 := hA16
 have hz43 := hE.size
 have hz44 := hA16.size
 have hlt45 : n2 < w34.heap.size := (bl hb8)
 have hlt46 : n10 < w34.heap.size := (bl hb20)
 refine wpF_draw_late 7 9 [Is (.agg (refsC y).toArray), fun x w' => ∃ q, x = .agg (refsC (y.1, q)).toArray ∧ RefsAt w' (y.1, q), Is (.agg (updC (⟨1, u.name, u.old, u.new⟩ : Upd)).toArray), fun x w' => RG 66 (updC) w' x ([(⟨1, u.name, u.old, u.new⟩ : Upd)]), fun x w' => ∃ v, x = .tuple #[.agg (refsC ((applyP y.1 [(⟨1, u.name, u.old, u.new⟩ : Upd)] []).2, v)).toArray, NI ((applyP y.1 [(⟨1, u.name, u.old, u.new⟩ : Upd)] []).1)] ∧ RefsOw 0 w' ((applyP y.1 [(⟨1, u.name, u.old, u.new⟩ : Upd)] []).2, v), fun x w' => ∃ v, x = .tuple #[.agg (refsC ((applyP y.1 [(⟨1, u.name, u.old, u.new⟩ : Upd)] []).2, v)).toArray, NI ((applyP y.1 [(⟨1, u.name, u.old, u.new⟩ : Upd)] []).1)] ∧ RefsOw 0 w' ((applyP y.1 [(⟨1, u.name, u.old, u.new⟩ : Upd)] []).2, v), fun x w' => ∃ v, x = .agg (refsC ((applyP y.1 [(⟨1, u.name, u.old, u.new⟩ : Upd)] []).2, v)).toArray ∧ RefsOw 0 w' ((applyP y.1 [(⟨1, u.name, u.old, u.new⟩ : Upd)] []).2, v), Is (NI ((applyP y.1 [(⟨1, u.name, u.old, u.new⟩ : Upd)] []).1)), fun x w' => ∃ g, x = PQ g 0 ∧ w'.heap[g]? = some (.cells (refsC ((⟨[], [], [], zid, []⟩, ⟨.slice none 0 0, .slice none 0 0, .slice none 0 0⟩) : RefsV)).toArray 53 (0, 0)) ∧ w34.heap.size ≤ g] (by kernel_rfl) [22, 23, 24, 25, 26, 21, 27, 28, 5, 6] (by kernel_rfl) rfl (by kernel_rfl) (by kernel_rfl) (by kernel_rfl) (by kernel_rfl) (by kernel_rfl) (by kernel_rfl) rfl rfl ⟨Stab.is _, (fun _ _ _ ⟨q, h1, h2⟩ k => ⟨q, h1, h2.keep k⟩), Stab.is _, (fun _ _ _ h k => RG.keep h k), (fun _ _ _ ⟨v, h1, h2⟩ k => ⟨v, h1, h2.keep k⟩), (fun _ _ _ ⟨v, h1, h2⟩ k => ⟨v, h1, h2.keep k⟩), (fun _ _ _ ⟨v, h1, h2⟩ k => ⟨v, h1, h2.keep k⟩), Stab.is _, (fun _ _ _ ⟨g, h1, h2, h3⟩ k => ⟨g, h1, eb k h2, h3⟩), trivial⟩ (fun _ _ _ _ h => h) ?hs1004 ?hQ1004
 case hs1004 =>
  refine ⟨?_, ?_, ?_, ?_, ?_, ?_, ?_, ?_, ?_, ?_, ?_, trivial⟩
  ·refine stepFC (stepN rfl fun σ w1 hC h => ?_)
   have e2 : σ 2 = PQ n2 0 := (eqo (h 2 (by decide))).trans rfl
   exact Yk.loadAll e2 (eb hC hb8) (wr38_ty49).choose_spec rfl (st_isz (refs_len y) wr38_isz49) ⟨Ext.refl _, rfl⟩
  ·refine stepFC (stepN rfl fun σ w1 hC h => ?_)
   have e22 := eqo (h 22 (by decide))
   refine Yk.callA1 wr38_pl27 e22 ((told20_any _ y (RefsAt.mk (hmt.keep (hE.trans hC)) (hmg.keep (hE.trans hC)) (hml.keep (hE.trans hC))) hc).mono ?_)
   rintro e w2 ⟨z, rfl, hz, hx⟩
   exact ⟨_, rfl, hx, z, rfl, hz⟩
  ·refine stepFC (stepN rfl fun σ w1 hC h => ?_)
   have e3 : σ 3 = PQ n10 0 := (eqo (h 3 (by decide))).trans rfl
   exact Yk.loadAll e3 (eb hC hb20) (wr38_ty67).choose_spec rfl (st_isz (upd_len (⟨1, u.name, u.old, u.new⟩ : Upd)) wr38_isz67) ⟨Ext.refl _, rfl⟩
  ·refine stepFC (stepN rfl fun σ w1 hC h => ?_)
   have e24 := eqo (h 24 (by decide))
   exact Yk.lit1G (a := (⟨1, u.name, u.old, u.new⟩ : Upd)) (enc := updC) e24 (upd_len _) wr38_lg22 fun v w2 h hx => ⟨hx, h⟩
  ·refine stepFC (stepN rfl fun σ w1 hC h => ?_)
   have e23 : (fun x w' => ∃ q, x = .agg (refsC (y.1, q)).toArray ∧ RefsAt w' (y.1, q)) (σ 23) w1 := h 23 (by decide)
   have e25 : (fun x w' => RG 66 (updC) w' x ([(⟨1, u.name, u.old, u.new⟩ : Upd)])) (σ 25) w1 := h 25 (by decide)
   obtain ⟨q, hqe, hq⟩ := e23
   refine Yk.callA3 wr38_pl26 hqe rfl (vr (St (([] : List UInt8))) rfl) ((apply20_any _ (y.1, q) hq hL _ [(⟨1, u.name, u.old, u.new⟩ : Upd)] e25 (by simp) (fun x hx => by rw [List.mem_singleton.1 hx]; show u.name.length ≤ _; omega) []).mono ?_)
   rintro e w2 ⟨v, rfl, hR, hx⟩
   exact ⟨_, rfl, hx, v, rfl, hR.zero⟩
  ·refine stepFC (stepN rfl fun σ w1 hC h => ?_)
   have e26 : (fun x w' => ∃ v, x = .tuple #[.agg (refsC ((applyP y.1 [(⟨1, u.name, u.old, u.new⟩ : Upd)] []).2, v)).toArray, NI ((applyP y.1 [(⟨1, u.name, u.old, u.new⟩ : Upd)] []).1)] ∧ RefsOw 0 w' ((applyP y.1 [(⟨1, u.name, u.old, u.new⟩ : Upd)] []).2, v)) (σ 26) w1 := h 26 (by decide)
   exact Yk.move rfl ⟨Ext.refl _, e26⟩
  ·refine stepFC (stepN rfl fun σ w1 hC h => ?_)
   have e21 : (fun x w' => ∃ v, x = .tuple #[.agg (refsC ((applyP y.1 [(⟨1, u.name, u.old, u.new⟩ : Upd)] []).2, v)).toArray, NI ((applyP y.1 [(⟨1, u.name, u.old, u.new⟩ : Upd)] []).1)] ∧ RefsOw 0 w' ((applyP y.1 [(⟨1, u.name, u.old, u.new⟩ : Upd)] []).2, v)) (σ 21) w1 := h 21 (by decide)
   obtain ⟨v0, h1_, h2_⟩ := e21
   exact Yk.extract (vs := [.agg (refsC ((applyP y.1 [(⟨1, u.name, u.old, u.new⟩ : Upd)] []).2, v0)).toArray, NI ((applyP y.1 [(⟨1, u.name, u.old, u.new⟩ : Upd)] []).1)]) h1_ (show _ = some (Value.agg (refsC ((applyP y.1 [(⟨1, u.name, u.old, u.new⟩ : Upd)] []).2, v0)).toArray) from rfl) ⟨Ext.refl _, v0, rfl, h2_⟩
  ·refine stepFC (stepN rfl fun σ w1 hC h => ?_)
   have e21 : (fun x w' => ∃ v, x = .tuple #[.agg (refsC ((applyP y.1 [(⟨1, u.name, u.old, u.new⟩ : Upd)] []).2, v)).toArray, NI ((applyP y.1 [(⟨1, u.name, u.old, u.new⟩ : Upd)] []).1)] ∧ RefsOw 0 w' ((applyP y.1 [(⟨1, u.name, u.old, u.new⟩ : Upd)] []).2, v)) (σ 21) w1 := h 21 (by decide)
   obtain ⟨v0, h1_, h2_⟩ := e21
   exact Yk.extract (vs := [.agg (refsC ((applyP y.1 [(⟨1, u.name, u.old, u.new⟩ : Upd)] []).2, v0)).toArray, NI ((applyP y.1 [(⟨1, u.name, u.old, u.new⟩ : Upd)] []).1)]) h1_ (show _ = some (NI ((applyP y.1 [(⟨1, u.name, u.old, u.new⟩ : Upd)] []).1) : Value) from rfl) ⟨Ext.refl _, rfl⟩
  ·refine stepFC (stepN rfl fun σ w1 hC h => ?_)
   exact Yk.alloc (cs := (refsC ((⟨[], [], [], zid, []⟩, ⟨.slice none 0 0, .slice none 0 0, .slice none 0 0⟩) : RefsV)).toArray) wr38_al53 fun g w2 hn hb hx hs => ⟨hx, g, rfl, hb, Nat.le_trans (show Ext w34 w1 from hC).size (Nat.le_of_eq hn)⟩
  ·exact trivial
  ·exact trivial
 intro ρ47 w48 hx49 he hf
 obtain ⟨-, -, -, -, -, -, k27, k28, k5, -⟩ := hf
 obtain ⟨T0, T1, T2, T3, T4, -⟩ := he.hold [(0, _), (1, _), (2, PQ n2 0), (3, PQ n10 0), (4, .bool (false))] ⟨T0, T1, rfl, rfl, rfl, trivial⟩ rfl
 clear he
 have hE := hE.trans hx49
 have hb8 := eb hx49 hb8
 have hA16 := hA16.trans hx49
 have hb20 := eb hx49 hb20
 have hA40 := hA40.trans hx49
 have k27 : (fun x w' => ∃ v, x = .agg (refsC ((applyP y.1 [(⟨1, u.name, u.old, u.new⟩ : Upd)] []).2, v)).toArray ∧ RefsOw 0 w' ((applyP y.1 [(⟨1, u.name, u.old, u.new⟩ : Upd)] []).2, v)) (ρ47 27) w48 := k27
 obtain ⟨v50, T27⟩ : ∃ v, ρ47 27 = v := ⟨_, rfl⟩
 rw [T27] at k27
 have hk51 := k27; clear k27
 obtain ⟨v52, hq_, hR53⟩ := hk51
 rw [hq_] at T27; clear hq_
 have ho54 : OG 0 70 33 nmdC w48 v52.branches (applyP y.1 [(⟨1, u.name, u.old, u.new⟩ : Upd)] []).2.branches := OG.low hR53.br (Nat.zero_le _)
 have hap55 := OG.off ho54 hb8 (by decide)
 have hap56 := OG.off ho54 hb20 (by decide)
 have ho57 : OG 0 70 33 nmdC w48 v52.tags (applyP y.1 [(⟨1, u.name, u.old, u.new⟩ : Upd)] []).2.tags := OG.low hR53.tg (Nat.zero_le _)
 have hap58 := OG.off ho57 hb8 (by decide)
 have hap59 := OG.off ho57 hb20 (by decide)
 have ho60 : OG 0 122 67 entC w48 v52.log (applyP y.1 [(⟨1, u.name, u.old, u.new⟩ : Upd)] []).2.log := OG.low hR53.lg (Nat.zero_le _)
 have hap61 := OG.off ho60 hb8 (by decide)
 have hap62 := OG.off ho60 hb20 (by decide)
 have T28 : ρ47 28 = NI ((applyP y.1 [(⟨1, u.name, u.old, u.new⟩ : Upd)] []).1) := k28
 have k5 : (fun x w' => ∃ g, x = PQ g 0 ∧ w'.heap[g]? = some (.cells (refsC ((⟨[], [], [], zid, []⟩, ⟨.slice none 0 0, .slice none 0 0, .slice none 0 0⟩) : RefsV)).toArray 53 (0, 0)) ∧ w34.heap.size ≤ g) (ρ47 5) w48 := k5
 obtain ⟨v63, T5⟩ : ∃ v, ρ47 5 = v := ⟨_, rfl⟩
 rw [T5] at k5
 have hk64 := k5; clear k5
 obtain ⟨n65, rfl, hb66, hn67⟩ := hk64
 have hl68 := bl hb66
 clear k28
 have hap69 := OG.off ho54 hb66 (by decide)
 have hap70 := OG.off ho57 hb66 (by decide)
 have hap71 := OG.off ho60 hb66 (by decide)
 refine oS rfl (Yk.storeAll T5 T27 hb66 (by simp only [List.size_toArray, refs_len]) (st_isz (refs_len _) wr38_isz53) (refs_one (x := ((applyP y.1 [(⟨1, u.name, u.old, u.new⟩ : Upd)] []).2, v52)) (RG.one (RG.ofOwn ho54)).2 (RG.one (RG.ofOwn ho57)).2 (RG.one (RG.ofOwn ho60)).2) fun w72 hb73 hg74 hs75 => ?_)
 have hE := row_fresh hE hg74 (Nat.le_trans hz43 (by omega))
 have hb8 := kb hg74 hb8 (by omega)
 have hA16 := row_fresh hA16 hg74 (Nat.le_trans hz44 (by omega))
 have hb20 := kb hg74 hb20 (by omega)
 have hA40 := row_fresh hA40 hg74 (Nat.le_trans (Nat.le_refl _) (by omega))
 have ho54 := OG.kept ho54 hg74 hap69
 have ho57 := OG.kept ho57 hg74 hap70
 have ho60 := OG.kept ho60 hg74 hap71
 clear hb66
 have hb66 : w72.heap[n65]? = some (.cells (refsC ((applyP y.1 [(⟨1, u.name, u.old, u.new⟩ : Upd)] []).2, v52)).toArray 53 (0, 0)) := hb73; clear hb73
 have hl76 := bl hb66
 refine oA rfl (oZ (tN (hK39 _ _ (sk fun K77 hK77 => (sk fun K78 hK78 => (wt (oM rfl (oS rfl (Yk.eqI (a := ((applyP y.1 [(⟨1, u.name, u.old, u.new⟩ : Upd)] []).1 : Nat)) (b := (0 : Nat)) T28 rfl (k_neq _ _ _ _) (oZ (tN (hK78 _ _ ?_))))))))))))
 refine wpF_cond (((applyP y.1 [(⟨1, u.name, u.old, u.new⟩ : Upd)] []).1 : Nat) ≠ (0)) (vr (.bool (decide (((applyP y.1 [(⟨1, u.name, u.old, u.new⟩ : Upd)] []).1 : Nat) ≠ (0)))) rfl) (fun hc1 => ?_) (fun hc1 => ?_)
 ·have hz := applyP_zero hc1
  refine sk fun K79 hK79 => (wt (oS rfl (Yk.fieldAt wr38_fo53_4 T5 (oS rfl (Yk.cell1 wr38_ty47 rfl (vr (PQ n65 35) rfl) (cellAt hb66 (show (refsC ((applyP y.1 [(⟨1, u.name, u.old, u.new⟩ : Upd)] []).2, v52))[35]? = some ((((applyP y.1 [(⟨1, u.name, u.old, u.new⟩ : Upd)] []).2, v52)).2.log : Value) from refs_g4 ((applyP y.1 [(⟨1, u.name, u.old, u.new⟩ : Upd)] []).2, v52))) (oS rfl (Yk.lenRG wr38_ty47 (RG.of (RG.ofOwn ho60) (vr ((((applyP y.1 [(⟨1, u.name, u.old, u.new⟩ : Upd)] []).2, v52)).2.log) rfl)) (oS rfl (Yk.eqI (a := (((applyP y.1 [(⟨1, u.name, u.old, u.new⟩ : Upd)] []).2.log).length : Nat)) (b := (0 : Nat)) rfl rfl (k_eql _ _ _ _) (oM rfl (oY (d := 35) rfl rfl (vr (.bool (true)) (congrArg Value.bool (decide_eq_true (by rw [hz]; rfl)))) (Yk.callA0 wr38_pl35  ((awake20 _).mono ?_)))))))))))))
  rintro e w81 ⟨rfl, hx80⟩
  refine ⟨_, rfl, ?_⟩
  have hE := hE.trans hx80
  have hb8 := eb hx80 hb8
  have hA16 := hA16.trans hx80
  have hb20 := eb hx80 hb20
  have hA40 := hA40.trans hx80
  have ho54 := ho54.keep hx80
  have ho57 := ho57.keep hx80
  have ho60 := ho60.keep hx80
  have hb66 := eb hx80 hb66
  refine oS rfl (Yk.pickT (vr (.bool (true)) (congrArg Value.bool (decide_eq_true (by rw [hz]; rfl)))) (vr (.bool (true)) rfl) (oA rfl (oZ (tN (hK79 _ _ (wpF_ret (thenF_ret (postF_ret (fn := Tryd.f9) _ rfl [.bool (true)] (.bool (true)) rfl ⟨rfl, trivial⟩ ?_))))))))
  exact ⟨rfl, hE⟩
 have h1c : (applyP y.1 [(⟨1, u.name, u.old, u.new⟩ : Upd)] []).1 = 0 := by simpa using hc1
 have hsm := (applyP_sorted h1c).bl
 obtain ⟨q1, q2, q3, q4⟩ := moved_ok (y := (⟨1, u.name, u.old, u.new⟩ : Upd)) rfl h1c
 refine wpF_skip (tN (hK77 _ _ (sk fun K82 hK82 => (wt (oS rfl (Yk.run (v := AB (List.replicate 32 0)) (by kernel_rfl) (oS rfl (Yk.run (v := AB (List.replicate 32 0)) (by kernel_rfl) (oS rfl (Yk.alloc (cs := (Lib.byteCells (List.replicate 32 0)).toArray) wr38_al25 fun n83 w84 hn85 hb86 hx87 hs88 => ?_))))))))))
 have hA89 := Ext.refl w72
 have hea90 := hE
 have hea91 := hA16
 have hea92 := hA40
 have hz93 := hE.size
 have hz94 := hA16.size
 have hz95 := hA40.size
 have hlt96 := lte (bl hb8) hn85
 have hlt97 := lte (bl hb20) hn85
 have hlt98 := lte (bl hb66) hn85
 have hap99 : OB v52.branches n83 := own_newer ho54.2 (by omega)
 have hap100 : OB v52.tags n83 := own_newer ho57.2 (by omega)
 have hap101 : OB v52.log n83 := own_newer ho60.2 (by omega)
 have hE := hE.trans hx87
 have hb8 := eb hx87 hb8
 have hA16 := hA16.trans hx87
 have hb20 := eb hx87 hb20
 have hA40 := hA40.trans hx87
 have ho54 := ho54.keep hx87
 have ho57 := ho57.keep hx87
 have ho60 := ho60.keep hx87
 have hb66 := eb hx87 hb66
 have hA89 := hA89.trans hx87
 have hb102 := hb86; clear hb86
 have hl103 : n83 < w84.heap.size := by omega
 refine oS rfl (Yk.alloc (cs := (Lib.byteCells (List.replicate 32 0)).toArray) wr38_al25 fun n104 w105 hn106 hb107 hx108 hs109 => ?_)
 have hA110 := Ext.refl w84
 have hea111 := hE
 have hea112 := hA16
 have hea113 := hA40
 have hea114 := hA89
 have hz115 := hE.size
 have hz116 := hA16.size
 have hz117 := hA40.size
 have hz118 := hA89.size
 have hlt119 := lte (bl hb8) hn106
 have hlt120 := lte (bl hb20) hn106
 have hlt121 := lte (bl hb66) hn106
 have hlt122 := lte (bl hb102) hn106
 have hap123 : OB v52.branches n104 := own_newer ho54.2 (by omega)
 have hap124 : OB v52.tags n104 := own_newer ho57.2 (by omega)
 have hap125 : OB v52.log n104 := own_newer ho60.2 (by omega)
 have hE := hE.trans hx108
 have hb8 := eb hx108 hb8
 have hA16 := hA16.trans hx108
 have hb20 := eb hx108 hb20
 have hA40 := hA40.trans hx108
 have ho54 := ho54.keep hx108
 have ho57 := ho57.keep hx108
 have ho60 := ho60.keep hx108
 have hb66 := eb hx108 hb66
 have hA89 := hA89.trans hx108
 have hb102 := eb hx108 hb102
 have hA110 := hA110.trans hx108
 have hb126 := hb107; clear hb107
 have hl127 : n104 < w105.heap.size := by omega
 refine oS rfl (Yk.storeAll (vr (PQ n83 0) rfl) (vr (AB (List.replicate 32 0)) rfl) hb102 (by exact idsize List.length_replicate List.length_replicate) (by exact sizeId_of List.length_replicate) (byteCells_one _) fun w128 hb129 hg130 hs131 => ?_)
 have hE := row_fresh hE hg130 (Nat.le_trans hz93 (by omega))
 have hb8 := kb hg130 hb8 (by omega)
 have hA16 := row_fresh hA16 hg130 (Nat.le_trans hz94 (by omega))
 have hb20 := kb hg130 hb20 (by omega)
 have hA40 := row_fresh hA40 hg130 (Nat.le_trans hz95 (by omega))
 have ho54 := OG.kept ho54 hg130 hap99
 have ho57 := OG.kept ho57 hg130 hap100
 have ho60 := OG.kept ho60 hg130 hap101
 have hb66 := kb hg130 hb66 (by omega)
 have hA89 := row_fresh hA89 hg130 (Nat.le_trans (Nat.le_refl _) (by omega))
 clear hA110
 have hb126 := kb hg130 hb126 (by omega)
 clear hb102
 have hb102 := hb129; clear hb129
 have hl132 := bl hb102
 refine oS rfl (Yk.storeAll (vr (PQ n104 0) rfl) (vr (AB (List.replicate 32 0)) rfl) hb126 (by exact idsize List.length_replicate List.length_replicate) (by exact sizeId_of List.length_replicate) (byteCells_one _) fun w133 hb134 hg135 hs136 => ?_)
 have hE := row_fresh hE hg135 (Nat.le_trans hz115 (by omega))
 have hb8 := kb hg135 hb8 (by omega)
 have hA16 := row_fresh hA16 hg135 (Nat.le_trans hz116 (by omega))
 have hb20 := kb hg135 hb20 (by omega)
 have hA40 := row_fresh hA40 hg135 (Nat.le_trans hz117 (by omega))
 have ho54 := OG.kept ho54 hg135 hap123
 have ho57 := OG.kept ho57 hg135 hap124
 have ho60 := OG.kept ho60 hg135 hap125
 have hb66 := kb hg135 hb66 (by omega)
 have hA89 := row_fresh hA89 hg135 (Nat.le_trans hz118 (by omega))
 have hb102 := kb hg135 hb102 (by omega)
 clear hb126
 have hb126 := hb134; clear hb134
 have hl137 := bl hb126
 refine oZ (tN (hK82 _ _ (sk fun K138 hK138 => (sk fun K139 hK139 => (wt (oA rfl (oL_ [(0, .agg (refsC y).toArray), (1, .agg (updC u).toArray), (2, PQ n2 0), (3, PQ n10 0), (4, .bool (false)), (5, PQ n65 0), (6, NI ((applyP y.1 [(⟨1, u.name, u.old, u.new⟩ : Upd)] []).1)), (7, PQ n83 0), (8, PQ n104 0), (9, NI 0)] ⟨T0, T1, T2, T3, T4, T5, T28, rfl, rfl, rfl, trivial⟩ fun ρ140 ⟨T0, T1, T2, T3, T4, T5, T6, T7, T8, T9, _⟩ => (tN (hK139 _ _ (wpF_block (wpF_loop (fun (ρ : Slots) (wz : World) => ∃ i : Nat, ρ 0 = (.agg (refsC y).toArray : Value) ∧ ρ 1 = (.agg (updC u).toArray : Value) ∧ ρ 2 = (PQ n2 0 : Value) ∧ ρ 3 = (PQ n10 0 : Value) ∧ ρ 4 = (.bool (false) : Value) ∧ ρ 5 = (PQ n65 0 : Value) ∧ ρ 6 = (NI ((applyP y.1 [(⟨1, u.name, u.old, u.new⟩ : Upd)] []).1) : Value) ∧ ρ 7 = (PQ n83 0 : Value) ∧ ρ 8 = (PQ n104 0 : Value) ∧ ρ 9 = (NI i : Value) ∧ Ext w wz ∧ wz.heap[n2]? = some (.cells (refsC y).toArray 49 (0, 0)) ∧ Ext w3 wz ∧ wz.heap[n10]? = some (.cells (updC (⟨1, u.name, u.old, u.new⟩ : Upd)).toArray 67 (0, 0)) ∧ Ext w34 wz ∧ OG 0 70 33 nmdC wz v52.branches (applyP y.1 [(⟨1, u.name, u.old, u.new⟩ : Upd)] []).2.branches ∧ OG 0 70 33 nmdC wz v52.tags (applyP y.1 [(⟨1, u.name, u.old, u.new⟩ : Upd)] []).2.tags ∧ OG 0 122 67 entC wz v52.log (applyP y.1 [(⟨1, u.name, u.old, u.new⟩ : Upd)] []).2.log ∧ wz.heap[n65]? = some (.cells (refsC ((applyP y.1 [(⟨1, u.name, u.old, u.new⟩ : Upd)] []).2, v52)).toArray 53 (0, 0)) ∧ Ext w72 wz ∧ wz.heap[n104]? = some (.cells (Lib.byteCells (List.replicate 32 0)).toArray 25 (0, 0)) ∧ wz.heap[n83]? = some (.cells (Lib.byteCells ((lastN y.1.branches u.name i).1)).toArray 25 (0, 0)) ∧ (i ≤ y.1.branches.length) ∧ True) (fun ρ _ => y.1.branches.length - (intOf (ρ 9)).toNat) ⟨0, T0, T1, T2, T3, T4, T5, T6, T7, T8, T9, hE, hb8, hA16, hb20, hA40, ho54, ho57, ho60, hb66, hA89, hb126, blk_eq hb102 (rfl), Nat.zero_le _, trivial⟩ ?_)))))))))))
 clear hb102
 clear hE hb8 hA16 hb20 hA40 ho54 ho57 ho60 hb66 hA89 hb126
 rintro ρ141 w142 ⟨i, T0, T1, T2, T3, T4, T5, T6, T7, T8, T9, hE, hb8, hA16, hb20, hA40, ho54, ho57, ho60, hb66, hA89, hb126, hb102l, hi, -⟩
 have q9 := T9
 refine sk fun K143 hK143 => (sk fun K144 hK144 => (wt (oM rfl (oS rfl (Yk.fieldAt wr38_fo49_0 T2 (oS rfl (Yk.cell1 wr38_ty46 rfl (vr (PQ n2 0) rfl) (cellAt hb8 (show (refsC y)[0]? = some (y.2.branches : Value) from refs_g0 y)) (oS rfl (Yk.lenRG wr38_ty46 (RG.of (hmt.keep hE) (vr y.2.branches rfl)) (oS rfl (Yk.eqI (a := (i : Nat)) (b := ((y.1.branches).length : Nat)) T9 rfl (k_lss _ _ _ _) (oZ (tN (hK144 _ _ ?_))))))))))))))
 refine wpF_cond ((i) < ((y.1.branches).length)) (vr (.bool (decide ((i) < ((y.1.branches).length)))) rfl) (fun hc2 => ?_) (fun hc2 => ?_)
 ·have hlt := hc2
  refine wpF_skip (tN (hK143 _ _ (sk fun K145 hK145 => (wpF_block (sk fun K146 hK146 => ?_)))))
  refine wpF_draw [Is (PQ n2 0), Is (y.2.branches), Is (NI i), fun x w' => PR (nmdC ((y.1.branches).getD (i) dNmd)) x w', PCell (St (((y.1.branches).getD (i) dNmd).name)), Is (St (((y.1.branches).getD (i) dNmd).name)), Is (PQ n10 1), Is (St (u.name)), Is (.bool (decide (((y.1.branches).getD (i) dNmd).name = (u.name : List UInt8))))] (by kernel_rfl) [47, 48, 49, 50, 51, 52, 53, 54, 55] (by kernel_rfl) (by kernel_rfl) (si3 ⟨(fun _ _ _ h k => PR.keep h k), Stab.pcell _, (si4 trivial)⟩) ?hs2011 ?hQ2011
  case hs2011 =>
   refine ⟨?_, ?_, ?_, ?_, ?_, ?_, ?_, ?_, ?_, trivial⟩
   ·refine stepN rfl fun σ w1 hC h => ?_
    have e2 := (eqo (h 2 (by decide))).trans T2
    exact Yk.fieldAt wr38_fo49_0 e2 ⟨Ext.refl _, rfl⟩
   ·refine stepN rfl fun σ w1 hC h => ?_
    have e47 := eqo (h 47 (by decide))
    exact Yk.cell1 wr38_ty46 rfl e47 (cellAt (eb hC hb8) (show (refsC y)[0]? = some (y.2.branches : Value) from refs_g0 y)) ⟨Ext.refl _, rfl⟩
   ·refine stepN rfl fun σ w1 hC h => ?_
    have e9 := (eqo (h 9 (by decide))).trans T9
    exact Yk.move e9 ⟨Ext.refl _, rfl⟩
   ·refine stepN rfl fun σ w1 hC h => ?_
    have e48 := eqo (h 48 (by decide))
    have e49 := eqo (h 49 (by decide))
    exact Yk.atRG wr38_ty46 wr38_szg69 (by decide) dNmd (RG.of (hmt.keep (hE.trans hC)) e48) e49 (by omega) fun v h => ⟨Ext.refl _, h⟩
   ·refine stepN rfl fun σ w1 hC h => ?_
    have e50 : (fun x w' => PR (nmdC ((y.1.branches).getD (i) dNmd)) x w') (σ 50) w1 := h 50 (by decide)
    exact Yk.fieldPR (n := 1) wr38_fo69_0 e50 fun v h => ⟨Ext.refl _, PR.pcell (by rw [nmd_f0] at h; exact h)⟩
   ·refine stepN rfl fun σ w1 hC h => ?_
    have e51 : (PCell (St (((y.1.branches).getD (i) dNmd).name))) (σ 51) w1 := h 51 (by decide)
    exact Yk.loadC wr38_ty9 rfl e51 ⟨Ext.refl _, rfl⟩
   ·refine stepN rfl fun σ w1 hC h => ?_
    have e3 := (eqo (h 3 (by decide))).trans T3
    exact Yk.fieldAt wr38_fo67_1 e3 ⟨Ext.refl _, rfl⟩
   ·refine stepN rfl fun σ w1 hC h => ?_
    have e53 := eqo (h 53 (by decide))
    exact Yk.cell1 wr38_ty9 rfl e53 (cellAt (eb hC hb20) (show (updC (⟨1, u.name, u.old, u.new⟩ : Upd))[1]? = some (St (u.name) : Value) from upd_g1 (⟨1, u.name, u.old, u.new⟩ : Upd))) ⟨Ext.refl _, rfl⟩
   ·refine stepN rfl fun σ w1 hC h => ?_
    have e52 := eqo (h 52 (by decide))
    have e54 := eqo (h 54 (by decide))
    exact Yk.eqSt (l := ((y.1.branches).getD (i) dNmd).name) (m := u.name) (.inl rfl) e52 e54 (decide (((y.1.branches).getD (i) dNmd).name = (u.name : List UInt8))) rfl ⟨Ext.refl _, rfl⟩
  intro ρ147 w148 hx149 he hf
  obtain ⟨-, -, -, -, -, -, -, -, k55, -⟩ := hf
  obtain ⟨T0, T1, T2, T3, T4, T5, T6, T7, T8, T9, -⟩ := he.hold [(0, _), (1, _), (2, _), (3, _), (4, _), (5, _), (6, _), (7, _), (8, _), (9, _)] ⟨T0, T1, T2, T3, T4, T5, T6, T7, T8, T9, trivial⟩ rfl
  clear he
  have hE := hE.trans hx149
  have hb8 := eb hx149 hb8
  have hA16 := hA16.trans hx149
  have hb20 := eb hx149 hb20
  have hA40 := hA40.trans hx149
  have ho54 := ho54.keep hx149
  have ho57 := ho57.keep hx149
  have ho60 := ho60.keep hx149
  have hb66 := eb hx149 hb66
  have hA89 := hA89.trans hx149
  have hb126 := eb hx149 hb126
  have hb102l := eb hx149 hb102l
  have T55 : ρ147 55 = .bool (decide (((y.1.branches).getD (i) dNmd).name = (u.name : List UInt8))) := k55
  clear k55
  refine tN (hK146 _ _ ?_)
  refine wpF_cond (((y.1.branches).getD (i) dNmd).name = (u.name : List UInt8)) T55 (fun hc3 => ?_) (fun hc3 => ?_)
  ·have hnm := hc3
   refine wt (oS rfl (Yk.fieldAt wr38_fo49_0 T2 (oS rfl (Yk.cell1 wr38_ty46 rfl (vr (PQ n2 0) rfl) (cellAt hb8 (show (refsC y)[0]? = some (y.2.branches : Value) from refs_g0 y)) (oM rfl ?_)))))
   have hl152 : (nmdC ((y.1.branches).getD (i) dNmd)).length = 33 := (RG.elem (hmt.keep hE) dNmd (by omega))
   refine oS rfl (Yk.atRG wr38_ty46 wr38_szg69 (by decide) dNmd (RG.of (hmt.keep hE) (vr y.2.branches rfl)) T9 (by omega) fun v150 hp151 => ?_)
   have hl155 : (Lib.byteCells ((y.1.branches).getD (i) dNmd).id.1).length = 32 := by rw [Lib.byteCells_length, ((y.1.branches).getD (i) dNmd).id.2]
   refine oS rfl (Yk.fieldPR (n := 32) wr38_fo69_1 (PR.of hp151 (vr v150 rfl)) fun v153 hp154 => ?_)
   have hp154 : PR (Lib.byteCells ((y.1.branches).getD (i) dNmd).id.1) v153 w148 := (nmd_f1 ((y.1.branches).getD (i) dNmd)) ▸ hp154
   refine oS rfl (Yk.loadPR (PR.of hp154 (vr v153 rfl)) wr38_ty25 rfl (by rw [hl155]; exact wr38_isz25) (oS rfl (Yk.storeAll T7 (vr (AB (((y.1.branches).getD (i) dNmd).id.1)) rfl) hb102l (by exact idsize (bytes_len32 (hl155)) (lastN y.1.branches u.name i).2) (by exact sizeId_of (bytes_len32 (hl155))) (byteCells_one _) fun w156 hb157 hg158 hs159 => ?_)))
   have hE := row_fresh hE hg158 (Nat.le_trans hz93 (by omega))
   have hb8 := kb hg158 hb8 (by omega)
   have hA16 := row_fresh hA16 hg158 (Nat.le_trans hz94 (by omega))
   have hb20 := kb hg158 hb20 (by omega)
   have hA40 := row_fresh hA40 hg158 (Nat.le_trans hz95 (by omega))
   have ho54 := OG.kept ho54 hg158 hap99
   have ho57 := OG.kept ho57 hg158 hap100
   have ho60 := OG.kept ho60 hg158 hap101
   have hb66 := kb hg158 hb66 (by omega)
   have hA89 := row_fresh hA89 hg158 (Nat.le_trans (Nat.le_refl _) (by omega))
   have hb126 := kb hg158 hb126 (by omega)
   clear hp151
   clear hp154
   clear hb102l
   have hb102l := hb157; clear hb157
   have hl160 := bl hb102l
   refine oZ (bN (tN (hK145 _ _ (wt (oM rfl (oS rfl (Yk.bin (xv := NI i) (yv := NI 1) T9 rfl rfl (i64_add _ _ _ (by omega)) (oA rfl (oL_ [(0, .agg (refsC y).toArray), (1, .agg (updC u).toArray), (2, PQ n2 0), (3, PQ n10 0), (4, .bool (false)), (5, PQ n65 0), (6, NI ((applyP y.1 [(⟨1, u.name, u.old, u.new⟩ : Upd)] []).1)), (7, PQ n83 0), (8, PQ n104 0), (9, NI ((i) + (1)))] ⟨T0, T1, T2, T3, T4, T5, T6, T7, T8, rfl, trivial⟩ fun ρ161 ⟨T0, T1, T2, T3, T4, T5, T6, T7, T8, T9, _⟩ => (tN (And.intro ⟨i + 1, T0, T1, T2, T3, T4, T5, T6, T7, T8, T9, hE, hb8, hA16, hb20, hA40, ho54, ho57, ho60, hb66, hA89, hb126, blk_eq hb102l (congrArg Lib.byteCells (lastN_T hnm)), by omega, trivial⟩ ?_)))))))))))
   show y.1.branches.length - (intOf (ρ161 9)).toNat < y.1.branches.length - (intOf (ρ141 9)).toNat
   rw [T9, q9]
   simp only [intOf, Int.toNat_natCast]; omega
  have hnm := hc3
  refine wpF_skip (bN (tN (hK145 _ _ (wt (oM rfl (oS rfl (Yk.bin (xv := NI i) (yv := NI 1) T9 rfl rfl (i64_add _ _ _ (by omega)) (oA rfl (oL_ [(0, .agg (refsC y).toArray), (1, .agg (updC u).toArray), (2, PQ n2 0), (3, PQ n10 0), (4, .bool (false)), (5, PQ n65 0), (6, NI ((applyP y.1 [(⟨1, u.name, u.old, u.new⟩ : Upd)] []).1)), (7, PQ n83 0), (8, PQ n104 0), (9, NI ((i) + (1)))] ⟨T0, T1, T2, T3, T4, T5, T6, T7, T8, rfl, trivial⟩ fun ρ162 ⟨T0, T1, T2, T3, T4, T5, T6, T7, T8, T9, _⟩ => (tN (And.intro ⟨i + 1, T0, T1, T2, T3, T4, T5, T6, T7, T8, T9, hE, hb8, hA16, hb20, hA40, ho54, ho57, ho60, hb66, hA89, hb126, blk_eq hb102l (congrArg Lib.byteCells (lastN_F hnm)), by omega, trivial⟩ ?_)))))))))))
  show y.1.branches.length - (intOf (ρ162 9)).toNat < y.1.branches.length - (intOf (ρ141 9)).toNat
  rw [T9, q9]
  simp only [intOf, Int.toNat_natCast]; omega
 have hend : i = y.1.branches.length := by omega
 refine wpF_exit (thenF_exit (thenF_exit (inBlockF_hit (tN (hK138 _ _ (sk fun K163 hK163 => (sk fun K164 hK164 => (wt (oA rfl (oL_ [(0, .agg (refsC y).toArray), (1, .agg (updC u).toArray), (2, PQ n2 0), (3, PQ n10 0), (4, .bool (false)), (5, PQ n65 0), (6, NI ((applyP y.1 [(⟨1, u.name, u.old, u.new⟩ : Upd)] []).1)), (7, PQ n83 0), (8, PQ n104 0), (9, NI i), (10, NI 0)] ⟨T0, T1, T2, T3, T4, T5, T6, T7, T8, T9, rfl, trivial⟩ fun ρ165 ⟨T0, T1, T2, T3, T4, T5, T6, T7, T8, T9, T10, _⟩ => (tN (hK164 _ _ (wpF_block (wpF_loop (fun (ρ : Slots) (wz : World) => ∃ j : Nat, ρ 0 = (.agg (refsC y).toArray : Value) ∧ ρ 1 = (.agg (updC u).toArray : Value) ∧ ρ 2 = (PQ n2 0 : Value) ∧ ρ 3 = (PQ n10 0 : Value) ∧ ρ 4 = (.bool (false) : Value) ∧ ρ 5 = (PQ n65 0 : Value) ∧ ρ 6 = (NI ((applyP y.1 [(⟨1, u.name, u.old, u.new⟩ : Upd)] []).1) : Value) ∧ ρ 7 = (PQ n83 0 : Value) ∧ ρ 8 = (PQ n104 0 : Value) ∧ ρ 9 = (NI i : Value) ∧ ρ 10 = (NI j : Value) ∧ Ext w wz ∧ wz.heap[n2]? = some (.cells (refsC y).toArray 49 (0, 0)) ∧ Ext w3 wz ∧ wz.heap[n10]? = some (.cells (updC (⟨1, u.name, u.old, u.new⟩ : Upd)).toArray 67 (0, 0)) ∧ Ext w34 wz ∧ OG 0 70 33 nmdC wz v52.branches (applyP y.1 [(⟨1, u.name, u.old, u.new⟩ : Upd)] []).2.branches ∧ OG 0 70 33 nmdC wz v52.tags (applyP y.1 [(⟨1, u.name, u.old, u.new⟩ : Upd)] []).2.tags ∧ OG 0 122 67 entC wz v52.log (applyP y.1 [(⟨1, u.name, u.old, u.new⟩ : Upd)] []).2.log ∧ wz.heap[n65]? = some (.cells (refsC ((applyP y.1 [(⟨1, u.name, u.old, u.new⟩ : Upd)] []).2, v52)).toArray 53 (0, 0)) ∧ Ext w72 wz ∧ wz.heap[n83]? = some (.cells (Lib.byteCells ((lastN y.1.branches u.name i).1)).toArray 25 (0, 0)) ∧ wz.heap[n104]? = some (.cells (Lib.byteCells ((lastN (applyP y.1 [(⟨1, u.name, u.old, u.new⟩ : Upd)] []).2.branches u.name j).1)).toArray 25 (0, 0)) ∧ (j ≤ (applyP y.1 [(⟨1, u.name, u.old, u.new⟩ : Upd)] []).2.branches.length) ∧ True) (fun ρ _ => (applyP y.1 [(⟨1, u.name, u.old, u.new⟩ : Upd)] []).2.branches.length - (intOf (ρ 10)).toNat) ⟨0, T0, T1, T2, T3, T4, T5, T6, T7, T8, T9, T10, hE, hb8, hA16, hb20, hA40, ho54, ho57, ho60, hb66, hA89, hb102l, blk_eq hb126 (rfl), Nat.zero_le _, trivial⟩ ?_))))))))))))))
 clear hb126
 clear hE hb8 hA16 hb20 hA40 ho54 ho57 ho60 hb66 hA89 hb102l
 rintro ρ166 w167 ⟨j, T0, T1, T2, T3, T4, T5, T6, T7, T8, T9, T10, hE, hb8, hA16, hb20, hA40, ho54, ho57, ho60, hb66, hA89, hb102l, hb126l, hj, -⟩
 have q10 := T10
 refine sk fun K168 hK168 => (sk fun K169 hK169 => (wt (oM rfl (oS rfl (Yk.fieldAt wr38_fo53_0 T5 (oS rfl (Yk.cell1 wr38_ty51 rfl (vr (PQ n65 0) rfl) (cellAt hb66 (show (refsC ((applyP y.1 [(⟨1, u.name, u.old, u.new⟩ : Upd)] []).2, v52))[0]? = some ((((applyP y.1 [(⟨1, u.name, u.old, u.new⟩ : Upd)] []).2, v52)).2.branches : Value) from refs_g0 ((applyP y.1 [(⟨1, u.name, u.old, u.new⟩ : Upd)] []).2, v52))) (oS rfl (Yk.lenRG wr38_ty51 (RG.of (RG.ofOwn ho54) (vr ((((applyP y.1 [(⟨1, u.name, u.old, u.new⟩ : Upd)] []).2, v52)).2.branches) rfl)) (oS rfl (Yk.eqI (a := (j : Nat)) (b := (((applyP y.1 [(⟨1, u.name, u.old, u.new⟩ : Upd)] []).2.branches).length : Nat)) T10 rfl (k_lss _ _ _ _) (oZ (tN (hK169 _ _ ?_))))))))))))))
 refine wpF_cond ((j) < (((applyP y.1 [(⟨1, u.name, u.old, u.new⟩ : Upd)] []).2.branches).length)) (vr (.bool (decide ((j) < (((applyP y.1 [(⟨1, u.name, u.old, u.new⟩ : Upd)] []).2.branches).length)))) rfl) (fun hc4 => ?_) (fun hc4 => ?_)
 ·have hlt := hc4
  refine wpF_skip (tN (hK168 _ _ (sk fun K170 hK170 => (wpF_block (sk fun K171 hK171 => ?_)))))
  refine wpF_draw [Is (PQ n65 0), Is ((((applyP y.1 [(⟨1, u.name, u.old, u.new⟩ : Upd)] []).2, v52)).2.branches), Is (NI j), fun x w' => PR (nmdC (((applyP y.1 [(⟨1, u.name, u.old, u.new⟩ : Upd)] []).2.branches).getD (j) dNmd)) x w', PCell (St ((((applyP y.1 [(⟨1, u.name, u.old, u.new⟩ : Upd)] []).2.branches).getD (j) dNmd).name)), Is (St ((((applyP y.1 [(⟨1, u.name, u.old, u.new⟩ : Upd)] []).2.branches).getD (j) dNmd).name)), Is (PQ n10 1), Is (St (u.name)), Is (.bool (decide ((((applyP y.1 [(⟨1, u.name, u.old, u.new⟩ : Upd)] []).2.branches).getD (j) dNmd).name = (u.name : List UInt8))))] (by kernel_rfl) [69, 70, 71, 72, 73, 74, 75, 76, 77] (by kernel_rfl) (by kernel_rfl) (si3 ⟨(fun _ _ _ h k => PR.keep h k), Stab.pcell _, (si4 trivial)⟩) ?hs3016 ?hQ3016
  case hs3016 =>
   refine ⟨?_, ?_, ?_, ?_, ?_, ?_, ?_, ?_, ?_, trivial⟩
   ·refine stepN rfl fun σ w1 hC h => ?_
    have e5 := (eqo (h 5 (by decide))).trans T5
    exact Yk.fieldAt wr38_fo53_0 e5 ⟨Ext.refl _, rfl⟩
   ·refine stepN rfl fun σ w1 hC h => ?_
    have e69 := eqo (h 69 (by decide))
    exact Yk.cell1 wr38_ty51 rfl e69 (cellAt (eb hC hb66) (show (refsC ((applyP y.1 [(⟨1, u.name, u.old, u.new⟩ : Upd)] []).2, v52))[0]? = some ((((applyP y.1 [(⟨1, u.name, u.old, u.new⟩ : Upd)] []).2, v52)).2.branches : Value) from refs_g0 ((applyP y.1 [(⟨1, u.name, u.old, u.new⟩ : Upd)] []).2, v52))) ⟨Ext.refl _, rfl⟩
   ·refine stepN rfl fun σ w1 hC h => ?_
    have e10 := (eqo (h 10 (by decide))).trans T10
    exact Yk.move e10 ⟨Ext.refl _, rfl⟩
   ·refine stepN rfl fun σ w1 hC h => ?_
    have e70 := eqo (h 70 (by decide))
    have e71 := eqo (h 71 (by decide))
    exact Yk.atRG wr38_ty51 wr38_szg70 (by decide) dNmd (RG.of (RG.ofOwn (ho54.keep hC)) e70) e71 (by omega) fun v h => ⟨Ext.refl _, h⟩
   ·refine stepN rfl fun σ w1 hC h => ?_
    have e72 : (fun x w' => PR (nmdC (((applyP y.1 [(⟨1, u.name, u.old, u.new⟩ : Upd)] []).2.branches).getD (j) dNmd)) x w') (σ 72) w1 := h 72 (by decide)
    exact Yk.fieldPR (n := 1) wr38_fo70_0 e72 fun v h => ⟨Ext.refl _, PR.pcell (by rw [nmd_f0] at h; exact h)⟩
   ·refine stepN rfl fun σ w1 hC h => ?_
    have e73 : (PCell (St ((((applyP y.1 [(⟨1, u.name, u.old, u.new⟩ : Upd)] []).2.branches).getD (j) dNmd).name))) (σ 73) w1 := h 73 (by decide)
    exact Yk.loadC wr38_ty9 rfl e73 ⟨Ext.refl _, rfl⟩
   ·refine stepN rfl fun σ w1 hC h => ?_
    have e3 := (eqo (h 3 (by decide))).trans T3
    exact Yk.fieldAt wr38_fo67_1 e3 ⟨Ext.refl _, rfl⟩
   ·refine stepN rfl fun σ w1 hC h => ?_
    have e75 := eqo (h 75 (by decide))
    exact Yk.cell1 wr38_ty9 rfl e75 (cellAt (eb hC hb20) (show (updC (⟨1, u.name, u.old, u.new⟩ : Upd))[1]? = some (St (u.name) : Value) from upd_g1 (⟨1, u.name, u.old, u.new⟩ : Upd))) ⟨Ext.refl _, rfl⟩
   ·refine stepN rfl fun σ w1 hC h => ?_
    have e74 := eqo (h 74 (by decide))
    have e76 := eqo (h 76 (by decide))
    exact Yk.eqSt (l := (((applyP y.1 [(⟨1, u.name, u.old, u.new⟩ : Upd)] []).2.branches).getD (j) dNmd).name) (m := u.name) (.inl rfl) e74 e76 (decide ((((applyP y.1 [(⟨1, u.name, u.old, u.new⟩ : Upd)] []).2.branches).getD (j) dNmd).name = (u.name : List UInt8))) rfl ⟨Ext.refl _, rfl⟩
  intro ρ172 w173 hx174 he hf
  obtain ⟨-, -, -, -, -, -, -, -, k77, -⟩ := hf
  obtain ⟨T0, T1, T2, T3, T4, T5, T6, T7, T8, T9, T10, -⟩ := he.hold [(0, _), (1, _), (2, _), (3, _), (4, _), (5, _), (6, _), (7, _), (8, _), (9, _), (10, _)] ⟨T0, T1, T2, T3, T4, T5, T6, T7, T8, T9, T10, trivial⟩ rfl
  clear he
  have hE := hE.trans hx174
  have hb8 := eb hx174 hb8
  have hA16 := hA16.trans hx174
  have hb20 := eb hx174 hb20
  have hA40 := hA40.trans hx174
  have ho54 := ho54.keep hx174
  have ho57 := ho57.keep hx174
  have ho60 := ho60.keep hx174
  have hb66 := eb hx174 hb66
  have hA89 := hA89.trans hx174
  have hb102l := eb hx174 hb102l
  have hb126l := eb hx174 hb126l
  have T77 : ρ172 77 = .bool (decide ((((applyP y.1 [(⟨1, u.name, u.old, u.new⟩ : Upd)] []).2.branches).getD (j) dNmd).name = (u.name : List UInt8))) := k77
  clear k77
  refine tN (hK171 _ _ ?_)
  refine wpF_cond ((((applyP y.1 [(⟨1, u.name, u.old, u.new⟩ : Upd)] []).2.branches).getD (j) dNmd).name = (u.name : List UInt8)) T77 (fun hc5 => ?_) (fun hc5 => ?_)
  ·have hnm := hc5
   refine wt (oS rfl (Yk.fieldAt wr38_fo53_0 T5 (oS rfl (Yk.cell1 wr38_ty51 rfl (vr (PQ n65 0) rfl) (cellAt hb66 (show (refsC ((applyP y.1 [(⟨1, u.name, u.old, u.new⟩ : Upd)] []).2, v52))[0]? = some ((((applyP y.1 [(⟨1, u.name, u.old, u.new⟩ : Upd)] []).2, v52)).2.branches : Value) from refs_g0 ((applyP y.1 [(⟨1, u.name, u.old, u.new⟩ : Upd)] []).2, v52))) (oM rfl ?_)))))
   have hl177 : (nmdC (((applyP y.1 [(⟨1, u.name, u.old, u.new⟩ : Upd)] []).2.branches).getD (j) dNmd)).length = 33 := (RG.elem (RG.ofOwn ho54) dNmd (by omega))
   refine oS rfl (Yk.atRG wr38_ty51 wr38_szg70 (by decide) dNmd (RG.of (RG.ofOwn ho54) (vr ((((applyP y.1 [(⟨1, u.name, u.old, u.new⟩ : Upd)] []).2, v52)).2.branches) rfl)) T10 (by omega) fun v175 hp176 => ?_)
   have hl180 : (Lib.byteCells (((applyP y.1 [(⟨1, u.name, u.old, u.new⟩ : Upd)] []).2.branches).getD (j) dNmd).id.1).length = 32 := by rw [Lib.byteCells_length, (((applyP y.1 [(⟨1, u.name, u.old, u.new⟩ : Upd)] []).2.branches).getD (j) dNmd).id.2]
   refine oS rfl (Yk.fieldPR (n := 32) wr38_fo70_1 (PR.of hp176 (vr v175 rfl)) fun v178 hp179 => ?_)
   have hp179 : PR (Lib.byteCells (((applyP y.1 [(⟨1, u.name, u.old, u.new⟩ : Upd)] []).2.branches).getD (j) dNmd).id.1) v178 w173 := (nmd_f1 (((applyP y.1 [(⟨1, u.name, u.old, u.new⟩ : Upd)] []).2.branches).getD (j) dNmd)) ▸ hp179
   refine oS rfl (Yk.loadPR (PR.of hp179 (vr v178 rfl)) wr38_ty25 rfl (by rw [hl180]; exact wr38_isz25) (oS rfl (Yk.storeAll T8 (vr (AB ((((applyP y.1 [(⟨1, u.name, u.old, u.new⟩ : Upd)] []).2.branches).getD (j) dNmd).id.1)) rfl) hb126l (by exact idsize (bytes_len32 (hl180)) (lastN (applyP y.1 [(⟨1, u.name, u.old, u.new⟩ : Upd)] []).2.branches u.name j).2) (by exact sizeId_of (bytes_len32 (hl180))) (byteCells_one _) fun w181 hb182 hg183 hs184 => ?_)))
   have hE := row_fresh hE hg183 (Nat.le_trans hz115 (by omega))
   have hb8 := kb hg183 hb8 (by omega)
   have hA16 := row_fresh hA16 hg183 (Nat.le_trans hz116 (by omega))
   have hb20 := kb hg183 hb20 (by omega)
   have hA40 := row_fresh hA40 hg183 (Nat.le_trans hz117 (by omega))
   have ho54 := OG.kept ho54 hg183 hap123
   have ho57 := OG.kept ho57 hg183 hap124
   have ho60 := OG.kept ho60 hg183 hap125
   have hb66 := kb hg183 hb66 (by omega)
   have hA89 := row_fresh hA89 hg183 (Nat.le_trans hz118 (by omega))
   have hb102l := kb hg183 hb102l (by omega)
   clear hp176
   clear hp179
   clear hb126l
   have hb126l := hb182; clear hb182
   have hl185 := bl hb126l
   refine oZ (bN (tN (hK170 _ _ (wt (oM rfl (oS rfl (Yk.bin (xv := NI j) (yv := NI 1) T10 rfl rfl (i64_add _ _ _ (by omega)) (oA rfl (oL_ [(0, .agg (refsC y).toArray), (1, .agg (updC u).toArray), (2, PQ n2 0), (3, PQ n10 0), (4, .bool (false)), (5, PQ n65 0), (6, NI ((applyP y.1 [(⟨1, u.name, u.old, u.new⟩ : Upd)] []).1)), (7, PQ n83 0), (8, PQ n104 0), (9, NI i), (10, NI ((j) + (1)))] ⟨T0, T1, T2, T3, T4, T5, T6, T7, T8, T9, rfl, trivial⟩ fun ρ186 ⟨T0, T1, T2, T3, T4, T5, T6, T7, T8, T9, T10, _⟩ => (tN (And.intro ⟨j + 1, T0, T1, T2, T3, T4, T5, T6, T7, T8, T9, T10, hE, hb8, hA16, hb20, hA40, ho54, ho57, ho60, hb66, hA89, hb102l, blk_eq hb126l (congrArg Lib.byteCells (lastN_T hnm)), by omega, trivial⟩ ?_)))))))))))
   show (applyP y.1 [(⟨1, u.name, u.old, u.new⟩ : Upd)] []).2.branches.length - (intOf (ρ186 10)).toNat < (applyP y.1 [(⟨1, u.name, u.old, u.new⟩ : Upd)] []).2.branches.length - (intOf (ρ166 10)).toNat
   rw [T10, q10]
   simp only [intOf, Int.toNat_natCast]; omega
  have hnm := hc5
  refine wpF_skip (bN (tN (hK170 _ _ (wt (oM rfl (oS rfl (Yk.bin (xv := NI j) (yv := NI 1) T10 rfl rfl (i64_add _ _ _ (by omega)) (oA rfl (oL_ [(0, .agg (refsC y).toArray), (1, .agg (updC u).toArray), (2, PQ n2 0), (3, PQ n10 0), (4, .bool (false)), (5, PQ n65 0), (6, NI ((applyP y.1 [(⟨1, u.name, u.old, u.new⟩ : Upd)] []).1)), (7, PQ n83 0), (8, PQ n104 0), (9, NI i), (10, NI ((j) + (1)))] ⟨T0, T1, T2, T3, T4, T5, T6, T7, T8, T9, rfl, trivial⟩ fun ρ187 ⟨T0, T1, T2, T3, T4, T5, T6, T7, T8, T9, T10, _⟩ => (tN (And.intro ⟨j + 1, T0, T1, T2, T3, T4, T5, T6, T7, T8, T9, T10, hE, hb8, hA16, hb20, hA40, ho54, ho57, ho60, hb66, hA89, hb102l, blk_eq hb126l (congrArg Lib.byteCells (lastN_F hnm)), by omega, trivial⟩ ?_)))))))))))
  show (applyP y.1 [(⟨1, u.name, u.old, u.new⟩ : Upd)] []).2.branches.length - (intOf (ρ187 10)).toNat < (applyP y.1 [(⟨1, u.name, u.old, u.new⟩ : Upd)] []).2.branches.length - (intOf (ρ166 10)).toNat
  rw [T10, q10]
  simp only [intOf, Int.toNat_natCast]; omega
 have hend2 : j = (applyP y.1 [(⟨1, u.name, u.old, u.new⟩ : Upd)] []).2.branches.length := by omega
 refine wpF_exit (thenF_exit (thenF_exit (inBlockF_hit (tN (hK163 _ _ (sk fun K188 hK188 => (wt (oS rfl (Yk.loadAll T7 hb102l wr38_ty25 rfl (by exact sizeId_of (lastN y.1.branches u.name i).2) (oS rfl (Yk.fieldAt wr38_fo67_2 T3 (oS rfl (Yk.loadPR (PR.blk hb20 (upd_m2 (⟨1, u.name, u.old, u.new⟩ : Upd)) (upd_n2 (⟨1, u.name, u.old, u.new⟩ : Upd)) (vr (PQ n10 2) rfl)) wr38_ty25 rfl (sizeId_of u.old.2) (oS rfl (Yk.eqArr (l1 := ((lastN y.1.branches u.name i).1)) (l2 := u.old.1) wr38_ty25 wr38_ty5 wr38_sz5 wr38_eg25 (vr (AB ((lastN y.1.branches u.name i).1)) rfl) (vr (AB u.old.1) rfl) ((lastN y.1.branches u.name i).2) (u.old.2) (oM rfl (oY (d := 88) rfl rfl (vr (.bool (true)) (congrArg Value.bool (decide_eq_true (by rw [hend]; exact congrArg Subtype.val q1)))) (Yk.loadAll T8 hb126l wr38_ty25 rfl (by exact sizeId_of (lastN (applyP y.1 [(⟨1, u.name, u.old, u.new⟩ : Upd)] []).2.branches u.name j).2) (oY (d := 88) rfl rfl (vr (.bool (true)) (congrArg Value.bool (decide_eq_true (by rw [hend]; exact congrArg Subtype.val q1)))) (Yk.fieldAt wr38_fo67_3 T3 (oY (d := 88) rfl rfl (vr (.bool (true)) (congrArg Value.bool (decide_eq_true (by rw [hend]; exact congrArg Subtype.val q1)))) (Yk.loadPR (PR.blk hb20 (upd_m3 (⟨1, u.name, u.old, u.new⟩ : Upd)) (upd_n3 (⟨1, u.name, u.old, u.new⟩ : Upd)) (vr (PQ n10 34) rfl)) wr38_ty25 rfl (sizeId_of u.new.2) (oY (d := 88) rfl rfl (vr (.bool (true)) (congrArg Value.bool (decide_eq_true (by rw [hend]; exact congrArg Subtype.val q1)))) (Yk.eqArr (l1 := ((lastN (applyP y.1 [(⟨1, u.name, u.old, u.new⟩ : Upd)] []).2.branches u.name j).1)) (l2 := u.new.1) wr38_ty25 wr38_ty5 wr38_sz5 wr38_eg25 (vr (AB ((lastN (applyP y.1 [(⟨1, u.name, u.old, u.new⟩ : Upd)] []).2.branches u.name j).1)) rfl) (vr (AB u.new.1) rfl) ((lastN (applyP y.1 [(⟨1, u.name, u.old, u.new⟩ : Upd)] []).2.branches u.name j).2) (u.new.2) (oS rfl (Yk.pickT (vr (.bool (true)) (congrArg Value.bool (decide_eq_true (by rw [hend]; exact congrArg Subtype.val q1)))) (vr (.bool (true)) (congrArg Value.bool (decide_eq_true (by rw [hend2]; exact congrArg Subtype.val q2)))) (oM rfl (oY (d := 94) rfl rfl (vr (.bool (true)) rfl) (Yk.fieldAt wr38_fo53_1 T5 ?_)))))))))))))))))))))))))))))
 refine oY (d := 94) rfl rfl (vr (.bool (true)) rfl) (Yk.cell1 wr38_ty51 rfl (vr (PQ n65 1) rfl) (cellAt hb66 (show (refsC ((applyP y.1 [(⟨1, u.name, u.old, u.new⟩ : Upd)] []).2, v52))[1]? = some ((((applyP y.1 [(⟨1, u.name, u.old, u.new⟩ : Upd)] []).2, v52)).2.tags : Value) from refs_g1 ((applyP y.1 [(⟨1, u.name, u.old, u.new⟩ : Upd)] []).2, v52))) (oY (d := 94) rfl rfl (vr (.bool (true)) rfl) (Yk.lenRG wr38_ty51 (RG.of (RG.ofOwn ho57) (vr ((((applyP y.1 [(⟨1, u.name, u.old, u.new⟩ : Upd)] []).2, v52)).2.tags) rfl)) (oY (d := 94) rfl rfl (vr (.bool (true)) rfl) (Yk.fieldAt wr38_fo49_1 T2 (oY (d := 94) rfl rfl (vr (.bool (true)) rfl) (Yk.cell1 wr38_ty46 rfl (vr (PQ n2 1) rfl) (cellAt hb8 (show (refsC y)[1]? = some (y.2.tags : Value) from refs_g1 y)) (oY (d := 94) rfl rfl (vr (.bool (true)) rfl) (Yk.lenRG wr38_ty46 (RG.of (hmg.keep hE) (vr y.2.tags rfl)) (oY (d := 94) rfl rfl (vr (.bool (true)) rfl) (Yk.eqI (a := (((applyP y.1 [(⟨1, u.name, u.old, u.new⟩ : Upd)] []).2.tags).length : Nat)) (b := ((y.1.tags).length : Nat)) rfl rfl (k_eql _ _ _ _) (oS rfl (Yk.pickT (vr (.bool (true)) rfl) (vr (.bool (true)) (congrArg Value.bool (decide_eq_true (q3)))) (oM rfl (oY (d := 103) rfl rfl (vr (.bool (true)) rfl) (Yk.fieldAt wr38_fo53_2 T5 (oY (d := 103) rfl rfl (vr (.bool (true)) rfl) (Yk.cell1 wr38_ty9 rfl (vr (PQ n65 2) rfl) (cellAt hb66 (show (refsC ((applyP y.1 [(⟨1, u.name, u.old, u.new⟩ : Upd)] []).2, v52))[2]? = some (St ((((applyP y.1 [(⟨1, u.name, u.old, u.new⟩ : Upd)] []).2, v52)).1.head) : Value) from refs_g2 ((applyP y.1 [(⟨1, u.name, u.old, u.new⟩ : Upd)] []).2, v52))) (oY (d := 103) rfl rfl (vr (.bool (true)) rfl) (Yk.fieldAt wr38_fo49_2 T2 (oY (d := 103) rfl rfl (vr (.bool (true)) rfl) (Yk.cell1 wr38_ty9 rfl (vr (PQ n2 2) rfl) (cellAt hb8 (show (refsC y)[2]? = some (St (y.1.head) : Value) from refs_g2 y)) (oY (d := 103) rfl rfl (vr (.bool (true)) rfl) (Yk.eqSt (l := (((applyP y.1 [(⟨1, u.name, u.old, u.new⟩ : Upd)] []).2, v52)).1.head) (m := y.1.head) (.inl rfl) (vr (St ((((applyP y.1 [(⟨1, u.name, u.old, u.new⟩ : Upd)] []).2, v52)).1.head)) rfl) (vr (St (y.1.head)) rfl) (decide ((((applyP y.1 [(⟨1, u.name, u.old, u.new⟩ : Upd)] []).2, v52)).1.head = (y.1.head : List UInt8))) rfl (oS rfl (Yk.pickT (vr (.bool (true)) rfl) (vr (.bool (true)) (congrArg Value.bool (decide_eq_true (q4)))) (oM rfl (oY (d := 110) rfl rfl (vr (.bool (true)) rfl) (Yk.callA0 wr38_pl35  ?_)))))))))))))))))))))))))))))
 refine (awake20 _).mono ?_
 rintro e w190 ⟨rfl, hx189⟩
 refine ⟨_, rfl, ?_⟩
 have hE := hE.trans hx189
 have hb8 := eb hx189 hb8
 have hA16 := hA16.trans hx189
 have hb20 := eb hx189 hb20
 have hA40 := hA40.trans hx189
 have ho54 := ho54.keep hx189
 have ho57 := ho57.keep hx189
 have ho60 := ho60.keep hx189
 have hb66 := eb hx189 hb66
 have hA89 := hA89.trans hx189
 have hb102l := eb hx189 hb102l
 have hb126l := eb hx189 hb126l
 refine oS rfl (Yk.pickT (vr (.bool (true)) rfl) (vr (.bool (true)) rfl) (oA rfl (oZ (tN (hK188 _ _ (wpF_ret (postF_ret (fn := Tryd.f9) _ rfl [.bool (true)] (.bool (true)) rfl ⟨rfl, trivial⟩ ?_)))))))
 exact ⟨rfl, hE⟩
end Go.Proofs.YtmonlobfofkbdaaDoor
