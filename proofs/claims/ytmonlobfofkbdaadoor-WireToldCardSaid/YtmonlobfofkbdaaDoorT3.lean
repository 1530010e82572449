/- Part 3 of what stands behind these statements: laws and walks of the functions that are reached. Conditions: those that each theorem names. -/
import Derived.Test.YtmonlobfofkbdaaDoorT2
set_option linter.unusedVariables false
set_option linter.unusedSimpArgs false
namespace Go.Proofs.YtmonlobfofkbdaaDoor
open Go.RowKit
set_option maxRecDepth 100000
theorem wr4_ty93 : Tryd.prog.underlying 93 = some (.map 5 92) := by kernel_rfl
theorem wr4_bs92_0h (z0 : Bool) (w : World) : (Instr.build 92 #[(0, .bool z0)]).run Tryd.prog w = .ok (.agg #[.bool z0, .bool false, .bool false, .bool false, .bool false, .bool false, .bool false, .bool false]) w := by kernel_rfl
theorem wr4_bs92_0 (z0 : Bool) (w : World) : (Instr.build 92 #[(0, .bool z0)]).run Tryd.prog w = .ok (.agg (.bool (z0) :: (.bool (false) :: (.bool (false) :: (.bool (false) :: (.bool (false) :: (.bool (false) :: (.bool (false) :: (.bool (false) :: ([]))))))))).toArray) w := by
 exact wr4_bs92_0h _ w
theorem wr4_bs92_1h (z1 : Bool) (w : World) : (Instr.build 92 #[(1, .bool z1)]).run Tryd.prog w = .ok (.agg #[.bool false, .bool z1, .bool false, .bool false, .bool false, .bool false, .bool false, .bool false]) w := by kernel_rfl
theorem wr4_bs92_1 (z1 : Bool) (w : World) : (Instr.build 92 #[(1, .bool z1)]).run Tryd.prog w = .ok (.agg (.bool (false) :: (.bool (z1) :: (.bool (false) :: (.bool (false) :: (.bool (false) :: (.bool (false) :: (.bool (false) :: (.bool (false) :: ([]))))))))).toArray) w := by
 exact wr4_bs92_1h _ w
theorem wr4_bs92_2_4h (z2 : Bool) (z4 : Bool) (w : World) : (Instr.build 92 #[(2, .bool z2), (4, .bool z4)]).run Tryd.prog w = .ok (.agg #[.bool false, .bool false, .bool z2, .bool false, .bool z4, .bool false, .bool false, .bool false]) w := by kernel_rfl
theorem wr4_bs92_2_4 (z2 : Bool) (z4 : Bool) (w : World) : (Instr.build 92 #[(2, .bool z2), (4, .bool z4)]).run Tryd.prog w = .ok (.agg (.bool (false) :: (.bool (false) :: (.bool (z2) :: (.bool (false) :: (.bool (z4) :: (.bool (false) :: (.bool (false) :: (.bool (false) :: ([]))))))))).toArray) w := by
 exact wr4_bs92_2_4h _ _ w
theorem wr4_bs92_3h (z3 : Bool) (w : World) : (Instr.build 92 #[(3, .bool z3)]).run Tryd.prog w = .ok (.agg #[.bool false, .bool false, .bool false, .bool z3, .bool false, .bool false, .bool false, .bool false]) w := by kernel_rfl
theorem wr4_bs92_3 (z3 : Bool) (w : World) : (Instr.build 92 #[(3, .bool z3)]).run Tryd.prog w = .ok (.agg (.bool (false) :: (.bool (false) :: (.bool (false) :: (.bool (z3) :: (.bool (false) :: (.bool (false) :: (.bool (false) :: (.bool (false) :: ([]))))))))).toArray) w := by
 exact wr4_bs92_3h _ w
theorem wr4_bs92_3_5h (z3 : Bool) (z5 : Bool) (w : World) : (Instr.build 92 #[(3, .bool z3), (5, .bool z5)]).run Tryd.prog w = .ok (.agg #[.bool false, .bool false, .bool false, .bool z3, .bool false, .bool z5, .bool false, .bool false]) w := by kernel_rfl
theorem wr4_bs92_3_5 (z3 : Bool) (z5 : Bool) (w : World) : (Instr.build 92 #[(3, .bool z3), (5, .bool z5)]).run Tryd.prog w = .ok (.agg (.bool (false) :: (.bool (false) :: (.bool (false) :: (.bool (z3) :: (.bool (false) :: (.bool (z5) :: (.bool (false) :: (.bool (false) :: ([]))))))))).toArray) w := by
 exact wr4_bs92_3_5h _ _ w
theorem wr4_bs92_2_4_6h (z2 : Bool) (z4 : Bool) (z6 : Bool) (w : World) : (Instr.build 92 #[(2, .bool z2), (4, .bool z4), (6, .bool z6)]).run Tryd.prog w = .ok (.agg #[.bool false, .bool false, .bool z2, .bool false, .bool z4, .bool false, .bool z6, .bool false]) w := by kernel_rfl
theorem wr4_bs92_2_4_6 (z2 : Bool) (z4 : Bool) (z6 : Bool) (w : World) : (Instr.build 92 #[(2, .bool z2), (4, .bool z4), (6, .bool z6)]).run Tryd.prog w = .ok (.agg (.bool (false) :: (.bool (false) :: (.bool (z2) :: (.bool (false) :: (.bool (z4) :: (.bool (false) :: (.bool (z6) :: (.bool (false) :: ([]))))))))).toArray) w := by
 exact wr4_bs92_2_4_6h _ _ _ w
theorem wr4_bs92_7h (z7 : Bool) (w : World) : (Instr.build 92 #[(7, .bool z7)]).run Tryd.prog w = .ok (.agg #[.bool false, .bool false, .bool false, .bool false, .bool false, .bool false, .bool false, .bool z7]) w := by kernel_rfl
theorem wr4_bs92_7 (z7 : Bool) (w : World) : (Instr.build 92 #[(7, .bool z7)]).run Tryd.prog w = .ok (.agg (.bool (false) :: (.bool (false) :: (.bool (false) :: (.bool (false) :: (.bool (false) :: (.bool (false) :: (.bool (false) :: (.bool (z7) :: ([]))))))))).toArray) w := by
 exact wr4_bs92_7h _ w
theorem wr4_fo92_0 : FieldOff Tryd.prog 92 0 0 := fun b o w => by simp [go_sem]
theorem wr4_ty4 : Tryd.prog.underlying 4 = some (.bool) := by kernel_rfl
theorem wr4_fo29_2 : FieldOff Tryd.prog 29 2 2 := fun b o w => by simp [go_sem]
theorem wr4_ty22 : Tryd.prog.underlying 22 = some (.slice 67) := by kernel_rfl
theorem wr4_fo92_1 : FieldOff Tryd.prog 92 1 1 := fun b o w => by simp [go_sem]
theorem wr4_fo29_3 : FieldOff Tryd.prog 29 3 3 := fun b o w => by simp [go_sem]
theorem wr4_ty23 : Tryd.prog.underlying 23 = some (.slice 25) := by kernel_rfl
theorem wr4_fo29_4 : FieldOff Tryd.prog 29 4 4 := fun b o w => by simp [go_sem]
theorem wr4_fo92_2 : FieldOff Tryd.prog 92 2 2 := fun b o w => by simp [go_sem]
theorem wr4_fo29_5 : FieldOff Tryd.prog 29 5 5 := fun b o w => by simp [go_sem]
theorem wr4_ty3 : Tryd.prog.underlying 3 = some (.int .i64) := by kernel_rfl
theorem wr4_fo92_3 : FieldOff Tryd.prog 92 3 3 := fun b o w => by simp [go_sem]
theorem wr4_fo29_6 : FieldOff Tryd.prog 29 6 6 := fun b o w => by simp [go_sem]
theorem wr4_fo92_4 : FieldOff Tryd.prog 92 4 4 := fun b o w => by simp [go_sem]
theorem wr4_fo29_7 : FieldOff Tryd.prog 29 7 7 := fun b o w => by simp [go_sem]
theorem wr4_ty25 : Tryd.prog.underlying 25 = some (.array 32 5) := by kernel_rfl
theorem wr4_pl60 : Plain Tryd.prog 60 := fun _ _ => by kernel_rfl
theorem wr4_fo92_5 : FieldOff Tryd.prog 92 5 5 := fun b o w => by simp [go_sem]
theorem wr4_fo29_8 : FieldOff Tryd.prog 29 8 39 := fun b o w => by simp [go_sem]
theorem wr4_ty26 : Tryd.prog.underlying 26 = some (.slice 5) := by kernel_rfl
theorem wr4_fo92_6 : FieldOff Tryd.prog 92 6 6 := fun b o w => by simp [go_sem]
theorem wr4_fo29_9 : FieldOff Tryd.prog 29 9 40 := fun b o w => by simp [go_sem]
theorem wr4_ty9 : Tryd.prog.underlying 9 = some (.string) := by kernel_rfl
theorem wr4_fo29_10 : FieldOff Tryd.prog 29 10 41 := fun b o w => by simp [go_sem]
theorem wr4_fo29_11 : FieldOff Tryd.prog 29 11 73 := fun b o w => by simp [go_sem]
theorem wr4_fo29_12 : FieldOff Tryd.prog 29 12 105 := fun b o w => by simp [go_sem]
theorem wr4_fo92_7 : FieldOff Tryd.prog 92 7 7 := fun b o w => by simp [go_sem]
theorem wr4_fo29_13 : FieldOff Tryd.prog 29 13 106 := fun b o w => by simp [go_sem]
theorem wr4_ty27 : Tryd.prog.underlying 27 = some (.int .i64) := by kernel_rfl
theorem wr4_pl50 : Plain Tryd.prog 50 := fun _ _ => by kernel_rfl
theorem wr4_fo29_0 : FieldOff Tryd.prog 29 0 0 := fun b o w => by simp [go_sem]
theorem wr4_ty5 : Tryd.prog.underlying 5 = some (.int .u8) := by kernel_rfl
theorem wr4_al92 {d : Option Tmp} {ty : TypeId} {pos : String} {af : Array Edge} {gd : Option (Nat × Bool)} (σ : Operand → Value) (w : World) : (execOp σ ⟨d, .alloc 92, ty, pos, af, gd⟩).run Tryd.prog w = .ok (.value (PQ w.heap.size 0)) (w.alloc (.cells (partsC (⟨false, false, false, false, false, false, false, false⟩ : Parts)).toArray 92)) := by kernel_rfl
theorem wr4_isz92 : (Tryd.prog.info? 92).map (·.size) = some 8 := by kernel_rfl
theorem wr4_fo29_1 : FieldOff Tryd.prog 29 1 1 := fun b o w => by simp [go_sem]
theorem wr4_pl55 : Plain Tryd.prog 55 := fun _ _ => by kernel_rfl
theorem wr4_ty29 : ∃ fs, Tryd.prog.underlying 29 = some (.struct fs) := struct_of (by kernel_rfl)
theorem wr4_isz29 : (Tryd.prog.info? 29).map (·.size) = some 107 := by kernel_rfl
theorem wr4_ty92 : ∃ fs, Tryd.prog.underlying 92 = some (.struct fs) := struct_of (by kernel_rfl)
theorem wr4_pl56 : Plain Tryd.prog 56 := fun _ _ => by kernel_rfl
theorem wr4_pl57 : Plain Tryd.prog 57 := fun _ _ => by kernel_rfl
theorem wr4_pl58 : Plain Tryd.prog 58 := fun _ _ => by kernel_rfl
theorem wr4_pl59 : Plain Tryd.prog 59 := fun _ _ => by kernel_rfl
set_option maxHeartbeats 1600000
theorem kinds_any (w : World) :
  Calls Tryd.prog 50 #[] w fun e w' => ∃ b, e = .returned (.map (some b)) ∧ MapF B8 partsV (fun _ : UInt8 => True) w' b kindsG ∧ Ext w w' ∧ OnlyMaps w w' := by
 refine calls_of_wpF (args := []) Tryd.func50 rfl 11 rfl (Nat.le_of_ble_eq_true rfl) ?_
 intro ρ0 hb
 clear hb
 have hE := Ext.refl w
 refine sk fun K1 hK1 => (wt (oA rfl (oZ (tN (hK1 _ _ (sk fun K2 hK2 => (wt (oS rfl (Yk.mkMap B8 partsV (fun _ : UInt8 => True) fun n3 w4 hn5 hb6 hx7 hs8 => ?_)))))))))
 have hE := hE.trans hx7
 have hl9 : n3 < w4.heap.size := by omega
 refine oS rfl (Yk.run (v := .agg (partsC (⟨false, false, false, false, false, false, false, false⟩ : Parts)).toArray) (by kernel_rfl) (oS rfl (Yk.insM (ek := B8) (ev := partsV) (D := (fun _ : UInt8 => True)) (c := (⟨false, false, false, false, false, false, false, false⟩ : Parts)) u8Law u8_ok wr4_ty93 (vr (.map (some n3)) rfl) (vr (B8 (1)) rfl) (vr (.agg (partsC (⟨false, false, false, false, false, false, false, false⟩ : Parts)).toArray) rfl) hb6 trivial fun w10 hb11 hg12 hs13 => ?_)))
 have hE := row_fresh hE hg12 (Nat.le_trans (Nat.le_refl _) (by omega))
 clear hb6
 have hl14 : n3 < w10.heap.size := hb11.lt
 refine oS rfl (Yk.build1 (vr (.bool (true)) rfl) (fun w => wr4_bs92_0 true w) (oS rfl (Yk.insM (ek := B8) (ev := partsV) (D := (fun _ : UInt8 => True)) (c := (⟨true, false, false, false, false, false, false, false⟩ : Parts)) u8Law u8_ok wr4_ty93 (vr (.map (some n3)) rfl) (vr (B8 (2)) rfl) (vr (.agg (partsC (⟨true, false, false, false, false, false, false, false⟩ : Parts)).toArray) rfl) hb11 trivial fun w15 hb16 hg17 hs18 => ?_)))
 have hE := row_fresh hE hg17 (Nat.le_trans (Nat.le_refl _) (by omega))
 clear hb11
 have hl19 : n3 < w15.heap.size := hb16.lt
 refine oS rfl (Yk.build1 (vr (.bool (true)) rfl) (fun w => wr4_bs92_1 true w) (oS rfl (Yk.insM (ek := B8) (ev := partsV) (D := (fun _ : UInt8 => True)) (c := (⟨false, true, false, false, false, false, false, false⟩ : Parts)) u8Law u8_ok wr4_ty93 (vr (.map (some n3)) rfl) (vr (B8 (3)) rfl) (vr (.agg (partsC (⟨false, true, false, false, false, false, false, false⟩ : Parts)).toArray) rfl) hb16 trivial fun w20 hb21 hg22 hs23 => ?_)))
 have hE := row_fresh hE hg22 (Nat.le_trans (Nat.le_refl _) (by omega))
 clear hb16
 have hl24 : n3 < w20.heap.size := hb21.lt
 refine oS rfl (Yk.build2 (vr (.bool (true)) rfl) (vr (.bool (true)) rfl) (fun w => wr4_bs92_2_4 true true w) (oS rfl (Yk.insM (ek := B8) (ev := partsV) (D := (fun _ : UInt8 => True)) (c := (⟨false, false, true, false, true, false, false, false⟩ : Parts)) u8Law u8_ok wr4_ty93 (vr (.map (some n3)) rfl) (vr (B8 (4)) rfl) (vr (.agg (partsC (⟨false, false, true, false, true, false, false, false⟩ : Parts)).toArray) rfl) hb21 trivial fun w25 hb26 hg27 hs28 => ?_)))
 have hE := row_fresh hE hg27 (Nat.le_trans (Nat.le_refl _) (by omega))
 clear hb21
 have hl29 : n3 < w25.heap.size := hb26.lt
 refine oS rfl (Yk.build1 (vr (.bool (true)) rfl) (fun w => wr4_bs92_3 true w) (oS rfl (Yk.insM (ek := B8) (ev := partsV) (D := (fun _ : UInt8 => True)) (c := (⟨false, false, false, true, false, false, false, false⟩ : Parts)) u8Law u8_ok wr4_ty93 (vr (.map (some n3)) rfl) (vr (B8 (5)) rfl) (vr (.agg (partsC (⟨false, false, false, true, false, false, false, false⟩ : Parts)).toArray) rfl) hb26 trivial fun w30 hb31 hg32 hs33 => ?_)))
 have hE := row_fresh hE hg32 (Nat.le_trans (Nat.le_refl _) (by omega))
 clear hb26
 have hl34 : n3 < w30.heap.size := hb31.lt
 refine oS rfl (Yk.build2 (vr (.bool (true)) rfl) (vr (.bool (true)) rfl) (fun w => wr4_bs92_3_5 true true w) (oS rfl (Yk.insM (ek := B8) (ev := partsV) (D := (fun _ : UInt8 => True)) (c := (⟨false, false, false, true, false, true, false, false⟩ : Parts)) u8Law u8_ok wr4_ty93 (vr (.map (some n3)) rfl) (vr (B8 (6)) rfl) (vr (.agg (partsC (⟨false, false, false, true, false, true, false, false⟩ : Parts)).toArray) rfl) hb31 trivial fun w35 hb36 hg37 hs38 => ?_)))
 have hE := row_fresh hE hg37 (Nat.le_trans (Nat.le_refl _) (by omega))
 clear hb31
 have hl39 : n3 < w35.heap.size := hb36.lt
 refine oS rfl (Yk.build3 (vr (.bool (true)) rfl) (vr (.bool (true)) rfl) (vr (.bool (true)) rfl) (fun w => wr4_bs92_2_4_6 true true true w) (oS rfl (Yk.insM (ek := B8) (ev := partsV) (D := (fun _ : UInt8 => True)) (c := (⟨false, false, true, false, true, false, true, false⟩ : Parts)) u8Law u8_ok wr4_ty93 (vr (.map (some n3)) rfl) (vr (B8 (7)) rfl) (vr (.agg (partsC (⟨false, false, true, false, true, false, true, false⟩ : Parts)).toArray) rfl) hb36 trivial fun w40 hb41 hg42 hs43 => ?_)))
 have hE := row_fresh hE hg42 (Nat.le_trans (Nat.le_refl _) (by omega))
 clear hb36
 have hl44 : n3 < w40.heap.size := hb41.lt
 refine oS rfl (Yk.build1 (vr (.bool (true)) rfl) (fun w => wr4_bs92_7 true w) (oS rfl (Yk.insM (ek := B8) (ev := partsV) (D := (fun _ : UInt8 => True)) (c := (⟨false, false, false, false, false, false, false, true⟩ : Parts)) u8Law u8_ok wr4_ty93 (vr (.map (some n3)) rfl) (vr (B8 (8)) rfl) (vr (.agg (partsC (⟨false, false, false, false, false, false, false, true⟩ : Parts)).toArray) rfl) hb41 trivial fun w45 hb46 hg47 hs48 => ?_)))
 have hE := row_fresh hE hg47 (Nat.le_trans (Nat.le_refl _) (by omega))
 clear hb41
 have hl49 : n3 < w45.heap.size := hb46.lt
 refine oM rfl (oA rfl (oZ (tN (hK2 _ _ (wpF_ret (postF_ret (fn := Tryd.f50) _ rfl [.map (some n3)] (.map (some n3)) rfl ⟨rfl, trivial⟩ ?_))))))
 refine ⟨_, rfl, hb46, hE, fun i o hi ho => ?_⟩
 have hb_ := (bl ho)
 obtain rfl : i = n3 := by omega
 obtain ⟨es, c, hc⟩ := MapF.isMapB hb46
 rw [hc] at ho
 exact ⟨es, c, (Option.some.inj ho).symm⟩

theorem absent_any (w : World) (x : MsgV) (hm : MsgAt w x) (p : Parts) :
  Calls Tryd.prog 56 #[.agg (msgC x).toArray, .agg (partsC p).toArray] w fun e w' => e = .returned (.bool (absentB x.1 p)) ∧ Ext w w' := by
 have hmr := hm.refs
 have hmw := hm.wants
 have hmh := hm.haves
 have hmb := hm.bytes
 refine calls_of_wpF (args := [.agg (msgC x).toArray, .agg (partsC p).toArray]) Tryd.func56 rfl 99 rfl (Nat.le_of_ble_eq_true rfl) ?_
 intro ρ0 hb
 have T0 : ρ0 0 = (.agg (msgC x).toArray : Value) := hb.get 0
 have T1 : ρ0 1 = (.agg (partsC p).toArray : Value) := hb.get 1
 clear hb
 have hE := Ext.refl w
 refine sk fun K1 hK1 => (wt (oS rfl (Yk.box (cs := (msgC x : List Value).toArray) T0 fun n2 w3 hn4 hb5 hx6 hs7 => ?_)))
 have hE := hE.trans hx6
 have hb8 := hb5; clear hb5
 have hl9 : n2 < w3.heap.size := by omega
 refine oS rfl (Yk.box (cs := (partsC p : List Value).toArray) T1 fun n10 w11 hn12 hb13 hx14 hs15 => ?_)
 have hA16 := Ext.refl w3
 have hea17 := hE
 have hz18 := hE.size
 have hlt19 := lte (bl hb8) hn12
 have hE := hE.trans hx14
 have hb8 := eb hx14 hb8
 have hA16 := hA16.trans hx14
 have hb20 := hb13; clear hb13
 have hl21 : n10 < w11.heap.size := by omega
 refine oA rfl (oZ (tN (hK1 _ _ (sk fun K22 hK22 => (wt (oS rfl (Yk.fieldAt wr4_fo92_0 (vr (PQ n10 0) rfl) (oS rfl (Yk.cell1 wr4_ty4 rfl (vr (PQ n10 0) rfl) (cellAt hb20 (show (partsC p)[0]? = some (.bool (p.refs) : Value) from parts_g0 p)) (oM rfl (opsF_mayV (PQ n2 2) rfl rfl (gF (vr (.bool (p.refs)) rfl)) (fun hG23 => Yk.fieldAt wr4_fo29_2 (vr (PQ n2 0) rfl) ⟨rfl, rfl⟩) (opsF_mayV (x.2.refs) rfl rfl (gF (vr (.bool (p.refs)) rfl)) (fun hG24 => Yk.cell1 wr4_ty22 rfl (mayT (vr (cond (!p.refs) (PQ n2 2) undef) rfl) hG24) (cellAt hb8 (show (msgC x)[2]? = some (x.2.refs : Value) from msg_g2 x)) ⟨rfl, rfl⟩) (opsF_mayV (NI ((x.1.refs).length)) rfl rfl (gF (vr (.bool (p.refs)) rfl)) (fun hG25 => Yk.lenRG wr4_ty22 (RG.of (hmr.keep hE) (mayT (vr (cond (!p.refs) (x.2.refs) undef) rfl) hG25)) ⟨rfl, rfl⟩) (opsF_mayV (.bool (decide (((x.1.refs).length : Nat) = (0)))) rfl rfl (gF (vr (.bool (p.refs)) rfl)) (fun hG26 => Yk.eqI (a := (((x.1.refs).length : Nat) : Int)) (b := ((0 : Nat) : Int)) (mayT (vr (cond (!p.refs) (NI ((x.1.refs).length)) undef) rfl) hG26) (vr (NI 0) rfl) (k_eql _ .i64 ((x.1.refs).length) (0)) ⟨rfl, rfl⟩) (oS rfl (Yk.pickOrN (vr (.bool (p.refs)) rfl) (vr (.bool (true)) rfl) (fun hA => (mayT (vr (cond (!p.refs) (.bool (decide (((x.1.refs).length : Nat) = (0)))) undef) rfl) (not_i hA))) fun bb27 hbb28 => (oM rfl (opsF_mayV (PQ n10 1) rfl rfl (gT (vr (.bool (bb27)) rfl)) (fun hG29 => Yk.fieldAt wr4_fo92_1 (vr (PQ n10 0) rfl) ⟨rfl, rfl⟩) (opsF_mayV (.bool (p.ids)) rfl rfl (gT (vr (.bool (bb27)) rfl)) (fun hG30 => Yk.cell1 wr4_ty4 rfl (mayT (vr (cond (bb27) (PQ n10 1) undef) rfl) hG30) (cellAt hb20 (show (partsC p)[1]? = some (.bool (p.ids) : Value) from parts_g1 p)) ⟨rfl, rfl⟩) ?_)))))))))))))))))))
 refine opsF_mayV (.bool (p.ids)) rfl rfl (gT (vr (.bool (bb27)) rfl)) (fun hG31 => Yk.move (mayT (vr (cond (bb27) (.bool (p.ids)) undef) rfl) hG31) ⟨rfl, rfl⟩) (opsF_mayV (PQ n2 3) rfl rfl (geF (vr (cond (bb27) (.bool (p.ids)) undef) rfl)) (fun hG32 => Yk.fieldAt wr4_fo29_3 (vr (PQ n2 0) rfl) ⟨rfl, rfl⟩) (opsF_mayV (x.2.wants) rfl rfl (geF (vr (cond (bb27) (.bool (p.ids)) undef) rfl)) (fun hG33 => Yk.cell1 wr4_ty23 rfl (mayT (vr (cond (bb27 && !p.ids) (PQ n2 3) undef) rfl) hG33) (cellAt hb8 (show (msgC x)[3]? = some (x.2.wants : Value) from msg_g3 x)) ⟨rfl, rfl⟩) (opsF_mayV (NI ((x.1.wants).length)) rfl rfl (geF (vr (cond (bb27) (.bool (p.ids)) undef) rfl)) (fun hG34 => Yk.lenRG wr4_ty23 (RG.of (hmw.keep hE) (mayT (vr (cond (bb27 && !p.ids) (x.2.wants) undef) rfl) hG34)) ⟨rfl, rfl⟩) (opsF_mayV (.bool (decide (((x.1.wants).length : Nat) = (0)))) rfl rfl (geF (vr (cond (bb27) (.bool (p.ids)) undef) rfl)) (fun hG35 => Yk.eqI (a := (((x.1.wants).length : Nat) : Int)) (b := ((0 : Nat) : Int)) (mayT (vr (cond (bb27 && !p.ids) (NI ((x.1.wants).length)) undef) rfl) hG35) (vr (NI 0) rfl) (k_eql _ .i64 ((x.1.wants).length) (0)) ⟨rfl, rfl⟩) (opsF_mayV (.bool (decide (((x.1.wants).length : Nat) = (0)))) rfl rfl (geF (vr (cond (bb27) (.bool (p.ids)) undef) rfl)) (fun hG36 => Yk.move (mayT (vr (cond (bb27 && !p.ids) (.bool (decide (((x.1.wants).length : Nat) = (0)))) undef) rfl) hG36) ⟨rfl, rfl⟩) (opsF_mayV (PQ n2 4) rfl rfl (geT (vr (cond (bb27 && !p.ids) (.bool (decide (((x.1.wants).length : Nat) = (0)))) undef) rfl)) (fun hG37 => Yk.fieldAt wr4_fo29_4 (vr (PQ n2 0) rfl) ⟨rfl, rfl⟩) (opsF_mayV (x.2.haves) rfl rfl (geT (vr (cond (bb27 && !p.ids) (.bool (decide (((x.1.wants).length : Nat) = (0)))) undef) rfl)) (fun hG38 => Yk.cell1 wr4_ty23 rfl (mayT (vr (cond ((bb27 && !p.ids) && (decide (((x.1.wants).length : Nat) = (0)))) (PQ n2 4) undef) rfl) hG38) (cellAt hb8 (show (msgC x)[4]? = some (x.2.haves : Value) from msg_g4 x)) ⟨rfl, rfl⟩) (opsF_mayV (NI ((x.1.haves).length)) rfl rfl (geT (vr (cond (bb27 && !p.ids) (.bool (decide (((x.1.wants).length : Nat) = (0)))) undef) rfl)) (fun hG39 => Yk.lenRG wr4_ty23 (RG.of (hmh.keep hE) (mayT (vr (cond ((bb27 && !p.ids) && (decide (((x.1.wants).length : Nat) = (0)))) (x.2.haves) undef) rfl) hG39)) ⟨rfl, rfl⟩) (opsF_mayV (.bool (decide (((x.1.haves).length : Nat) = (0)))) rfl rfl (geT (vr (cond (bb27 && !p.ids) (.bool (decide (((x.1.wants).length : Nat) = (0)))) undef) rfl)) (fun hG40 => Yk.eqI (a := (((x.1.haves).length : Nat) : Int)) (b := ((0 : Nat) : Int)) (mayT (vr (cond ((bb27 && !p.ids) && (decide (((x.1.wants).length : Nat) = (0)))) (NI ((x.1.haves).length)) undef) rfl) hG40) (vr (NI 0) rfl) (k_eql _ .i64 ((x.1.haves).length) (0)) ⟨rfl, rfl⟩) (opsF_mayB ((decide (((x.1.wants).length : Nat) = (0))) && (decide (((x.1.haves).length : Nat) = (0)))) rfl rfl (geF (vr (cond (bb27) (.bool (p.ids)) undef) rfl)) (fun hG41 => Yk.pickAnd (mayT (vr (cond (bb27 && !p.ids) (.bool (decide (((x.1.wants).length : Nat) = (0)))) undef) rfl) hG41) (fun hA => (mayT (vr (cond ((bb27 && !p.ids) && (decide (((x.1.wants).length : Nat) = (0)))) (.bool (decide (((x.1.haves).length : Nat) = (0)))) undef) rfl) (and_i hG41 hA))) (vr (.bool (false)) rfl) ⟨rfl, rfl⟩) fun bb42 hbb43 => ?_))))))))))
 refine opsF_mayB (p.ids || bb42) rfl rfl (gT (vr (.bool (bb27)) rfl)) (fun hG44 => Yk.pickOr (mayT (vr (cond (bb27) (.bool (p.ids)) undef) rfl) hG44) (vr (.bool (true)) rfl) (fun hA => (mayT (vr (cond (bb27 && !p.ids) (.bool (bb42)) undef) rfl) (and_i hG44 (not_i hA)))) ⟨rfl, rfl⟩) fun bb45 hbb46 => (oS rfl (Yk.pickAndN (vr (.bool (bb27)) rfl) (fun hA => (mayT (vr (cond (bb27) (.bool (bb45)) undef) rfl) hA)) (vr (.bool (false)) rfl) fun bb47 hbb48 => (oM rfl (opsF_mayV (PQ n10 2) rfl rfl (gT (vr (.bool (bb47)) rfl)) (fun hG49 => Yk.fieldAt wr4_fo92_2 (vr (PQ n10 0) rfl) ⟨rfl, rfl⟩) (opsF_mayV (.bool (p.size)) rfl rfl (gT (vr (.bool (bb47)) rfl)) (fun hG50 => Yk.cell1 wr4_ty4 rfl (mayT (vr (cond (bb47) (PQ n10 2) undef) rfl) hG50) (cellAt hb20 (show (partsC p)[2]? = some (.bool (p.size) : Value) from parts_g2 p)) ⟨rfl, rfl⟩) (opsF_mayV (.bool (p.size)) rfl rfl (gT (vr (.bool (bb47)) rfl)) (fun hG51 => Yk.move (mayT (vr (cond (bb47) (.bool (p.size)) undef) rfl) hG51) ⟨rfl, rfl⟩) (opsF_mayV (PQ n2 5) rfl rfl (geF (vr (cond (bb47) (.bool (p.size)) undef) rfl)) (fun hG52 => Yk.fieldAt wr4_fo29_5 (vr (PQ n2 0) rfl) ⟨rfl, rfl⟩) (opsF_mayV (.int .i64 (x.1.size : Int)) rfl rfl (geF (vr (cond (bb47) (.bool (p.size)) undef) rfl)) (fun hG53 => Yk.cell1 wr4_ty3 rfl (mayT (vr (cond (bb47 && !p.size) (PQ n2 5) undef) rfl) hG53) (cellAt hb8 (show (msgC x)[5]? = some (.int .i64 (x.1.size : Int) : Value) from msg_g5 x)) ⟨rfl, rfl⟩) (opsF_mayV (.bool (decide ((x.1.size : Int) = ((0 : Nat) : Int)))) rfl rfl (geF (vr (cond (bb47) (.bool (p.size)) undef) rfl)) (fun hG54 => Yk.eqI (mayT (vr (cond (bb47 && !p.size) (.int .i64 (x.1.size : Int)) undef) rfl) hG54) (vr (NI 0) rfl) (z_eql _ .i64 (x.1.size : Int) ((0 : Nat) : Int)) ⟨rfl, rfl⟩) (opsF_mayB (p.size || (decide ((x.1.size : Int) = ((0 : Nat) : Int)))) rfl rfl (gT (vr (.bool (bb47)) rfl)) (fun hG55 => Yk.pickOr (mayT (vr (cond (bb47) (.bool (p.size)) undef) rfl) hG55) (vr (.bool (true)) rfl) (fun hA => (mayT (vr (cond (bb47 && !p.size) (.bool (decide ((x.1.size : Int) = ((0 : Nat) : Int)))) undef) rfl) (and_i hG55 (not_i hA)))) ⟨rfl, rfl⟩) fun bb56 hbb57 => (oS rfl (Yk.pickAndN (vr (.bool (bb47)) rfl) (fun hA => (mayT (vr (cond (bb47) (.bool (bb56)) undef) rfl) hA)) (vr (.bool (false)) rfl) fun bb58 hbb59 => (oM rfl (opsF_mayV (PQ n10 3) rfl rfl (gT (vr (.bool (bb58)) rfl)) (fun hG60 => Yk.fieldAt wr4_fo92_3 (vr (PQ n10 0) rfl) ⟨rfl, rfl⟩) (opsF_mayV (.bool (p.at_)) rfl rfl (gT (vr (.bool (bb58)) rfl)) (fun hG61 => Yk.cell1 wr4_ty4 rfl (mayT (vr (cond (bb58) (PQ n10 3) undef) rfl) hG61) (cellAt hb20 (show (partsC p)[3]? = some (.bool (p.at_) : Value) from parts_g3 p)) ⟨rfl, rfl⟩) (opsF_mayV (.bool (p.at_)) rfl rfl (gT (vr (.bool (bb58)) rfl)) (fun hG62 => Yk.move (mayT (vr (cond (bb58) (.bool (p.at_)) undef) rfl) hG62) ⟨rfl, rfl⟩) (opsF_mayV (PQ n2 6) rfl rfl (geF (vr (cond (bb58) (.bool (p.at_)) undef) rfl)) (fun hG63 => Yk.fieldAt wr4_fo29_6 (vr (PQ n2 0) rfl) ⟨rfl, rfl⟩) ?_)))))))))))))))))
 refine opsF_mayV (.int .i64 (x.1.at_ : Int)) rfl rfl (geF (vr (cond (bb58) (.bool (p.at_)) undef) rfl)) (fun hG64 => Yk.cell1 wr4_ty3 rfl (mayT (vr (cond (bb58 && !p.at_) (PQ n2 6) undef) rfl) hG64) (cellAt hb8 (show (msgC x)[6]? = some (.int .i64 (x.1.at_ : Int) : Value) from msg_g6 x)) ⟨rfl, rfl⟩) (opsF_mayV (.bool (decide ((x.1.at_ : Int) = ((0 : Nat) : Int)))) rfl rfl (geF (vr (cond (bb58) (.bool (p.at_)) undef) rfl)) (fun hG65 => Yk.eqI (mayT (vr (cond (bb58 && !p.at_) (.int .i64 (x.1.at_ : Int)) undef) rfl) hG65) (vr (NI 0) rfl) (z_eql _ .i64 (x.1.at_ : Int) ((0 : Nat) : Int)) ⟨rfl, rfl⟩) (opsF_mayB (p.at_ || (decide ((x.1.at_ : Int) = ((0 : Nat) : Int)))) rfl rfl (gT (vr (.bool (bb58)) rfl)) (fun hG66 => Yk.pickOr (mayT (vr (cond (bb58) (.bool (p.at_)) undef) rfl) hG66) (vr (.bool (true)) rfl) (fun hA => (mayT (vr (cond (bb58 && !p.at_) (.bool (decide ((x.1.at_ : Int) = ((0 : Nat) : Int)))) undef) rfl) (and_i hG66 (not_i hA)))) ⟨rfl, rfl⟩) fun bb67 hbb68 => (oS rfl (Yk.pickAndN (vr (.bool (bb58)) rfl) (fun hA => (mayT (vr (cond (bb58) (.bool (bb67)) undef) rfl) hA)) (vr (.bool (false)) rfl) fun bb69 hbb70 => (oM rfl (opsF_mayV (PQ n10 4) rfl rfl (gT (vr (.bool (bb69)) rfl)) (fun hG71 => Yk.fieldAt wr4_fo92_4 (vr (PQ n10 0) rfl) ⟨rfl, rfl⟩) (opsF_mayV (.bool (p.id)) rfl rfl (gT (vr (.bool (bb69)) rfl)) (fun hG72 => Yk.cell1 wr4_ty4 rfl (mayT (vr (cond (bb69) (PQ n10 4) undef) rfl) hG72) (cellAt hb20 (show (partsC p)[4]? = some (.bool (p.id) : Value) from parts_g4 p)) ⟨rfl, rfl⟩) (opsF_mayV (.bool (p.id)) rfl rfl (gT (vr (.bool (bb69)) rfl)) (fun hG73 => Yk.move (mayT (vr (cond (bb69) (.bool (p.id)) undef) rfl) hG73) ⟨rfl, rfl⟩) (opsF_mayV (PQ n2 7) rfl rfl (geF (vr (cond (bb69) (.bool (p.id)) undef) rfl)) (fun hG74 => Yk.fieldAt wr4_fo29_7 (vr (PQ n2 0) rfl) ⟨rfl, rfl⟩) (opsF_mayV (AB x.1.id.1) rfl rfl (geF (vr (cond (bb69) (.bool (p.id)) undef) rfl)) (fun hG75 => Yk.loadPR (PR.blk hb8 (msg_m7 x) (msg_n7 x) (mayT (vr (cond (bb69 && !p.id) (PQ n2 7) undef) rfl) hG75)) wr4_ty25 rfl (sizeId_of x.1.id.2) ⟨rfl, rfl⟩) (opsF_mayC (.bool (zeroB x.1.id)) rfl rfl (geF (vr (cond (bb69) (.bool (p.id)) undef) rfl)) (fun hG76 => Yk.callA1 wr4_pl60 (mayT (vr (cond (bb69 && !p.id) (AB x.1.id.1) undef) rfl) hG76) ((wzero_any _ x.1.id).mono (by rintro e w2 ⟨rfl, hx⟩; exact ⟨_, rfl, rfl, hx⟩))) fun w78 hx79 => ?_)))))))))))
 have hE := hE.trans hx79
 have hb8 := eb hx79 hb8
 have hA16 := hA16.trans hx79
 have hb20 := eb hx79 hb20
 refine opsF_mayB (p.id || (zeroB x.1.id)) rfl rfl (gT (vr (.bool (bb69)) rfl)) (fun hG80 => Yk.pickOr (mayT (vr (cond (bb69) (.bool (p.id)) undef) rfl) hG80) (vr (.bool (true)) rfl) (fun hA => (mayT (vr (cond (bb69 && !p.id) (.bool (zeroB x.1.id)) undef) rfl) (and_i hG80 (not_i hA)))) ⟨rfl, rfl⟩) fun bb81 hbb82 => (oS rfl (Yk.pickAndN (vr (.bool (bb69)) rfl) (fun hA => (mayT (vr (cond (bb69) (.bool (bb81)) undef) rfl) hA)) (vr (.bool (false)) rfl) fun bb83 hbb84 => (oM rfl (opsF_mayV (PQ n10 5) rfl rfl (gT (vr (.bool (bb83)) rfl)) (fun hG85 => Yk.fieldAt wr4_fo92_5 (vr (PQ n10 0) rfl) ⟨rfl, rfl⟩) (opsF_mayV (.bool (p.bytes)) rfl rfl (gT (vr (.bool (bb83)) rfl)) (fun hG86 => Yk.cell1 wr4_ty4 rfl (mayT (vr (cond (bb83) (PQ n10 5) undef) rfl) hG86) (cellAt hb20 (show (partsC p)[5]? = some (.bool (p.bytes) : Value) from parts_g5 p)) ⟨rfl, rfl⟩) (opsF_mayV (.bool (p.bytes)) rfl rfl (gT (vr (.bool (bb83)) rfl)) (fun hG87 => Yk.move (mayT (vr (cond (bb83) (.bool (p.bytes)) undef) rfl) hG87) ⟨rfl, rfl⟩) (opsF_mayV (PQ n2 39) rfl rfl (geF (vr (cond (bb83) (.bool (p.bytes)) undef) rfl)) (fun hG88 => Yk.fieldAt wr4_fo29_8 (vr (PQ n2 0) rfl) ⟨rfl, rfl⟩) (opsF_mayV (x.2.bytes) rfl rfl (geF (vr (cond (bb83) (.bool (p.bytes)) undef) rfl)) (fun hG89 => Yk.cell1 wr4_ty26 rfl (mayT (vr (cond (bb83 && !p.bytes) (PQ n2 39) undef) rfl) hG89) (cellAt hb8 (show (msgC x)[39]? = some (x.2.bytes : Value) from msg_g8 x)) ⟨rfl, rfl⟩) (opsF_mayV (NI ((x.1.bytes : List UInt8).length)) rfl rfl (geF (vr (cond (bb83) (.bool (p.bytes)) undef) rfl)) (fun hG90 => Yk.lenRB wr4_ty26 (RB.of (hmb.keep hE) (mayT (vr (cond (bb83 && !p.bytes) (x.2.bytes) undef) rfl) hG90)) ⟨rfl, rfl⟩) (opsF_mayV (.bool (decide (((x.1.bytes : List UInt8).length : Nat) = (0)))) rfl rfl (geF (vr (cond (bb83) (.bool (p.bytes)) undef) rfl)) (fun hG91 => Yk.eqI (a := (((x.1.bytes : List UInt8).length : Nat) : Int)) (b := ((0 : Nat) : Int)) (mayT (vr (cond (bb83 && !p.bytes) (NI ((x.1.bytes : List UInt8).length)) undef) rfl) hG91) (vr (NI 0) rfl) (k_eql _ .i64 ((x.1.bytes : List UInt8).length) (0)) ⟨rfl, rfl⟩) (opsF_mayB (p.bytes || (decide (((x.1.bytes : List UInt8).length : Nat) = (0)))) rfl rfl (gT (vr (.bool (bb83)) rfl)) (fun hG92 => Yk.pickOr (mayT (vr (cond (bb83) (.bool (p.bytes)) undef) rfl) hG92) (vr (.bool (true)) rfl) (fun hA => (mayT (vr (cond (bb83 && !p.bytes) (.bool (decide (((x.1.bytes : List UInt8).length : Nat) = (0)))) undef) rfl) (and_i hG92 (not_i hA)))) ⟨rfl, rfl⟩) fun bb93 hbb94 => (oS rfl (Yk.pickAndN (vr (.bool (bb83)) rfl) (fun hA => (mayT (vr (cond (bb83) (.bool (bb93)) undef) rfl) hA)) (vr (.bool (false)) rfl) fun bb95 hbb96 => (oM rfl (opsF_mayV (PQ n10 6) rfl rfl (gT (vr (.bool (bb95)) rfl)) (fun hG97 => Yk.fieldAt wr4_fo92_6 (vr (PQ n10 0) rfl) ⟨rfl, rfl⟩) (opsF_mayV (.bool (p.push)) rfl rfl (gT (vr (.bool (bb95)) rfl)) (fun hG98 => Yk.cell1 wr4_ty4 rfl (mayT (vr (cond (bb95) (PQ n10 6) undef) rfl) hG98) (cellAt hb20 (show (partsC p)[6]? = some (.bool (p.push) : Value) from parts_g6 p)) ⟨rfl, rfl⟩) ?_))))))))))))))))
 refine opsF_mayV (.bool (p.push)) rfl rfl (gT (vr (.bool (bb95)) rfl)) (fun hG99 => Yk.move (mayT (vr (cond (bb95) (.bool (p.push)) undef) rfl) hG99) ⟨rfl, rfl⟩) (opsF_mayV (PQ n2 40) rfl rfl (geF (vr (cond (bb95) (.bool (p.push)) undef) rfl)) (fun hG100 => Yk.fieldAt wr4_fo29_9 (vr (PQ n2 0) rfl) ⟨rfl, rfl⟩) (opsF_mayV (St (x.1.name)) rfl rfl (geF (vr (cond (bb95) (.bool (p.push)) undef) rfl)) (fun hG101 => Yk.cell1 wr4_ty9 rfl (mayT (vr (cond (bb95 && !p.push) (PQ n2 40) undef) rfl) hG101) (cellAt hb8 (show (msgC x)[40]? = some (St (x.1.name) : Value) from msg_g9 x)) ⟨rfl, rfl⟩) (opsF_mayV (.bool (decide ((x.1.name : List UInt8) = (([] : List UInt8) : List UInt8)))) rfl rfl (geF (vr (cond (bb95) (.bool (p.push)) undef) rfl)) (fun hG102 => Yk.eqSt (l := x.1.name) (m := ([] : List UInt8)) (.inl rfl) (mayT (vr (cond (bb95 && !p.push) (St (x.1.name)) undef) rfl) hG102) (vr (St (([] : List UInt8))) rfl) (decide ((x.1.name : List UInt8) = (([] : List UInt8) : List UInt8))) rfl ⟨rfl, rfl⟩) (opsF_mayV (.bool (decide ((x.1.name : List UInt8) = (([] : List UInt8) : List UInt8)))) rfl rfl (geF (vr (cond (bb95) (.bool (p.push)) undef) rfl)) (fun hG103 => Yk.move (mayT (vr (cond (bb95 && !p.push) (.bool (decide ((x.1.name : List UInt8) = (([] : List UInt8) : List UInt8)))) undef) rfl) hG103) ⟨rfl, rfl⟩) (opsF_mayV (PQ n2 41) rfl rfl (geT (vr (cond (bb95 && !p.push) (.bool (decide ((x.1.name : List UInt8) = (([] : List UInt8) : List UInt8)))) undef) rfl)) (fun hG104 => Yk.fieldAt wr4_fo29_10 (vr (PQ n2 0) rfl) ⟨rfl, rfl⟩) (opsF_mayV (AB x.1.old.1) rfl rfl (geT (vr (cond (bb95 && !p.push) (.bool (decide ((x.1.name : List UInt8) = (([] : List UInt8) : List UInt8)))) undef) rfl)) (fun hG105 => Yk.loadPR (PR.blk hb8 (msg_m10 x) (msg_n10 x) (mayT (vr (cond ((bb95 && !p.push) && (decide ((x.1.name : List UInt8) = (([] : List UInt8) : List UInt8)))) (PQ n2 41) undef) rfl) hG105)) wr4_ty25 rfl (sizeId_of x.1.old.2) ⟨rfl, rfl⟩) (opsF_mayC (.bool (zeroB x.1.old)) rfl rfl (geT (vr (cond (bb95 && !p.push) (.bool (decide ((x.1.name : List UInt8) = (([] : List UInt8) : List UInt8)))) undef) rfl)) (fun hG106 => Yk.callA1 wr4_pl60 (mayT (vr (cond ((bb95 && !p.push) && (decide ((x.1.name : List UInt8) = (([] : List UInt8) : List UInt8)))) (AB x.1.old.1) undef) rfl) hG106) ((wzero_any _ x.1.old).mono (by rintro e w2 ⟨rfl, hx⟩; exact ⟨_, rfl, rfl, hx⟩))) fun w108 hx109 => ?_)))))))
 have hE := hE.trans hx109
 have hb8 := eb hx109 hb8
 have hA16 := hA16.trans hx109
 have hb20 := eb hx109 hb20
 refine opsF_mayB ((decide ((x.1.name : List UInt8) = (([] : List UInt8) : List UInt8))) && (zeroB x.1.old)) rfl rfl (geF (vr (cond (bb95) (.bool (p.push)) undef) rfl)) (fun hG110 => Yk.pickAnd (mayT (vr (cond (bb95 && !p.push) (.bool (decide ((x.1.name : List UInt8) = (([] : List UInt8) : List UInt8)))) undef) rfl) hG110) (fun hA => (mayT (vr (cond ((bb95 && !p.push) && (decide ((x.1.name : List UInt8) = (([] : List UInt8) : List UInt8)))) (.bool (zeroB x.1.old)) undef) rfl) (and_i hG110 hA))) (vr (.bool (false)) rfl) ⟨rfl, rfl⟩) fun bb111 hbb112 => (opsF_mayV (.bool (bb111)) rfl rfl (geF (vr (cond (bb95) (.bool (p.push)) undef) rfl)) (fun hG113 => Yk.move (mayT (vr (cond (bb95 && !p.push) (.bool (bb111)) undef) rfl) hG113) ⟨rfl, rfl⟩) (opsF_mayV (PQ n2 73) rfl rfl (geT (vr (cond (bb95 && !p.push) (.bool (bb111)) undef) rfl)) (fun hG114 => Yk.fieldAt wr4_fo29_11 (vr (PQ n2 0) rfl) ⟨rfl, rfl⟩) (opsF_mayV (AB x.1.new.1) rfl rfl (geT (vr (cond (bb95 && !p.push) (.bool (bb111)) undef) rfl)) (fun hG115 => Yk.loadPR (PR.blk hb8 (msg_m11 x) (msg_n11 x) (mayT (vr (cond ((bb95 && !p.push) && bb111) (PQ n2 73) undef) rfl) hG115)) wr4_ty25 rfl (sizeId_of x.1.new.2) ⟨rfl, rfl⟩) (opsF_mayC (.bool (zeroB x.1.new)) rfl rfl (geT (vr (cond (bb95 && !p.push) (.bool (bb111)) undef) rfl)) (fun hG116 => Yk.callA1 wr4_pl60 (mayT (vr (cond ((bb95 && !p.push) && bb111) (AB x.1.new.1) undef) rfl) hG116) ((wzero_any _ x.1.new).mono (by rintro e w2 ⟨rfl, hx⟩; exact ⟨_, rfl, rfl, hx⟩))) fun w118 hx119 => ?_))))
 have hE := hE.trans hx119
 have hb8 := eb hx119 hb8
 have hA16 := hA16.trans hx119
 have hb20 := eb hx119 hb20
 refine opsF_mayB (bb111 && (zeroB x.1.new)) rfl rfl (geF (vr (cond (bb95) (.bool (p.push)) undef) rfl)) (fun hG120 => Yk.pickAnd (mayT (vr (cond (bb95 && !p.push) (.bool (bb111)) undef) rfl) hG120) (fun hA => (mayT (vr (cond ((bb95 && !p.push) && bb111) (.bool (zeroB x.1.new)) undef) rfl) (and_i hG120 hA))) (vr (.bool (false)) rfl) ⟨rfl, rfl⟩) fun bb121 hbb122 => (opsF_mayV (.bool (bb121)) rfl rfl (geF (vr (cond (bb95) (.bool (p.push)) undef) rfl)) (fun hG123 => Yk.move (mayT (vr (cond (bb95 && !p.push) (.bool (bb121)) undef) rfl) hG123) ⟨rfl, rfl⟩) (opsF_mayV (PQ n2 105) rfl rfl (geT (vr (cond (bb95 && !p.push) (.bool (bb121)) undef) rfl)) (fun hG124 => Yk.fieldAt wr4_fo29_12 (vr (PQ n2 0) rfl) ⟨rfl, rfl⟩) (opsF_mayV (.bool (x.1.force)) rfl rfl (geT (vr (cond (bb95 && !p.push) (.bool (bb121)) undef) rfl)) (fun hG125 => Yk.cell1 wr4_ty4 rfl (mayT (vr (cond ((bb95 && !p.push) && bb121) (PQ n2 105) undef) rfl) hG125) (cellAt hb8 (show (msgC x)[105]? = some (.bool (x.1.force) : Value) from msg_g12 x)) ⟨rfl, rfl⟩) (opsF_mayV (.bool (!(x.1.force))) rfl rfl (geT (vr (cond (bb95 && !p.push) (.bool (bb121)) undef) rfl)) (fun hG126 => Yk.notB (mayT (vr (cond ((bb95 && !p.push) && bb121) (.bool (x.1.force)) undef) rfl) hG126) ⟨rfl, rfl⟩) (opsF_mayB (bb121 && (!(x.1.force))) rfl rfl (geF (vr (cond (bb95) (.bool (p.push)) undef) rfl)) (fun hG127 => Yk.pickAnd (mayT (vr (cond (bb95 && !p.push) (.bool (bb121)) undef) rfl) hG127) (fun hA => (mayT (vr (cond ((bb95 && !p.push) && bb121) (.bool (!(x.1.force))) undef) rfl) (and_i hG127 hA))) (vr (.bool (false)) rfl) ⟨rfl, rfl⟩) fun bb128 hbb129 => (opsF_mayB (p.push || bb128) rfl rfl (gT (vr (.bool (bb95)) rfl)) (fun hG130 => Yk.pickOr (mayT (vr (cond (bb95) (.bool (p.push)) undef) rfl) hG130) (vr (.bool (true)) rfl) (fun hA => (mayT (vr (cond (bb95 && !p.push) (.bool (bb128)) undef) rfl) (and_i hG130 (not_i hA)))) ⟨rfl, rfl⟩) fun bb131 hbb132 => (oS rfl (Yk.pickAndN (vr (.bool (bb95)) rfl) (fun hA => (mayT (vr (cond (bb95) (.bool (bb131)) undef) rfl) hA)) (vr (.bool (false)) rfl) fun bb133 hbb134 => (oM rfl (opsF_mayV (PQ n10 7) rfl rfl (gT (vr (.bool (bb133)) rfl)) (fun hG135 => Yk.fieldAt wr4_fo92_7 (vr (PQ n10 0) rfl) ⟨rfl, rfl⟩) (opsF_mayV (.bool (p.code)) rfl rfl (gT (vr (.bool (bb133)) rfl)) (fun hG136 => Yk.cell1 wr4_ty4 rfl (mayT (vr (cond (bb133) (PQ n10 7) undef) rfl) hG136) (cellAt hb20 (show (partsC p)[7]? = some (.bool (p.code) : Value) from parts_g7 p)) ⟨rfl, rfl⟩) (opsF_mayV (.bool (p.code)) rfl rfl (gT (vr (.bool (bb133)) rfl)) (fun hG137 => Yk.move (mayT (vr (cond (bb133) (.bool (p.code)) undef) rfl) hG137) ⟨rfl, rfl⟩) (opsF_mayV (PQ n2 106) rfl rfl (geF (vr (cond (bb133) (.bool (p.code)) undef) rfl)) (fun hG138 => Yk.fieldAt wr4_fo29_13 (vr (PQ n2 0) rfl) ⟨rfl, rfl⟩) (opsF_mayV (.int .i64 (x.1.code : Int)) rfl rfl (geF (vr (cond (bb133) (.bool (p.code)) undef) rfl)) (fun hG139 => Yk.cell1 wr4_ty27 rfl (mayT (vr (cond (bb133 && !p.code) (PQ n2 106) undef) rfl) hG139) (cellAt hb8 (show (msgC x)[106]? = some (.int .i64 (x.1.code : Int) : Value) from msg_g13 x)) ⟨rfl, rfl⟩) ?_))))))))))))))
 refine opsF_mayV (.bool (decide ((x.1.code : Int) = ((0 : Nat) : Int)))) rfl rfl (geF (vr (cond (bb133) (.bool (p.code)) undef) rfl)) (fun hG140 => Yk.eqI (mayT (vr (cond (bb133 && !p.code) (.int .i64 (x.1.code : Int)) undef) rfl) hG140) (vr (NI 0) rfl) (z_eql _ .i64 (x.1.code : Int) ((0 : Nat) : Int)) ⟨rfl, rfl⟩) (opsF_mayB (p.code || (decide ((x.1.code : Int) = ((0 : Nat) : Int)))) rfl rfl (gT (vr (.bool (bb133)) rfl)) (fun hG141 => Yk.pickOr (mayT (vr (cond (bb133) (.bool (p.code)) undef) rfl) hG141) (vr (.bool (true)) rfl) (fun hA => (mayT (vr (cond (bb133 && !p.code) (.bool (decide ((x.1.code : Int) = ((0 : Nat) : Int)))) undef) rfl) (and_i hG141 (not_i hA)))) ⟨rfl, rfl⟩) fun bb142 hbb143 => (oS rfl (Yk.pickAndN (vr (.bool (bb133)) rfl) (fun hA => (mayT (vr (cond (bb133) (.bool (bb142)) undef) rfl) hA)) (vr (.bool (false)) rfl) fun bb144 hbb145 => (oA rfl (oL_ [(0, .agg (msgC x).toArray), (1, .agg (partsC p).toArray), (2, PQ n2 0), (3, PQ n10 0), (4, .bool (bb144))] ⟨T0, T1, rfl, rfl, rfl, trivial⟩ fun ρ146 ⟨T0, T1, T2, T3, T4, _⟩ => (tN (hK22 _ _ (wpF_ret (postF_ret (fn := Tryd.f56) _ rfl [.bool (bb144)] (.bool (bb144)) rfl ⟨T4, trivial⟩ ?_)))))))))
 subst hbb28 hbb43 hbb46 hbb48 hbb57 hbb59 hbb68 hbb70 hbb82 hbb84 hbb94 hbb96 hbb112 hbb122 hbb129 hbb132 hbb134 hbb143 hbb145
 exact ⟨rfl, hE⟩

theorem right_any (w : World) (x : MsgV) (hm : MsgAt w x) (hL : MsgLt x.1) :
  Calls Tryd.prog 19 #[.agg (msgC x).toArray] w fun e w' => e = .returned (.bool (rightB x.1)) ∧ Ext w w' := by
 have hmr := hm.refs
 have hmw := hm.wants
 have hmh := hm.haves
 have hmb := hm.bytes
 refine calls_of_wpF (args := [.agg (msgC x).toArray]) Tryd.func19 rfl 88 rfl (Nat.le_of_ble_eq_true rfl) ?_
 intro ρ0 hb
 have T0 : ρ0 0 = (.agg (msgC x).toArray : Value) := hb.get 0
 clear hb
 have hE := Ext.refl w
 refine sk fun K1 hK1 => (wt (oS rfl (Yk.box (cs := (msgC x : List Value).toArray) T0 fun n2 w3 hn4 hb5 hx6 hs7 => ?_)))
 have hE := hE.trans hx6
 have hb8 := hb5; clear hb5
 have hl9 : n2 < w3.heap.size := by omega
 refine oA rfl (oZ ?_)
 rcases hK : kindsG x.1.kind with _ | p
 ·refine tN (hK1 _ _ (sk fun K10 hK10 => ?_))
  have hA11 := Ext.refl w3
  have hea12 := hE
  have hz13 := hE.size
  have hlt14 : n2 < w3.heap.size := (bl hb8)
  refine wpF_draw_newK 0 7 8 9 92 (partsC (⟨false, false, false, false, false, false, false, false⟩ : Parts)).toArray (partsC dParts).toArray [fun x w' => ∃ b, x = .map (some b) ∧ MapF B8 partsV (fun _ : UInt8 => True) w' b kindsG, Is (PQ n2 0), Is (B8 (x.1.kind)), Is (.tuple #[.agg (partsC dParts).toArray, .bool (false)]), Is (.tuple #[.agg (partsC dParts).toArray, .bool (false)]), Is (.agg (partsC dParts).toArray), Is (.bool (false)), RowK w3 92 8, (fun _ _ => True)] (by kernel_rfl) [6, 7, 8, 9, 5, 10, 11, 3, 4] (by kernel_rfl) (by kernel_rfl) (by kernel_rfl) (by kernel_rfl) rfl rfl (by kernel_rfl) rfl rfl rfl rfl rfl rfl rfl ⟨(fun _ _ _ ⟨b, h1, h2⟩ k => ⟨b, h1, MapF.stabK h2 k⟩), Stab.is _, Stab.is _, Stab.is _, Stab.is _, Stab.is _, Stab.is _, RowK.stab _ _ _, Stab.any, trivial⟩ rfl ?hs1001 ?hQ1001
  case hs1001 =>
   refine ⟨?_, ?_, ?_, ?_, ?_, ?_, ?_, ?_, ?_, ?_, trivial⟩
   ·refine stepFC (stepN rfl fun σ w1 hC h => ?_)
    have hC : Ext w3 w1 := hC
    refine Yk.callA0 wr4_pl50  ((kinds_any _).mono ?_)
    rintro e w2 ⟨b, rfl, hmk, hx, hom⟩
    exact ⟨_, rfl, ⟨hx, hom⟩, ⟨b, rfl, hmk⟩⟩
   ·refine stepFC (stepN rfl fun σ w1 hC h => ?_)
    have hC : Ext w3 w1 := hC
    have e1 : σ 1 = PQ n2 0 := (eqo (h 1 (by decide))).trans rfl
    exact Yk.fieldAt wr4_fo29_0 e1 ⟨rfl, rfl⟩
   ·refine stepFC (stepN rfl fun σ w1 hC h => ?_)
    have hC : Ext w3 w1 := hC
    have e7 := eqo (h 7 (by decide))
    exact Yk.cell1 wr4_ty5 rfl e7 (cellAt (eb hC hb8) (show (msgC x)[0]? = some (B8 (x.1.kind) : Value) from msg_g0 x)) ⟨rfl, rfl⟩
   ·refine stepFC (stepN rfl fun σ w1 hC h => ?_)
    have hC : Ext w3 w1 := hC
    have e6 : (fun x w' => ∃ b, x = .map (some b) ∧ MapF B8 partsV (fun _ : UInt8 => True) w' b kindsG) (σ 6) w1 := h 6 (by decide)
    have e8 := eqo (h 8 (by decide))
    obtain ⟨b6, k6, m6⟩ := (show ∃ b, σ 6 = .map (some b) ∧ MapF B8 partsV (fun _ : UInt8 => True) w1 b kindsG from e6)
    exact Yk.lookOkN (ek := B8) (ev := partsV) (D := fun _ : UInt8 => True) u8Law u8_ok (fun _ _ => b8_inj) wr4_ty93 (z := partsV dParts) zeroParts k6 e8 m6 trivial hK ⟨rfl, rfl⟩
   ·refine stepFC (stepN rfl fun σ w1 hC h => ?_)
    have hC : Ext w3 w1 := hC
    have e9 := eqo (h 9 (by decide))
    exact Yk.move e9 ⟨rfl, rfl⟩
   ·refine stepFC (stepN rfl fun σ w1 hC h => ?_)
    have hC : Ext w3 w1 := hC
    have e5 := eqo (h 5 (by decide))
    exact Yk.extract (vs := [.agg (partsC dParts).toArray, .bool (false)]) e5 (show _ = some (.agg (partsC dParts).toArray : Value) from rfl) ⟨rfl, rfl⟩
   ·refine stepFC (stepN rfl fun σ w1 hC h => ?_)
    have hC : Ext w3 w1 := hC
    have e5 := eqo (h 5 (by decide))
    exact Yk.extract (vs := [.agg (partsC dParts).toArray, .bool (false)]) e5 (show _ = some (.bool (false) : Value) from rfl) ⟨rfl, rfl⟩
   ·refine stepFC (stepN rfl fun σ w1 hC h => ?_)
    have hC : NoCells w3 w1 := hC
    exact Yk.allocX wr4_al92 ⟨⟨hC, rfl⟩, w1.heap.size, _, rfl, hC.1.size, heap_alloc_new _ _, rfl⟩
   ·refine stepFC (stepN rfl fun σ w1 hC h => ?_)
    have hC : OneCells w3 w1 := hC
    have e3 : (RowK w3 92 8) (σ 3) w1 := h 3 (by decide)
    have e10 := eqo (h 10 (by decide))
    obtain ⟨g, cs, h1, h2, h3, h4⟩ := e3
    exact Yk.storeAll h1 e10 (show _ = some (Obj.cells cs.toList.toArray 92 (0, 0)) by simpa using h3) (by rw [show cs.toList.toArray = cs by simp, h4]; rfl) (show (Tryd.prog.info? 92).map (·.size) = some 8 from wr4_isz92) (parts_one) fun w2 a b c => ⟨⟨hC, g, cs, h2, h3, (by rw [h4]; rfl), a, b, c⟩, trivial⟩
   ·exact trivial
  intro ρ15 w16 hx17 hun18 he hf
  obtain ⟨-, -, -, -, -, -, k11, k3, -⟩ := hf
  obtain ⟨T0, T1, T2, -⟩ := he.hold [(0, _), (1, PQ n2 0), (2, .bool (false))] ⟨T0, rfl, rfl, trivial⟩ rfl
  clear he
  have hE := hE.trans hx17
  have hb8 := eb hx17 hb8
  have hA11 := hA11.trans hx17
  obtain ⟨n19, cs_, T3, hn21, hb22, hz23⟩ := (show (RowK w3 92 8) (ρ15 3) w16 from k3)
  obtain rfl := hun18 n19 cs_ _ _ hn21 hb22
  clear k3
  have hl24 := bl hb22
  have T11 : ρ15 11 = .bool (false) := k11
  clear k11
  refine oA rfl (oZ (tN (hK10 _ _ (sk fun K25 hK25 => (sk fun K26 hK26 => (wt (oM rfl (oS rfl (Yk.notB T11 (oM rfl (oN (d := 14) rfl rfl rfl (vr (.bool (true)) rfl) rfl (oN (d := 14) rfl rfl rfl (vr (.bool (true)) rfl) rfl (oN (d := 14) rfl rfl rfl (vr (.bool (true)) rfl) rfl (oN (d := 14) rfl rfl rfl (vr (.bool (true)) rfl) rfl (oS rfl (Yk.pickT (vr (.bool (true)) rfl) (vr (.bool (true)) rfl) (oM rfl (oN (d := 20) rfl rfl rfl (vr (.bool (true)) rfl) rfl ?_))))))))))))))))))
  refine oN (d := 20) rfl rfl rfl (vr (.bool (true)) rfl) rfl (oN (d := 20) rfl rfl rfl (vr (.bool (true)) rfl) rfl (oN (d := 20) rfl rfl rfl (vr (.bool (true)) rfl) rfl (oS rfl (Yk.pickT (vr (.bool (true)) rfl) (vr (.bool (true)) rfl) (oM rfl (oN (d := 26) rfl rfl rfl (vr (.bool (true)) rfl) rfl (oN (d := 26) rfl rfl rfl (vr (.bool (true)) rfl) rfl (oN (d := 26) rfl rfl rfl (vr (.bool (true)) rfl) rfl (oN (d := 26) rfl rfl rfl (vr (.bool (true)) rfl) rfl (oS rfl (Yk.pickT (vr (.bool (true)) rfl) (vr (.bool (true)) rfl) (oM rfl (oN (d := 32) rfl rfl rfl (vr (.bool (true)) rfl) rfl (oN (d := 32) rfl rfl rfl (vr (.bool (true)) rfl) rfl (oN (d := 32) rfl rfl rfl (vr (.bool (true)) rfl) rfl (oN (d := 32) rfl rfl rfl (vr (.bool (true)) rfl) rfl (oS rfl (Yk.pickT (vr (.bool (true)) rfl) (vr (.bool (true)) rfl) ?_))))))))))))))))))
  refine oM rfl (oN (d := 38) rfl rfl rfl (vr (.bool (true)) rfl) rfl (oN (d := 38) rfl rfl rfl (vr (.bool (true)) rfl) rfl (oN (d := 38) rfl rfl rfl (vr (.bool (true)) rfl) rfl (oN (d := 38) rfl rfl rfl (vr (.bool (true)) rfl) rfl (oS rfl (Yk.pickT (vr (.bool (true)) rfl) (vr (.bool (true)) rfl) (oL_ [(0, .agg (msgC x).toArray), (1, PQ n2 0), (2, .bool (false)), (3, PQ n19 0), (4, .bool (false)), (43, .bool (true))] ⟨T0, T1, T2, T3, T11, rfl, trivial⟩ fun ρ27 ⟨T0, T1, T2, T3, T4, T43, _⟩ => (tN (hK26 _ _ (wpF_true T43 (sk fun K28 hK28 => (wt (oA rfl (oZ (tN (hK28 _ _ (wpF_ret (thenF_ret (postF_ret (fn := Tryd.f19) _ rfl [.bool (false)] (.bool (false)) rfl ⟨rfl, trivial⟩ ?_)))))))))))))))))))
  exact ⟨by rw [rightB_none hK], hE⟩
 refine tN (hK1 _ _ (sk fun K29 hK29 => ?_))
 have hA30 := Ext.refl w3
 have hea31 := hE
 have hz32 := hE.size
 have hlt33 : n2 < w3.heap.size := (bl hb8)
 refine wpF_draw_newK 0 7 8 9 92 (partsC (⟨false, false, false, false, false, false, false, false⟩ : Parts)).toArray (partsC p).toArray [fun x w' => ∃ b, x = .map (some b) ∧ MapF B8 partsV (fun _ : UInt8 => True) w' b kindsG, Is (PQ n2 0), Is (B8 (x.1.kind)), Is (.tuple #[.agg (partsC p).toArray, .bool (true)]), Is (.tuple #[.agg (partsC p).toArray, .bool (true)]), Is (.agg (partsC p).toArray), Is (.bool (true)), RowK w3 92 8, (fun _ _ => True)] (by kernel_rfl) [6, 7, 8, 9, 5, 10, 11, 3, 4] (by kernel_rfl) (by kernel_rfl) (by kernel_rfl) (by kernel_rfl) rfl rfl (by kernel_rfl) rfl rfl rfl rfl rfl rfl rfl ⟨(fun _ _ _ ⟨b, h1, h2⟩ k => ⟨b, h1, MapF.stabK h2 k⟩), Stab.is _, Stab.is _, Stab.is _, Stab.is _, Stab.is _, Stab.is _, RowK.stab _ _ _, Stab.any, trivial⟩ rfl ?hs2001 ?hQ2001
 case hs2001 =>
  refine ⟨?_, ?_, ?_, ?_, ?_, ?_, ?_, ?_, ?_, ?_, trivial⟩
  ·refine stepFC (stepN rfl fun σ w1 hC h => ?_)
   have hC : Ext w3 w1 := hC
   refine Yk.callA0 wr4_pl50  ((kinds_any _).mono ?_)
   rintro e w2 ⟨b, rfl, hmk, hx, hom⟩
   exact ⟨_, rfl, ⟨hx, hom⟩, ⟨b, rfl, hmk⟩⟩
  ·refine stepFC (stepN rfl fun σ w1 hC h => ?_)
   have hC : Ext w3 w1 := hC
   have e1 : σ 1 = PQ n2 0 := (eqo (h 1 (by decide))).trans rfl
   exact Yk.fieldAt wr4_fo29_0 e1 ⟨rfl, rfl⟩
  ·refine stepFC (stepN rfl fun σ w1 hC h => ?_)
   have hC : Ext w3 w1 := hC
   have e7 := eqo (h 7 (by decide))
   exact Yk.cell1 wr4_ty5 rfl e7 (cellAt (eb hC hb8) (show (msgC x)[0]? = some (B8 (x.1.kind) : Value) from msg_g0 x)) ⟨rfl, rfl⟩
  ·refine stepFC (stepN rfl fun σ w1 hC h => ?_)
   have hC : Ext w3 w1 := hC
   have e6 : (fun x w' => ∃ b, x = .map (some b) ∧ MapF B8 partsV (fun _ : UInt8 => True) w' b kindsG) (σ 6) w1 := h 6 (by decide)
   have e8 := eqo (h 8 (by decide))
   obtain ⟨b6, k6, m6⟩ := (show ∃ b, σ 6 = .map (some b) ∧ MapF B8 partsV (fun _ : UInt8 => True) w1 b kindsG from e6)
   exact Yk.lookOkS (ek := B8) (ev := partsV) (D := fun _ : UInt8 => True) u8Law u8_ok (fun _ _ => b8_inj) wr4_ty93 (z := partsV dParts) zeroParts k6 e8 m6 trivial hK ⟨rfl, rfl⟩
  ·refine stepFC (stepN rfl fun σ w1 hC h => ?_)
   have hC : Ext w3 w1 := hC
   have e9 := eqo (h 9 (by decide))
   exact Yk.move e9 ⟨rfl, rfl⟩
  ·refine stepFC (stepN rfl fun σ w1 hC h => ?_)
   have hC : Ext w3 w1 := hC
   have e5 := eqo (h 5 (by decide))
   exact Yk.extract (vs := [.agg (partsC p).toArray, .bool (true)]) e5 (show _ = some (.agg (partsC p).toArray : Value) from rfl) ⟨rfl, rfl⟩
  ·refine stepFC (stepN rfl fun σ w1 hC h => ?_)
   have hC : Ext w3 w1 := hC
   have e5 := eqo (h 5 (by decide))
   exact Yk.extract (vs := [.agg (partsC p).toArray, .bool (true)]) e5 (show _ = some (.bool (true) : Value) from rfl) ⟨rfl, rfl⟩
  ·refine stepFC (stepN rfl fun σ w1 hC h => ?_)
   have hC : NoCells w3 w1 := hC
   exact Yk.allocX wr4_al92 ⟨⟨hC, rfl⟩, w1.heap.size, _, rfl, hC.1.size, heap_alloc_new _ _, rfl⟩
  ·refine stepFC (stepN rfl fun σ w1 hC h => ?_)
   have hC : OneCells w3 w1 := hC
   have e3 : (RowK w3 92 8) (σ 3) w1 := h 3 (by decide)
   have e10 := eqo (h 10 (by decide))
   obtain ⟨g, cs, h1, h2, h3, h4⟩ := e3
   exact Yk.storeAll h1 e10 (show _ = some (Obj.cells cs.toList.toArray 92 (0, 0)) by simpa using h3) (by rw [show cs.toList.toArray = cs by simp, h4]; rfl) (show (Tryd.prog.info? 92).map (·.size) = some 8 from wr4_isz92) (parts_one) fun w2 a b c => ⟨⟨hC, g, cs, h2, h3, (by rw [h4]; rfl), a, b, c⟩, trivial⟩
  ·exact trivial
 intro ρ34 w35 hx36 hun37 he hf
 obtain ⟨-, -, -, -, -, -, k11, k3, -⟩ := hf
 obtain ⟨T0, T1, T2, -⟩ := he.hold [(0, _), (1, PQ n2 0), (2, .bool (false))] ⟨T0, rfl, rfl, trivial⟩ rfl
 clear he
 have hE := hE.trans hx36
 have hb8 := eb hx36 hb8
 have hA30 := hA30.trans hx36
 obtain ⟨n38, cs_, T3, hn40, hb41, hz42⟩ := (show (RowK w3 92 8) (ρ34 3) w35 from k3)
 obtain rfl := hun37 n38 cs_ _ _ hn40 hb41
 clear k3
 have hl43 := bl hb41
 have T11 : ρ34 11 = .bool (true) := k11
 clear k11
 refine oA rfl (oZ (tN (hK29 _ _ (sk fun K44 hK44 => (sk fun K45 hK45 => (wt (oM rfl (oS rfl (Yk.notB T11 (oM rfl (oY (d := 14) rfl rfl (vr (.bool (false)) rfl) (Yk.fieldAt wr4_fo29_1 T1 (oY (d := 14) rfl rfl (vr (.bool (false)) rfl) (Yk.cell1 wr4_ty3 rfl (vr (PQ n2 1) rfl) (cellAt hb8 (show (msgC x)[1]? = some (.int .i64 (x.1.session : Int) : Value) from msg_g1 x)) (oY (d := 14) rfl rfl (vr (.bool (false)) rfl) (Yk.callA2 wr4_pl55 (vr (.int .i64 (x.1.session : Int)) rfl) (vr (NI 2147483647) rfl) ((bound_any _ x.1.session ((2147483647 : Nat) : Int)).mono ?_)))))))))))))))))
 rintro e w47 ⟨rfl, hx46⟩
 refine ⟨_, rfl, ?_⟩
 have hE := hE.trans hx46
 have hb8 := eb hx46 hb8
 have hA30 := hA30.trans hx46
 have hb41 := eb hx46 hb41
 refine oY (d := 14) rfl rfl (vr (.bool (false)) rfl) (Yk.notB (vr (.bool (boundB x.1.session ((2147483647 : Nat) : Int))) rfl) (oS rfl (Yk.pickF (vr (.bool (false)) rfl) (vr (.bool (!(boundB x.1.session ((2147483647 : Nat) : Int)))) rfl) (oM rfl (opsF_mayV (.agg (msgC x).toArray) rfl rfl (gF (vr (.bool (!(boundB x.1.session ((2147483647 : Nat) : Int)))) rfl)) (fun hG48 => Yk.loadAll T1 hb8 (wr4_ty29).choose_spec rfl (st_isz (msg_len x) wr4_isz29) ⟨rfl, rfl⟩) (opsF_mayV (.agg (partsC p).toArray) rfl rfl (gF (vr (.bool (!(boundB x.1.session ((2147483647 : Nat) : Int)))) rfl)) (fun hG49 => Yk.loadAll T3 hb41 (wr4_ty92).choose_spec rfl (st_isz (parts_len p) wr4_isz92) ⟨rfl, rfl⟩) (opsF_mayC (.bool (absentB x.1 p)) rfl rfl (gF (vr (.bool (!(boundB x.1.session ((2147483647 : Nat) : Int)))) rfl)) (fun hG50 => Yk.callA2 wr4_pl56 (mayT (vr (cond (!(!(boundB x.1.session ((2147483647 : Nat) : Int)))) (.agg (msgC x).toArray) undef) rfl) hG50) (mayT (vr (cond (!(!(boundB x.1.session ((2147483647 : Nat) : Int)))) (.agg (partsC p).toArray) undef) rfl) hG50) ((absent_any _ x (MsgAt.mk (hmr.keep hE) (hmw.keep hE) (hmh.keep hE) (hmb.keep hE)) p).mono (by rintro e w2 ⟨rfl, hx⟩; exact ⟨_, rfl, rfl, hx⟩))) fun w52 hx53 => ?_)))))))
 have hE := hE.trans hx53
 have hb8 := eb hx53 hb8
 have hA30 := hA30.trans hx53
 have hb41 := eb hx53 hb41
 refine opsF_mayV (.bool (!(absentB x.1 p))) rfl rfl (gF (vr (.bool (!(boundB x.1.session ((2147483647 : Nat) : Int)))) rfl)) (fun hG54 => Yk.notB (mayT (vr (cond (!(!(boundB x.1.session ((2147483647 : Nat) : Int)))) (.bool (absentB x.1 p)) undef) rfl) hG54) ⟨rfl, rfl⟩) (oS rfl (Yk.pickOrN (vr (.bool (!(boundB x.1.session ((2147483647 : Nat) : Int)))) rfl) (vr (.bool (true)) rfl) (fun hA => (mayT (vr (cond (!(!(boundB x.1.session ((2147483647 : Nat) : Int)))) (.bool (!(absentB x.1 p))) undef) rfl) (not_i hA))) fun bb55 hbb56 => (oM rfl (opsF_mayV (PQ n2 2) rfl rfl (gF (vr (.bool (bb55)) rfl)) (fun hG57 => Yk.fieldAt wr4_fo29_2 T1 ⟨rfl, rfl⟩) (opsF_mayV (x.2.refs) rfl rfl (gF (vr (.bool (bb55)) rfl)) (fun hG58 => Yk.cell1 wr4_ty22 rfl (mayT (vr (cond (!bb55) (PQ n2 2) undef) rfl) hG58) (cellAt hb8 (show (msgC x)[2]? = some (x.2.refs : Value) from msg_g2 x)) ⟨rfl, rfl⟩) (opsF_mayC (.bool (listB x.1.refs)) rfl rfl (gF (vr (.bool (bb55)) rfl)) (fun hG59 => Yk.callA1 wr4_pl57 (mayT (vr (cond (!bb55) (x.2.refs) undef) rfl) hG59) ((wlist_any _ _ x.1.refs (hmr.keep hE) (by have := hL.refs; omega) hL.names).mono (by rintro e w2 ⟨rfl, hx⟩; exact ⟨_, rfl, rfl, hx⟩))) fun w61 hx62 => ?_))))))
 have hE := hE.trans hx62
 have hb8 := eb hx62 hb8
 have hA30 := hA30.trans hx62
 have hb41 := eb hx62 hb41
 refine opsF_mayV (.bool (!(listB x.1.refs))) rfl rfl (gF (vr (.bool (bb55)) rfl)) (fun hG63 => Yk.notB (mayT (vr (cond (!bb55) (.bool (listB x.1.refs)) undef) rfl) hG63) ⟨rfl, rfl⟩) (oS rfl (Yk.pickOrN (vr (.bool (bb55)) rfl) (vr (.bool (true)) rfl) (fun hA => (mayT (vr (cond (!bb55) (.bool (!(listB x.1.refs))) undef) rfl) (not_i hA))) fun bb64 hbb65 => (oM rfl (opsF_mayV (PQ n2 3) rfl rfl (gF (vr (.bool (bb64)) rfl)) (fun hG66 => Yk.fieldAt wr4_fo29_3 T1 ⟨rfl, rfl⟩) (opsF_mayV (x.2.wants) rfl rfl (gF (vr (.bool (bb64)) rfl)) (fun hG67 => Yk.cell1 wr4_ty23 rfl (mayT (vr (cond (!bb64) (PQ n2 3) undef) rfl) hG67) (cellAt hb8 (show (msgC x)[3]? = some (x.2.wants : Value) from msg_g3 x)) ⟨rfl, rfl⟩) (opsF_mayC (.bool (setW x.1.wants)) rfl rfl (gF (vr (.bool (bb64)) rfl)) (fun hG68 => Yk.callA1 wr4_pl58 (mayT (vr (cond (!bb64) (x.2.wants) undef) rfl) hG68) ((wset_any _ _ x.1.wants (hmw.keep hE) (by have := hL.wants; omega)).mono (by rintro e w2 ⟨rfl, hx⟩; exact ⟨_, rfl, rfl, hx⟩))) fun w70 hx71 => ?_))))))
 have hE := hE.trans hx71
 have hb8 := eb hx71 hb8
 have hA30 := hA30.trans hx71
 have hb41 := eb hx71 hb41
 refine opsF_mayV (.bool (!(setW x.1.wants))) rfl rfl (gF (vr (.bool (bb64)) rfl)) (fun hG72 => Yk.notB (mayT (vr (cond (!bb64) (.bool (setW x.1.wants)) undef) rfl) hG72) ⟨rfl, rfl⟩) (oS rfl (Yk.pickOrN (vr (.bool (bb64)) rfl) (vr (.bool (true)) rfl) (fun hA => (mayT (vr (cond (!bb64) (.bool (!(setW x.1.wants))) undef) rfl) (not_i hA))) fun bb73 hbb74 => (oM rfl (opsF_mayV (PQ n2 4) rfl rfl (gF (vr (.bool (bb73)) rfl)) (fun hG75 => Yk.fieldAt wr4_fo29_4 T1 ⟨rfl, rfl⟩) (opsF_mayV (x.2.haves) rfl rfl (gF (vr (.bool (bb73)) rfl)) (fun hG76 => Yk.cell1 wr4_ty23 rfl (mayT (vr (cond (!bb73) (PQ n2 4) undef) rfl) hG76) (cellAt hb8 (show (msgC x)[4]? = some (x.2.haves : Value) from msg_g4 x)) ⟨rfl, rfl⟩) (opsF_mayC (.bool (setW x.1.haves)) rfl rfl (gF (vr (.bool (bb73)) rfl)) (fun hG77 => Yk.callA1 wr4_pl58 (mayT (vr (cond (!bb73) (x.2.haves) undef) rfl) hG77) ((wset_any _ _ x.1.haves (hmh.keep hE) (by have := hL.haves; omega)).mono (by rintro e w2 ⟨rfl, hx⟩; exact ⟨_, rfl, rfl, hx⟩))) fun w79 hx80 => ?_))))))
 have hE := hE.trans hx80
 have hb8 := eb hx80 hb8
 have hA30 := hA30.trans hx80
 have hb41 := eb hx80 hb41
 refine opsF_mayV (.bool (!(setW x.1.haves))) rfl rfl (gF (vr (.bool (bb73)) rfl)) (fun hG81 => Yk.notB (mayT (vr (cond (!bb73) (.bool (setW x.1.haves)) undef) rfl) hG81) ⟨rfl, rfl⟩) (oS rfl (Yk.pickOrN (vr (.bool (bb73)) rfl) (vr (.bool (true)) rfl) (fun hA => (mayT (vr (cond (!bb73) (.bool (!(setW x.1.haves))) undef) rfl) (not_i hA))) fun bb82 hbb83 => (oL_ [(0, .agg (msgC x).toArray), (1, PQ n2 0), (2, .bool (false)), (3, PQ n38 0), (4, .bool (true)), (43, .bool (bb82))] ⟨T0, T1, T2, T3, T11, rfl, trivial⟩ fun ρ84 ⟨T0, T1, T2, T3, T4, T43, _⟩ => (tN (hK45 _ _ ?_)))))
 refine wpF_condB (bb82) T43 (fun hc0 => ?_) (fun hc0 => ?_)
 ·subst hbb56 hbb65 hbb74 hbb83
  have h1c : ((((!boundB x.1.session 2147483647 || !absentB x.1 p) || !listB x.1.refs) || !setW x.1.wants) || !setW x.1.haves) = true := hc0
  refine sk fun K85 hK85 => (wt (oA rfl (oZ (tN (hK85 _ _ (wpF_ret (thenF_ret (postF_ret (fn := Tryd.f19) _ rfl [.bool (false)] (.bool (false)) rfl ⟨rfl, trivial⟩ ?_))))))))
  refine ⟨?_, hE⟩
  rw [rightB_some hK]; unfold rightP; rw [h1c]; rfl
 subst hbb56 hbb65 hbb74 hbb83
 have h1c : ((((!boundB x.1.session 2147483647 || !absentB x.1 p) || !listB x.1.refs) || !setW x.1.wants) || !setW x.1.haves) = false := hc0
 refine wpF_skip (tN (hK44 _ _ (sk fun K86 hK86 => (sk fun K87 hK87 => (wt (oS rfl (Yk.fieldAt wr4_fo29_5 T1 (oS rfl (Yk.cell1 wr4_ty3 rfl (vr (PQ n2 5) rfl) (cellAt hb8 (show (msgC x)[5]? = some (.int .i64 (x.1.size : Int) : Value) from msg_g5 x)) (oS rfl (Yk.callA2 wr4_pl55 (vr (.int .i64 (x.1.size : Int)) rfl) (vr (NI 1048576) rfl) ((bound_any _ x.1.size ((1048576 : Nat) : Int)).mono ?_))))))))))))
 rintro e w89 ⟨rfl, hx88⟩
 refine ⟨_, rfl, ?_⟩
 have hE := hE.trans hx88
 have hb8 := eb hx88 hb8
 have hA30 := hA30.trans hx88
 have hb41 := eb hx88 hb41
 refine oS rfl (Yk.notB (vr (.bool (boundB x.1.size ((1048576 : Nat) : Int))) rfl) (oM rfl (opsF_mayV (PQ n2 6) rfl rfl (gF (vr (.bool (!(boundB x.1.size ((1048576 : Nat) : Int)))) rfl)) (fun hG90 => Yk.fieldAt wr4_fo29_6 T1 ⟨rfl, rfl⟩) (opsF_mayV (.int .i64 (x.1.at_ : Int)) rfl rfl (gF (vr (.bool (!(boundB x.1.size ((1048576 : Nat) : Int)))) rfl)) (fun hG91 => Yk.cell1 wr4_ty3 rfl (mayT (vr (cond (!(!(boundB x.1.size ((1048576 : Nat) : Int)))) (PQ n2 6) undef) rfl) hG91) (cellAt hb8 (show (msgC x)[6]? = some (.int .i64 (x.1.at_ : Int) : Value) from msg_g6 x)) ⟨rfl, rfl⟩) (opsF_mayC (.bool (boundB x.1.at_ ((1048576 : Nat) : Int))) rfl rfl (gF (vr (.bool (!(boundB x.1.size ((1048576 : Nat) : Int)))) rfl)) (fun hG92 => Yk.callA2 wr4_pl55 (mayT (vr (cond (!(!(boundB x.1.size ((1048576 : Nat) : Int)))) (.int .i64 (x.1.at_ : Int)) undef) rfl) hG92) (vr (NI 1048576) rfl) ((bound_any _ x.1.at_ ((1048576 : Nat) : Int)).mono (by rintro e w2 ⟨rfl, hx⟩; exact ⟨_, rfl, rfl, hx⟩))) fun w94 hx95 => ?_)))))
 have hE := hE.trans hx95
 have hb8 := eb hx95 hb8
 have hA30 := hA30.trans hx95
 have hb41 := eb hx95 hb41
 refine opsF_mayV (.bool (!(boundB x.1.at_ ((1048576 : Nat) : Int)))) rfl rfl (gF (vr (.bool (!(boundB x.1.size ((1048576 : Nat) : Int)))) rfl)) (fun hG96 => Yk.notB (mayT (vr (cond (!(!(boundB x.1.size ((1048576 : Nat) : Int)))) (.bool (boundB x.1.at_ ((1048576 : Nat) : Int))) undef) rfl) hG96) ⟨rfl, rfl⟩) (oS rfl (Yk.pickOrN (vr (.bool (!(boundB x.1.size ((1048576 : Nat) : Int)))) rfl) (vr (.bool (true)) rfl) (fun hA => (mayT (vr (cond (!(!(boundB x.1.size ((1048576 : Nat) : Int)))) (.bool (!(boundB x.1.at_ ((1048576 : Nat) : Int)))) undef) rfl) (not_i hA))) fun bb97 hbb98 => (oM rfl (opsF_mayV (PQ n2 106) rfl rfl (gF (vr (.bool (bb97)) rfl)) (fun hG99 => Yk.fieldAt wr4_fo29_13 T1 ⟨rfl, rfl⟩) (opsF_mayV (.int .i64 (x.1.code : Int)) rfl rfl (gF (vr (.bool (bb97)) rfl)) (fun hG100 => Yk.cell1 wr4_ty27 rfl (mayT (vr (cond (!bb97) (PQ n2 106) undef) rfl) hG100) (cellAt hb8 (show (msgC x)[106]? = some (.int .i64 (x.1.code : Int) : Value) from msg_g13 x)) ⟨rfl, rfl⟩) (opsF_mayC (.bool (boundB x.1.code ((22 : Nat) : Int))) rfl rfl (gF (vr (.bool (bb97)) rfl)) (fun hG101 => Yk.callA2 wr4_pl55 (mayT (vr (cond (!bb97) (.int .i64 (x.1.code : Int)) undef) rfl) hG101) (vr (NI 22) rfl) ((bound_any _ x.1.code ((22 : Nat) : Int)).mono (by rintro e w2 ⟨rfl, hx⟩; exact ⟨_, rfl, rfl, hx⟩))) fun w103 hx104 => ?_))))))
 have hE := hE.trans hx104
 have hb8 := eb hx104 hb8
 have hA30 := hA30.trans hx104
 have hb41 := eb hx104 hb41
 refine opsF_mayV (.bool (!(boundB x.1.code ((22 : Nat) : Int)))) rfl rfl (gF (vr (.bool (bb97)) rfl)) (fun hG105 => Yk.notB (mayT (vr (cond (!bb97) (.bool (boundB x.1.code ((22 : Nat) : Int))) undef) rfl) hG105) ⟨rfl, rfl⟩) (oS rfl (Yk.pickOrN (vr (.bool (bb97)) rfl) (vr (.bool (true)) rfl) (fun hA => (mayT (vr (cond (!bb97) (.bool (!(boundB x.1.code ((22 : Nat) : Int)))) undef) rfl) (not_i hA))) fun bb106 hbb107 => (oZ (tN (hK87 _ _ ?_)))))
 refine wpF_condB (bb106) (vr (.bool (bb106)) rfl) (fun hc1 => ?_) (fun hc1 => ?_)
 ·subst hbb98 hbb107
  have h2c : ((!boundB x.1.size 1048576 || !boundB x.1.at_ 1048576) || !boundB x.1.code 22) = true := hc1
  refine sk fun K108 hK108 => (wt (oA rfl (oZ (tN (hK108 _ _ (wpF_ret (thenF_ret (postF_ret (fn := Tryd.f19) _ rfl [.bool (false)] (.bool (false)) rfl ⟨rfl, trivial⟩ ?_))))))))
  refine ⟨?_, hE⟩
  rw [rightB_some hK]; unfold rightP; rw [h1c, h2c]; rfl
 subst hbb98 hbb107
 have h2c : ((!boundB x.1.size 1048576 || !boundB x.1.at_ 1048576) || !boundB x.1.code 22) = false := hc1
 refine wpF_skip (tN (hK86 _ _ (sk fun K109 hK109 => (sk fun K110 hK110 => (wt (oS rfl (Yk.fieldAt wr4_fo92_5 T3 (oS rfl (Yk.cell1 wr4_ty4 rfl (vr (PQ n38 5) rfl) (cellAt hb41 (show (partsC p)[5]? = some (.bool (p.bytes) : Value) from parts_g5 p)) (oM rfl (opsF_mayV (PQ n2 39) rfl rfl (gT (vr (.bool (p.bytes)) rfl)) (fun hG111 => Yk.fieldAt wr4_fo29_8 T1 ⟨rfl, rfl⟩) (opsF_mayV (x.2.bytes) rfl rfl (gT (vr (.bool (p.bytes)) rfl)) (fun hG112 => Yk.cell1 wr4_ty26 rfl (mayT (vr (cond (p.bytes) (PQ n2 39) undef) rfl) hG112) (cellAt hb8 (show (msgC x)[39]? = some (x.2.bytes : Value) from msg_g8 x)) ⟨rfl, rfl⟩) (opsF_mayV (NI ((x.1.bytes : List UInt8).length)) rfl rfl (gT (vr (.bool (p.bytes)) rfl)) (fun hG113 => Yk.lenRB wr4_ty26 (RB.of (hmb.keep hE) (mayT (vr (cond (p.bytes) (x.2.bytes) undef) rfl) hG113)) ⟨rfl, rfl⟩) (opsF_mayV (.bool (decide (((x.1.bytes : List UInt8).length) < (1)))) rfl rfl (gT (vr (.bool (p.bytes)) rfl)) (fun hG114 => Yk.eqI (a := (((x.1.bytes : List UInt8).length : Nat) : Int)) (b := ((1 : Nat) : Int)) (mayT (vr (cond (p.bytes) (NI ((x.1.bytes : List UInt8).length)) undef) rfl) hG114) (vr (NI 1) rfl) (k_lss _ .i64 ((x.1.bytes : List UInt8).length) (1)) ⟨rfl, rfl⟩) (opsF_mayV (.bool (decide (((x.1.bytes : List UInt8).length) < (1)))) rfl rfl (gT (vr (.bool (p.bytes)) rfl)) (fun hG115 => Yk.move (mayT (vr (cond (p.bytes) (.bool (decide (((x.1.bytes : List UInt8).length) < (1)))) undef) rfl) hG115) ⟨rfl, rfl⟩) (opsF_mayV (PQ n2 39) rfl rfl (geF (vr (cond (p.bytes) (.bool (decide (((x.1.bytes : List UInt8).length) < (1)))) undef) rfl)) (fun hG116 => Yk.fieldAt wr4_fo29_8 T1 ⟨rfl, rfl⟩) (opsF_mayV (x.2.bytes) rfl rfl (geF (vr (cond (p.bytes) (.bool (decide (((x.1.bytes : List UInt8).length) < (1)))) undef) rfl)) (fun hG117 => Yk.cell1 wr4_ty26 rfl (mayT (vr (cond (p.bytes && !(decide (((x.1.bytes : List UInt8).length) < (1)))) (PQ n2 39) undef) rfl) hG117) (cellAt hb8 (show (msgC x)[39]? = some (x.2.bytes : Value) from msg_g8 x)) ⟨rfl, rfl⟩) (opsF_mayV (NI ((x.1.bytes : List UInt8).length)) rfl rfl (geF (vr (cond (p.bytes) (.bool (decide (((x.1.bytes : List UInt8).length) < (1)))) undef) rfl)) (fun hG118 => Yk.lenRB wr4_ty26 (RB.of (hmb.keep hE) (mayT (vr (cond (p.bytes && !(decide (((x.1.bytes : List UInt8).length) < (1)))) (x.2.bytes) undef) rfl) hG118)) ⟨rfl, rfl⟩) ?_))))))))))))))))))
 refine opsF_mayV (.bool (decide ((256) < ((x.1.bytes : List UInt8).length)))) rfl rfl (geF (vr (cond (p.bytes) (.bool (decide (((x.1.bytes : List UInt8).length) < (1)))) undef) rfl)) (fun hG119 => Yk.eqI (a := (((x.1.bytes : List UInt8).length : Nat) : Int)) (b := ((256 : Nat) : Int)) (mayT (vr (cond (p.bytes && !(decide (((x.1.bytes : List UInt8).length) < (1)))) (NI ((x.1.bytes : List UInt8).length)) undef) rfl) hG119) (vr (NI 256) rfl) (k_gtr _ .i64 ((x.1.bytes : List UInt8).length) (256)) ⟨rfl, rfl⟩) (opsF_mayB ((decide (((x.1.bytes : List UInt8).length) < (1))) || (decide ((256) < ((x.1.bytes : List UInt8).length)))) rfl rfl (gT (vr (.bool (p.bytes)) rfl)) (fun hG120 => Yk.pickOr (mayT (vr (cond (p.bytes) (.bool (decide (((x.1.bytes : List UInt8).length) < (1)))) undef) rfl) hG120) (vr (.bool (true)) rfl) (fun hA => (mayT (vr (cond (p.bytes && !(decide (((x.1.bytes : List UInt8).length) < (1)))) (.bool (decide ((256) < ((x.1.bytes : List UInt8).length)))) undef) rfl) (and_i hG120 (not_i hA)))) ⟨rfl, rfl⟩) fun bb121 hbb122 => (oS rfl (Yk.pickAndN (vr (.bool (p.bytes)) rfl) (fun hA => (mayT (vr (cond (p.bytes) (.bool (bb121)) undef) rfl) hA)) (vr (.bool (false)) rfl) fun bb123 hbb124 => (oZ (tN (hK110 _ _ ?_))))))
 refine wpF_condB (bb123) (vr (.bool (bb123)) rfl) (fun hc2 => ?_) (fun hc2 => ?_)
 ·subst hbb122 hbb124
  have h3c : (p.bytes && (decide (x.1.bytes.length < 1) || decide (256 < x.1.bytes.length))) = true := hc2
  refine sk fun K125 hK125 => (wt (oA rfl (oZ (tN (hK125 _ _ (wpF_ret (thenF_ret (postF_ret (fn := Tryd.f19) _ rfl [.bool (false)] (.bool (false)) rfl ⟨rfl, trivial⟩ ?_))))))))
  refine ⟨?_, hE⟩
  rw [rightB_some hK]; unfold rightP; rw [h1c, h2c, h3c]; rfl
 subst hbb122 hbb124
 have h3c : (p.bytes && (decide (x.1.bytes.length < 1) || decide (256 < x.1.bytes.length))) = false := hc2
 refine wpF_skip (tN (hK109 _ _ (sk fun K126 hK126 => (wt (oS rfl (Yk.fieldAt wr4_fo92_6 T3 (oS rfl (Yk.cell1 wr4_ty4 rfl (vr (PQ n38 6) rfl) (cellAt hb41 (show (partsC p)[6]? = some (.bool (p.push) : Value) from parts_g6 p)) (oS rfl (Yk.notB (vr (.bool (p.push)) rfl) (oM rfl (opsF_mayV (PQ n2 40) rfl rfl (gF (vr (.bool (!(p.push))) rfl)) (fun hG127 => Yk.fieldAt wr4_fo29_9 T1 ⟨rfl, rfl⟩) (opsF_mayV (St (x.1.name)) rfl rfl (gF (vr (.bool (!(p.push))) rfl)) (fun hG128 => Yk.cell1 wr4_ty9 rfl (mayT (vr (cond (!(!(p.push))) (PQ n2 40) undef) rfl) hG128) (cellAt hb8 (show (msgC x)[40]? = some (St (x.1.name) : Value) from msg_g9 x)) ⟨rfl, rfl⟩) (opsF_mayC (.bool (nameB x.1.name)) rfl rfl (gF (vr (.bool (!(p.push))) rfl)) (fun hG129 => Yk.callA1 wr4_pl59 (mayT (vr (cond (!(!(p.push))) (St (x.1.name)) undef) rfl) hG129) ((name_any _ x.1.name (by have := hL.name; omega)).mono (by rintro e w2 ⟨rfl, hx⟩; exact ⟨_, rfl, rfl, hx⟩))) fun w131 hx132 => ?_))))))))))))))
 have hE := hE.trans hx132
 have hb8 := eb hx132 hb8
 have hA30 := hA30.trans hx132
 have hb41 := eb hx132 hb41
 refine opsF_mayV (.bool (nameB x.1.name)) rfl rfl (gF (vr (.bool (!(p.push))) rfl)) (fun hG133 => Yk.move (mayT (vr (cond (!(!(p.push))) (.bool (nameB x.1.name)) undef) rfl) hG133) ⟨rfl, rfl⟩) (opsF_mayV (PQ n2 73) rfl rfl (geT (vr (cond (!(!(p.push))) (.bool (nameB x.1.name)) undef) rfl)) (fun hG134 => Yk.fieldAt wr4_fo29_11 T1 ⟨rfl, rfl⟩) (opsF_mayV (AB x.1.new.1) rfl rfl (geT (vr (cond (!(!(p.push))) (.bool (nameB x.1.name)) undef) rfl)) (fun hG135 => Yk.loadPR (PR.blk hb8 (msg_m11 x) (msg_n11 x) (mayT (vr (cond ((!(!(p.push))) && (nameB x.1.name)) (PQ n2 73) undef) rfl) hG135)) wr4_ty25 rfl (sizeId_of x.1.new.2) ⟨rfl, rfl⟩) (opsF_mayC (.bool (zeroB x.1.new)) rfl rfl (geT (vr (cond (!(!(p.push))) (.bool (nameB x.1.name)) undef) rfl)) (fun hG136 => Yk.callA1 wr4_pl60 (mayT (vr (cond ((!(!(p.push))) && (nameB x.1.name)) (AB x.1.new.1) undef) rfl) hG136) ((wzero_any _ x.1.new).mono (by rintro e w2 ⟨rfl, hx⟩; exact ⟨_, rfl, rfl, hx⟩))) fun w138 hx139 => ?_)))
 have hE := hE.trans hx139
 have hb8 := eb hx139 hb8
 have hA30 := hA30.trans hx139
 have hb41 := eb hx139 hb41
 refine opsF_mayV (.bool (!(zeroB x.1.new))) rfl rfl (geT (vr (cond (!(!(p.push))) (.bool (nameB x.1.name)) undef) rfl)) (fun hG140 => Yk.notB (mayT (vr (cond ((!(!(p.push))) && (nameB x.1.name)) (.bool (zeroB x.1.new)) undef) rfl) hG140) ⟨rfl, rfl⟩) (opsF_mayB ((nameB x.1.name) && (!(zeroB x.1.new))) rfl rfl (gF (vr (.bool (!(p.push))) rfl)) (fun hG141 => Yk.pickAnd (mayT (vr (cond (!(!(p.push))) (.bool (nameB x.1.name)) undef) rfl) hG141) (fun hA => (mayT (vr (cond ((!(!(p.push))) && (nameB x.1.name)) (.bool (!(zeroB x.1.new))) undef) rfl) (and_i hG141 hA))) (vr (.bool (false)) rfl) ⟨rfl, rfl⟩) fun bb142 hbb143 => (oS rfl (Yk.pickOrN (vr (.bool (!(p.push))) rfl) (vr (.bool (true)) rfl) (fun hA => (mayT (vr (cond (!(!(p.push))) (.bool (bb142)) undef) rfl) (not_i hA))) fun bb144 hbb145 => (oA rfl (oL_ [(0, .agg (msgC x).toArray), (1, PQ n2 0), (2, .bool (bb144)), (3, PQ n38 0), (4, .bool (true))] ⟨T0, T1, rfl, T3, T4, trivial⟩ fun ρ146 ⟨T0, T1, T2, T3, T4, _⟩ => (tN (hK126 _ _ (wpF_ret (postF_ret (fn := Tryd.f19) _ rfl [.bool (bb144)] (.bool (bb144)) rfl ⟨T2, trivial⟩ ?_)))))))))
 subst hbb143 hbb145
 refine ⟨?_, hE⟩
 rw [rightB_some hK]; unfold rightP; rw [h1c, h2c, h3c]; rfl
open Go.RowKit
def dstOf (l : List Oper) (i : Nat) : Option Tmp := l[i]?.bind (·.dst)
def pairB (m : List Nat) : List Nat → Bool
  | [] => true
  | a :: r => r.all (fun b => (m.getD b 0).testBit a) && pairB m r
def ndB : List Tmp → Bool
  | [] => true
  | a :: r => !r.contains a && ndB r
def floatB (l : List Oper) (fs : List (Nat × Tmp)) (cs : List Nat) : Bool :=
  (List.range l.length).all (fun i => (fs.map Prod.fst).contains i || cs.contains i) &&
  ((match cs.getLast? with | some c => fs.all (fun p => ((masks l []).getD c 0).testBit p.1) | none => false) && (ndB (fs.map Prod.snd) && (pairB (masks l []) cs &&
  (fs.all (fun p => match l[p.1]? with
    | some o => (o.guard.isNone && !cs.contains p.1) && (o.dst == some p.2 && (((List.range (p.1 + 1)).all (fun j => match l[j]? with | some q => !(q.looksAt l.toArray).contains p.2 | none => true)) && ((List.range l.length).all (fun j => Nat.beq j p.1 || dstOf l j != some p.2) && cs.all (fun c => match dstOf l c with | some d => !(o.looksAt l.toArray).contains d | none => true))))
    | none => false) &&
  (cs.all (fun c => match l[c]? with | some o => o.guard.isNone | none => false) &&
   l.all (fun o => match o.op with | .select .. => false | _ => true))))))
def chainF (P : Program) (l : List Oper) (I : World → Prop) (K : Slots → World → Prop) : List Nat → Slots → World → Prop
  | [], ρ, w => K ρ w
  | i :: r, ρ, w => match l[i]? with
    | none => False
    | some o => Yk P (fun v w' => (r = [] ∨ I w') ∧ chainF P l I K r (updO ρ o.dst v) w') ((execOp (evalR ρ) o).run P w)
def floatsF : List (Nat × Tmp × Value) → Slots → Slots
  | [], ρ => ρ
  | p :: r, ρ => floatsF r (upd ρ p.2.1 p.2.2)
def chainX (P : Program) (l : List Oper) (X : World → World → Prop) (I : World → Prop) (J : List PanicEntry → World → Prop) (K : Slots → World → Prop) : List Nat → Slots → World → Prop
  | [], ρ, w => K ρ w
  | i :: r, ρ, w => match l[i]? with
    | none => False
    | some o => ∀ w0, X w w0 → Yp P (fun v w' => (r = [] ∨ I w') ∧ chainX P l X I J K r (updO ρ o.dst v) w') J ((execOp (evalR ρ) o).run P w0)
def FloatsX (P : Program) (l : List Oper) (X : World → World → Prop) (I : World → Prop) (ρ : Slots) : List (Nat × Tmp × Value) → Prop
  | [] => True
  | p :: r => (match l[p.1]? with
    | none => False
    | some o => ∀ w, I w → Yk P (fun x w' => x = p.2.2 ∧ X w w') ((execOp (evalR ρ) o).run P w)) ∧ FloatsX P l X I ρ r
section
variable {P : Program} {l : List Oper} {X : World → World → Prop} {I : World → Prop} {J : List PanicEntry → World → Prop} {K : Slots → World → Prop} {ρ : Slots} {w : World}
theorem chX_step {i : Nat} {r : List Nat} {o : Oper} (ho : l[i]? = some o)
    (h : ∀ w0, X w w0 → Yp P (fun v w' => (r = [] ∨ I w') ∧ chainX P l X I J K r (updO ρ o.dst v) w') J ((execOp (evalR ρ) o).run P w0)) : chainX P l X I J K (i :: r) ρ w := by
  unfold chainX
  rw [ho]
  exact h
theorem chX_go {K' : Value → World → Prop} {r : Result Next} (h : Yk P K' r) : Yp P K' J r := Yp.ofK h
theorem chX_p {p : Prop} (h : p) : p := h
theorem chX_nil (h : K ρ w) : chainX P l X I J K [] ρ w := h
end
def FloatsO (P : Program) (l : List Oper) (I : World → Prop) (ρ : Slots) : List (Nat × Tmp × Value) → Prop
  | [] => True
  | p :: r => (match l[p.1]? with
    | none => False
    | some o => ∀ w, I w → Yk P (fun x w' => x = p.2.2 ∧ w' = w) ((execOp (evalR ρ) o).run P w)) ∧ FloatsO P l I ρ r
theorem chF_step {P : Program} {l : List Oper} {I : World → Prop} {K : Slots → World → Prop} {i : Nat} {r : List Nat} {ρ : Slots} {w : World} {o : Oper} (ho : l[i]? = some o)
    (h : Yk P (fun v w' => (r = [] ∨ I w') ∧ chainF P l I K r (updO ρ o.dst v) w') ((execOp (evalR ρ) o).run P w)) : chainF P l I K (i :: r) ρ w := by
  unfold chainF
  rw [ho]
  exact h
theorem chF_nil {P : Program} {l : List Oper} {I : World → Prop} {K : Slots → World → Prop} {ρ : Slots} {w : World} (h : K ρ w) : chainF P l I K [] ρ w := h
theorem updO_some {ρ : Slots} {d : Tmp} {v : Value} : updO ρ (some d) v = upd ρ d v := rfl
theorem upd_eq {ρ : Slots} {d : Tmp} {v : Value} : upd ρ d v d = v := by simp [upd]
theorem upd_ne {ρ : Slots} {d t : Tmp} {v : Value} (h : t ≠ d) : upd ρ d v t = ρ t := by
  have : Nat.beq t d = false := by rw [← Bool.not_eq_true, Nat.beq_eq]; exact h
  simp [upd, this]
theorem floatsF_old : ∀ (fs : List (Nat × Tmp × Value)) (ρ : Slots) (t : Tmp), (∀ p ∈ fs, p.2.1 ≠ t) → floatsF fs ρ t = ρ t
  | [], _, _, _ => rfl
  | p :: r, ρ, t, h => by
    show floatsF r (upd ρ p.2.1 p.2.2) t = _
    rw [floatsF_old r _ t (fun q hq => h q (by simp [hq])), upd_ne (fun e => h p (by simp) e.symm)]
theorem floatsF_new : ∀ (fs : List (Nat × Tmp × Value)) (ρ : Slots), (fs.map fun p => p.2.1).Nodup → ∀ p ∈ fs, floatsF fs ρ p.2.1 = p.2.2
  | q :: r, ρ, h, p, hp => by
    have hn := List.nodup_cons.1 h
    show floatsF r (upd ρ q.2.1 q.2.2) p.2.1 = _
    rcases List.mem_cons.1 hp with rfl | hp
    · rw [floatsF_old r _ _ (fun x hx e => hn.1 (List.mem_map.2 ⟨x, hx, e⟩)), upd_eq]
    · exact floatsF_new r _ hn.2 p hp
theorem FloatsX.get {P : Program} {l : List Oper} {X : World → World → Prop} {I : World → Prop} {ρ : Slots} : ∀ {fs : List (Nat × Tmp × Value)}, FloatsX P l X I ρ fs → ∀ p ∈ fs, ∀ o, l[p.1]? = some o → ∀ w, I w → Yk P (fun x w' => x = p.2.2 ∧ X w w') ((execOp (evalR ρ) o).run P w)
  | q :: r, h, p, hp, o, ho, w, hI => by
    rcases List.mem_cons.1 hp with rfl | hp
    · have h1 := h.1
      rw [ho] at h1
      exact h1 w hI
    · exact FloatsX.get h.2 p hp o ho w hI
theorem FloatsO.toX {P : Program} {l : List Oper} {I : World → Prop} {ρ : Slots} : ∀ {fs : List (Nat × Tmp × Value)}, FloatsO P l I ρ fs → FloatsX P l Eq I ρ fs
  | [], _ => trivial
  | q :: r, h => by
    refine ⟨?_, FloatsO.toX h.2⟩
    have h1 := h.1
    cases ho : l[q.1]? with
    | none => rw [ho] at h1; exact h1
    | some o => rw [ho] at h1; exact fun w hw => Yk.mono (h1 w hw) fun _ _ h => ⟨h.1, h.2.symm⟩
theorem chainF.toX {P : Program} {l : List Oper} {I : World → Prop} {J : List PanicEntry → World → Prop} {K : Slots → World → Prop} : ∀ {cs : List Nat} {ρ : Slots} {w : World}, chainF P l I K cs ρ w → chainX P l Eq I J K cs ρ w
  | [], _, _, h => h
  | i :: r, ρ, w, h => by
    unfold chainF at h
    unfold chainX
    cases ho : l[i]? with
    | none => rw [ho] at h; exact h
    | some o => rw [ho] at h; exact fun w0 e => by subst e; exact .ofK (Yk.mono h fun _ _ h => ⟨h.1, chainF.toX h.2⟩)
theorem pairB_get {m : List Nat} : ∀ {cs : List Nat}, pairB m cs = true → ∀ a b (u v : List Nat), cs = u ++ a :: v → b ∈ v → (m.getD b 0).testBit a = true
  | [], _, a, b, u, v, e, _ => by simp at e
  | x :: r, h, a, b, u, v, e, hb => by
    unfold pairB at h
    rw [Bool.and_eq_true] at h
    cases u with
    | nil =>
      simp at e
      obtain ⟨rfl, rfl⟩ := e
      exact List.all_eq_true.1 h.1 b hb
    | cons y u =>
      simp at e
      exact pairB_get h.2 a b u v e.2 hb
theorem exec_agree {ρ σ : Slots} {o : Oper} {ops : Array Oper} (hs : ∀ cs b, o.op ≠ .select cs b) (h : ∀ t ∈ o.looksAt ops, σ t = ρ t) : execOp (evalR σ) o = execOp (evalR ρ) o :=
  execOp_congr o hs fun x hx => by
    cases x with
    | tmp t => exact h t (List.mem_append_left _ (List.mem_filterMap.2 ⟨.tmp t, by simpa using hx, rfl⟩))
    | _ => rfl
section
variable {P : Program} {n : Nat} {ρ : Slots} {w : World} {Q : PostF} {l : List Oper} {fs : List (Nat × Tmp × Value)} {cs : List Nat} {I : World → Prop}
structure FInv (l : List Oper) (fs : List (Nat × Tmp × Value)) (cs : List Nat) (X : World → World → Prop) (I : World → Prop) (n : Nat) (ρf ρc : Slots) (wc : World) (rest : List Nat) (listed : Array Bool) (a : Act) (w : World) : Prop where
  size : listed.size = l.length
  closed : ∀ i o, l[i]? = some o → On listed i → ∀ e ∈ o.after, Region.binds .any e = true → On listed e.on
  tmps : a.tmps.size = n
  defers : a.defers = []
  suffix : ∃ u, cs = u ++ rest ∧ (∀ c ∈ u, On listed c) ∧ ∀ c ∈ rest, ¬ On listed c
  agree : ∀ t, (∀ p ∈ fs, ¬ On listed p.1 → p.2.1 ≠ t) → a.tmps.getD t undef = ρc t
  ghost : ∀ t, (∀ c ∈ cs, dstOf l c ≠ some t) → ρc t = ρf t
  inv : rest = [] ∨ I w
  turn : X wc w
  same : rest = [] → wc = w
theorem wp_of_yields {a : Act} {o : Oper} {K : Act → World → Prop} {Q' : Exit → Act → World → Prop} (h : Yk P (fun v w' => K (a.put o.dst v) w') ((execOp a.eval o).run P w)) : o.wp P a w K Q' := by
  unfold Oper.wp Oper.upon
  revert h
  generalize (execOp a.eval o).run P w = r
  intro h
  match r, h with
  | .ok (.value v) w', h => exact h
  | .ok .skip w', h => exact h
  | .ok (.enter f args) w', h =>
    refine Calls.mono h ?_
    rintro e w'' ⟨v, rfl, hk⟩
    exact hk
theorem wp_of_yieldsP {a : Act} {o : Oper} {K : Act → World → Prop} {Q' : Exit → Act → World → Prop} {J : List PanicEntry → World → Prop} (h : Yp P (fun v w' => K (a.put o.dst v) w') J ((execOp a.eval o).run P w)) (hJ : ∀ ch w', J ch w' → Q' (.panic ch) a w') : o.wp P a w K Q' := by
  unfold Oper.wp Oper.upon
  revert h
  generalize (execOp a.eval o).run P w = r
  intro h
  match r, h with
  | .ok (.value v) w', h => exact h
  | .ok .skip w', h => exact h
  | .halt (.panic v) w', h => exact hJ _ _ h
  | .ok (.enter f args) w', h =>
    refine Calls.mono h ?_
    intro e w'' hx
    match e, hx with
    | .returned v, hx => exact hx
    | .panicked ch, hx => exact hJ _ _ hx
theorem ndB_nodup : ∀ {l : List Tmp}, ndB l = true → l.Nodup
  | [], _ => List.nodup_nil
  | a :: r, h => by
    unfold ndB at h
    rw [Bool.and_eq_true] at h
    refine List.nodup_cons.2 ⟨fun hm => ?_, ndB_nodup h.2⟩
    have := h.1
    rw [List.contains_iff_mem.2 hm] at this
    cases this
theorem float_any {X : World → World → Prop} (hX : ∀ a, X a a) (hXt : ∀ a b c, X a b → X b c → X a c) (hIX : ∀ a b, I a → X a b → I b) (hg : goodB l n = true) (hb : floatB l (fs.map fun p => (p.1, p.2.1)) cs = true) (hf : FloatsX P l X I (floatsF fs ρ) fs) :
    ∀ (fuel : Nat) (listed : Array Bool) (a : Act) (w : World) (ρc : Slots) (wc : World) (rest : List Nat), (listed.toList.filter (!·)).length = fuel → FInv l fs cs X I n (floatsF fs ρ) ρc wc rest listed a w → chainX P l X I (fun ch w' => ∀ ρ', Q (.panic ch) ρ' w') (fun ρ w => Q .normal ρ w) rest ρc wc →
      wpAny P .any l.toArray (fun e a' w' => ∃ ρ', Fits n ρ' a' ∧ Q e ρ' w') fuel listed a w := by
  have g := good_of hg
  unfold floatB at hb
  simp only [Bool.and_eq_true] at hb
  obtain ⟨hcov, hlast, hnd, hpair, hfl, hcg, hsel⟩ := hb
  have hcov' : ∀ i, i < l.length → (∃ p ∈ fs, p.1 = i) ∨ i ∈ cs := fun i hi => by
    have := List.all_eq_true.1 hcov i (by simpa using hi)
    rw [Bool.or_eq_true] at this
    rcases this with h | h
    · left
      have := List.contains_iff_mem.1 h
      simp at this
      obtain ⟨d, v, h⟩ := this
      exact ⟨_, h, rfl⟩
    · exact .inr (List.contains_iff_mem.1 h)
  have hfl' : ∀ p ∈ fs, ∃ o, l[p.1]? = some o ∧ o.guard = none ∧ p.1 ∉ cs ∧ o.dst = some p.2.1 ∧ (∀ j q, j ≤ p.1 → l[j]? = some q → p.2.1 ∉ q.looksAt l.toArray) ∧ (∀ j, j < l.length → j ≠ p.1 → dstOf l j ≠ some p.2.1) ∧ ∀ c ∈ cs, ∀ d, dstOf l c = some d → d ∉ o.looksAt l.toArray := fun p hp => by
    have := List.all_eq_true.1 hfl (p.1, p.2.1) (List.mem_map.2 ⟨p, hp, rfl⟩)
    dsimp only at this
    cases ho : l[p.1]? with
    | none => rw [ho] at this; cases this
    | some o =>
      rw [ho] at this
      simp only [Bool.and_eq_true] at this
      obtain ⟨⟨h1, h1c⟩, h2, h5, h3, h4⟩ := this
      refine ⟨o, rfl, by simpa using h1, fun hc => ?_, by simpa using h2, fun j q hj hq hx => ?_, fun j hj hne e => ?_, fun c hc d hd hx => ?_⟩
      · rw [List.contains_iff_mem.2 hc] at h1c; cases h1c
      · have := List.all_eq_true.1 h5 j (by simp; omega)
        rw [hq] at this
        simp only at this
        rw [List.contains_iff_mem.2 hx] at this
        cases this
      · have := List.all_eq_true.1 h3 j (by simpa using hj)
        rw [Bool.or_eq_true] at this
        rcases this with h | h
        · exact hne (Nat.eq_of_beq_eq_true h)
        · rw [e] at h; simp at h
      · have := List.all_eq_true.1 h4 c hc
        rw [hd] at this
        simp only at this
        rw [List.contains_iff_mem.2 hx] at this
        cases this
  have hcg' : ∀ c ∈ cs, ∃ o, l[c]? = some o ∧ o.guard = none := fun c hc => by
    have := List.all_eq_true.1 hcg c hc
    cases ho : l[c]? with
    | none => rw [ho] at this; cases this
    | some o => rw [ho] at this; exact ⟨o, rfl, by simpa using this⟩
  have hsel' : ∀ (i : Nat) (o : Oper), l[i]? = some o → ∀ cs b, o.op ≠ Op.select cs b := fun i o ho cs b e => by
    have := List.all_eq_true.1 hsel o (List.mem_of_getElem? ho)
    rw [e] at this
    cases this
  have hnew : ∀ p ∈ fs, floatsF fs ρ p.2.1 = p.2.2 := floatsF_new fs ρ (by
    have := ndB_nodup hnd
    rw [List.map_map] at this
    exact this)
  have hlt : ∀ (i : Nat) (o : Oper), l[i]? = some o → i < l.length := fun i o ho => (List.getElem?_eq_some_iff.1 ho).1
  -- all are done
  have fin : ∀ (listed : Array Bool) (a : Act) (w : World) (ρc : Slots) (wc : World) (rest : List Nat), FInv l fs cs X I n (floatsF fs ρ) ρc wc rest listed a w → chainX P l X I (fun ch w' => ∀ ρ', Q (.panic ch) ρ' w') (fun ρ w => Q .normal ρ w) rest ρc wc → (∀ i, i < l.length → On listed i) → ∃ ρ', Fits n ρ' a ∧ Q .normal ρ' w := fun listed a w ρc wc rest h hc hall => by
    obtain ⟨u, hu, hu1, hu2⟩ := h.suffix
    cases rest with
    | nil => exact ⟨ρc, ⟨h.tmps, h.defers, fun t => h.agree t (fun p hp hno => by
        obtain ⟨o, ho, -⟩ := hfl' p hp
        exact absurd (hall p.1 (hlt _ _ ho)) hno)⟩, by have e := h.same rfl; subst e; exact hc⟩
    | cons c r =>
      obtain ⟨o, ho, -⟩ := hcg' c (by rw [hu]; simp)
      exact absurd (hall c (hlt _ _ ho)) (hu2 c (by simp))
  intro fuel
  induction fuel with
  | zero =>
    intro listed a w ρc wc rest hfu h hc
    have full : ∀ i, i < l.length → On listed i := fun i hi => by
      have := count_zero _ hfu i (by rw [Array.length_toList, h.size]; omega)
      unfold On
      simp at this
      simp [this]
    refine ⟨?_, fin listed a w ρc wc rest h hc full⟩
    cases hr : Region.ready .any l.toArray listed with
    | nil => rfl
    | cons x xs =>
      exfalso
      have hmem : x ∈ Region.ready .any l.toArray listed := by rw [hr]; simp
      obtain ⟨h1, o, ho, _⟩ := mem_ready.1 hmem
      have hx : x < l.length := by simpa using (Array.getElem?_eq_some_iff.1 ho).1
      have h2 := full x hx
      have hx' : x < listed.size := h2.lt
      unfold On at h2
      simp [hx'] at h1 h2
      rw [h1] at h2
      cases h2
  | succ fuel ih =>
    intro listed a w ρc wc rest hfu h hc
    refine ⟨fun hr => fin listed a w ρc wc rest h hc fun i => ?_, fun i hi => ?_⟩
    · induction i using Nat.strongRecOn with
      | _ i ih2 =>
        intro hi
        refine Classical.byContradiction fun hno => ?_
        have ho : l[i]? = some l[i] := List.getElem?_eq_getElem hi
        have : i ∈ Region.ready .any l.toArray listed := by
          refine mem_ready.2 ⟨?_, l[i], by rw [List.getElem?_toArray]; exact ho, fun e he hb => ?_⟩
          · have hi' : i < listed.size := by rw [h.size]; exact hi
            unfold On at hno
            simp [hi'] at hno ⊢
            exact hno
          · have hlt := g.back i _ ho e he hb
            exact ih2 e.on hlt (by omega)
        rw [hr] at this
        cases this
    · obtain ⟨h1, o, ho, hall0⟩ := mem_ready.1 hi
      have ho' : l[i]? = some o := by simpa using ho
      have hilt : i < l.length := hlt i o ho'
      have hil : i < listed.size := by rw [h.size]; exact hilt
      have hno : ¬ On listed i := by
        unfold On
        simp [hil] at h1 ⊢
        exact h1
      have hall : ∀ e ∈ o.after, Region.binds .any e = true → On listed e.on := fun e he hb => hall0 e he hb
      have hI : Inv l (fun _ => []) (fun _ _ => True) (fun _ _ => True) (fun _ _ _ => True) a listed a w :=
        ⟨h.size, h.closed, rfl, rfl, fun _ _ _ => trivial, trivial, fun _ _ => rfl, fun _ _ _ _ _ _ _ _ => trivial⟩
      have hmr : ∀ k, ((masks l []).getD i 0).testBit k = true → On listed k := fun k hk => hI.maskReady ho' hall hk
      have hcnt : ((listed.setIfInBounds i true).toList.filter (!·)).length = fuel := by
        rw [Array.toList_setIfInBounds]
        have := count_set listed.toList i (by
          simp [hil] at h1
          simp [hil, h1])
        omega
      have hcl : ∀ j oj, l[j]? = some oj → On (listed.setIfInBounds i true) j → ∀ e ∈ oj.after, Region.binds .any e = true → On (listed.setIfInBounds i true) e.on := fun j oj hj hon e he hb => by
        rcases (on_set hil).1 hon with rfl | hon
        · obtain rfl : o = oj := by rw [ho'] at hj; exact Option.some.inj hj
          exact (on_set hil).2 (.inr (hall e he hb))
        · exact (on_set hil).2 (.inr (h.closed j oj hj hon e he hb))
      have hF : Fits n (fun t => a.tmps.getD t undef) a := ⟨h.tmps, h.defers, fun t => rfl⟩
      have hroom : ∀ t, o.dst = some t → t < n := fun t ht => g.room i o t ho' ht
      -- what it looks at is as in the frame in order
      have hlook : ∀ t ∈ o.looksAt l.toArray, a.tmps.getD t undef = ρc t := fun t ht => h.agree t fun q hq hnq e => by
        subst e
        obtain ⟨oq, hoq, -, -, hdq, hearly, -⟩ := hfl' q hq
        by_cases hqi : i ≤ q.1
        · exact hearly i o hqi ho' ht
        · exact hnq (hmr q.1 (g.tied i o q.1 oq q.2.1 ho' hoq (by omega) (.inl ⟨hdq, List.mem_append_right _ ht⟩)))
      unfold wpOp
      simp only [List.getElem?_toArray, ho']
      obtain ⟨u, hu, hu1, hu2⟩ := h.suffix
      have hguard : o.guard = none := by
        rcases hcov' i hilt with ⟨p, hp, rfl⟩ | hic
        · obtain ⟨o2, ho2, h2, -⟩ := hfl' p hp
          rw [ho'] at ho2
          cases ho2
          exact h2
        · obtain ⟨o2, ho2, h2⟩ := hcg' i hic
          rw [ho'] at ho2
          cases ho2
          exact h2
      have hw : Region.wanted o (yielded l.toArray a.tmps) = true := by unfold Region.wanted; rw [hguard]
      rw [if_pos hw]
      rcases hcov' i hilt with ⟨p, hp, rfl⟩ | hic
      · refine .inl (wp_of_yields ?_)
        rw [hF.eval]
        obtain ⟨o2, ho2, h2, hpc, hpd, hearly, huniq, hpl⟩ := hfl' p hp
        rw [ho'] at ho2
        cases ho2
        have hghost : ∀ t ∈ o.looksAt l.toArray, a.tmps.getD t undef = floatsF fs ρ t := fun t ht => (hlook t ht).trans (h.ghost t fun c hc e => hpl c hc t e ht)
        rw [exec_agree (ρ := floatsF fs ρ) (hsel' _ _ ho') hghost]
        have hrn : rest ≠ [] := fun e => by
          subst e
          rw [List.append_nil] at hu
          cases hgl : cs.getLast? with
          | none => rw [hgl] at hlast; cases hlast
          | some c =>
            rw [hgl] at hlast
            have hcm : c ∈ cs := List.mem_of_getLast? hgl
            have hb1 := List.all_eq_true.1 hlast (p.1, p.2.1) (List.mem_map.2 ⟨p, hp, rfl⟩)
            exact absurd (hI.mask c p.1 (hu1 c (hu ▸ hcm)) hb1) hno
        have hIw : I w := h.inv.elim (fun e => absurd e hrn) (fun x => x)
        refine Yk.mono (hf.get p hp o ho' w hIw) ?_
        rintro v w' ⟨rfl, hxw⟩
        refine ih _ _ _ ρc wc rest hcnt ⟨by simpa using h.size, hcl, (hF.put o.dst hroom _).size, (hF.put o.dst hroom _).defers, ⟨u, hu, fun c hc => (on_set hil).2 (.inr (hu1 c hc)), fun c hc hx => ?_⟩, fun t ht => ?_, h.ghost, .inr (hIX _ _ hIw hxw), hXt _ _ _ h.turn hxw, fun e => absurd e hrn⟩ hc
        · rcases (on_set hil).1 hx with rfl | hx
          · exact hpc (by rw [hu]; exact List.mem_append_right _ hc)
          · exact hu2 c hc hx
        · rw [(hF.put o.dst hroom _).get t, hpd]
          by_cases e : t = p.2.1
          · subst e
            rw [updO_some, upd_eq, h.ghost _ (fun c hc e => ?_), hnew p hp]
            obtain ⟨oc, hoc, -⟩ := hcg' c hc
            exact huniq c (hlt _ _ hoc) (fun x => hpc (x ▸ hc)) e
          · rw [updO_some, upd_ne e]
            refine h.agree t fun q hq hnq => ?_
            by_cases hqi : q.1 = p.1
            · obtain ⟨oq, hoq, -, -, hdq, -⟩ := hfl' q hq
              rw [hqi, ho'] at hoq
              cases hoq
              rw [hpd] at hdq
              exact fun x => e (x.symm.trans (Option.some.inj hdq).symm)
            · exact ht q hq (fun x => by
                rcases (on_set hil).1 x with x | x
                · exact hqi x
                · exact hnq x)
      · have hir : i ∈ rest := by
          rw [hu] at hic
          rcases List.mem_append.1 hic with x | x
          · exact absurd (hu1 i x) hno
          · exact x
        cases rest with
        | nil => cases hir
        | cons b r =>
          have hib : i = b := by
            refine Classical.byContradiction fun hne => ?_
            rcases List.mem_cons.1 hir with x | x
            · exact hne x
            · exact hu2 b (by simp) (hmr b (pairB_get hpair b i u r hu x))
          subst hib
          have hc' : Yp P (fun v w' => (r = [] ∨ I w') ∧ chainX P l X I (fun ch w' => ∀ ρ', Q (.panic ch) ρ' w') (fun ρ w => Q .normal ρ w) r (updO ρc o.dst v) w') (fun ch w' => ∀ ρ', Q (.panic ch) ρ' w') ((execOp (evalR ρc) o).run P w) := by
            unfold chainX at hc
            rw [ho'] at hc
            exact hc w h.turn
          refine .inl (wp_of_yieldsP (J := fun ch w' => ∀ ρ', Q (.panic ch) ρ' w') ?_ fun ch w' h => ⟨_, hF, h _⟩)
          rw [hF.eval]
          rw [exec_agree (ρ := ρc) (hsel' _ _ ho') hlook]
          refine Yp.mono' hc' ?_ fun _ _ h => h
          rintro v w' ⟨hIw, hcr⟩
          refine ih _ _ _ _ w' r hcnt ⟨by simpa using h.size, hcl, (hF.put o.dst hroom _).size, (hF.put o.dst hroom _).defers, ⟨u ++ [i], by rw [hu]; simp, fun c hcm => ?_, fun c hcm hx => ?_⟩, fun t ht => ?_, fun t ht => ?_, hIw, hX _, fun _ => rfl⟩ hcr
          · rcases List.mem_append.1 hcm with x | x
            · exact (on_set hil).2 (.inr (hu1 c x))
            · exact (on_set hil).2 (.inl (List.mem_singleton.1 x))
          · rcases (on_set hil).1 hx with rfl | hx
            · exact hno (hmr c (pairB_get hpair c c u r hu hcm))
            · exact hu2 c (by simp [hcm]) hx
          · rw [(hF.put o.dst hroom _).get t]
            cases hd : o.dst with
            | none =>
              exact h.agree t fun q hq hnq => ht q hq (fun x => by
                rcases (on_set hil).1 x with x | x
                · obtain ⟨_, _, _, hpc, _⟩ := hfl' q hq
                  exact hpc (x ▸ hic)
                · exact hnq x)
            | some d =>
              rw [updO_some, updO_some]
              by_cases e : t = d
              · subst e; rw [upd_eq, upd_eq]
              · rw [upd_ne e, upd_ne e]
                exact h.agree t fun q hq hnq => ht q hq (fun x => by
                  rcases (on_set hil).1 x with x | x
                  · obtain ⟨_, _, _, hpc, _⟩ := hfl' q hq
                    exact hpc (x ▸ hic)
                  · exact hnq x)
          · have hne := ht i hic
            unfold dstOf at hne
            rw [ho'] at hne
            simp only [Option.bind_some] at hne
            cases hd : o.dst with
            | none => exact h.ghost t ht
            | some d =>
              rw [hd] at hne
              rw [updO_some, upd_ne (fun e => hne (by rw [e]))]
              exact h.ghost t ht
theorem wpF_floatX {X : World → World → Prop} (hX : ∀ a, X a a) (hXt : ∀ a b c, X a b → X b c → X a c) (fs : List (Nat × Tmp × Value)) (cs : List Nat) (I : World → Prop) (hIX : ∀ a b, I a → X a b → I b) {id : Nat} (hm : P.follows .mixedOrders = true) (hg : goodB l n = true) (hb : floatB l (fs.map fun p => (p.1, p.2.1)) cs = true) (hI : I w.drew) (hf : FloatsX P l X I (floatsF fs ρ) fs)
    (hc : chainX P l X I (fun ch w' => ∀ ρ', Q (.panic ch) ρ' w') (fun ρ w => Q .normal ρ w) cs (floatsF fs ρ) w.drew) : wpF P n (.region id l.toArray true) Q ρ w := by
  intro a ha
  exact wp_region_any hm (float_any hX hXt hIX (ρ := ρ) hg hb hf _ _ _ _ (floatsF fs ρ) w.drew cs (by simp) ⟨by simp, fun i o _ h => absurd h On.not_replicate, ha.size, ha.defers, ⟨[], rfl, (fun c hc => by cases hc), fun c _ h => On.not_replicate h⟩, fun t ht => (ha.get t).trans (floatsF_old fs ρ t (fun p hp => ht p hp On.not_replicate)).symm, fun t _ => rfl, .inr hI, hX _, fun _ => rfl⟩ hc)
theorem wpF_float (fs : List (Nat × Tmp × Value)) (cs : List Nat) (I : World → Prop) {id : Nat} (hm : P.follows .mixedOrders = true) (hg : goodB l n = true) (hb : floatB l (fs.map fun p => (p.1, p.2.1)) cs = true) (hI : I w.drew) (hf : FloatsO P l I (floatsF fs ρ) fs)
    (hc : chainF P l I (fun ρ w => Q .normal ρ w) cs (floatsF fs ρ) w.drew) : wpF P n (.region id l.toArray true) Q ρ w :=
  wpF_floatX (X := Eq) (fun _ => rfl) (fun _ _ _ h1 h2 => h1.trans h2) fs cs I (fun _ _ h e => e ▸ h) hm hg hb hI hf.toX hc.toX
theorem wpF_floatE (fs : List (Nat × Tmp × Value)) (cs : List Nat) (I : World → Prop) (hIX : ∀ a b, I a → Ext a b → I b) {id : Nat} (hm : P.follows .mixedOrders = true) (hg : goodB l n = true) (hb : floatB l (fs.map fun p => (p.1, p.2.1)) cs = true) (hI : I w.drew) (hf : FloatsX P l Ext I (floatsF fs ρ) fs)
    (hc : chainX P l Ext I (fun ch w' => ∀ ρ', Q (.panic ch) ρ' w') (fun ρ w => Q .normal ρ w) cs (floatsF fs ρ) w.drew) : wpF P n (.region id l.toArray true) Q ρ w :=
  wpF_floatX Ext.refl (fun _ _ _ h1 h2 => h1.trans h2) fs cs I hIX hm hg hb hI hf hc
end
open Go.RowKit
set_option maxHeartbeats 400000 in
theorem putText_any (w : World) (v : Value) (l : List UInt8) (hr : RB w v l) (s : ByteArray) (hl : l.length + s.size + 16 ≤ 140737488355328) :
    Calls Tryd.prog 52 #[v, .string s] w fun e w' => ∃ v', e = .returned v' ∧ NewB 5 w w' v' (l ++ Lib.uvarint s.size ++ s.data.toList) := by
  obtain ⟨i0, hi, hz0, hz1, hz2⟩ := info_parts infoB
  have h9 := uvarint_len63 s.size (by omega)
  have hss : s.data.toList.length = s.size := by simp
  have HSS := Lib.hid hss
  clear hss
  go_enter Tryd.func52, Tryd.ntmps52
  go_wp2_with fail
  refine (own_any _ _ l hr (by omega)).mono ?_
  rintro e w1 ⟨v1, rfl, h1⟩
  go_wp2_with fail
  refine (number_any w.heap.size l.length s.size (by omega) v1 _ w1 h1.own h1.by_.size (by omega)).mono ?_
  rintro e w2 ⟨v2, rfl, ho, g⟩
  have h2 := h1.more g ho
  go_wp2_with (at_builtin; refine wpList_append_src _ rfl _ _ 26 9 rfl w.heap.size 5 i0 (.int .u8 0) 1 1 u22 hi hz0 hz1 hz2 rfl _ _ _ rfl h2.own (.string s) _ _ rfl (srcString uStr _ s) ?c1 ?c2 ?c3 ?_)
  case c1 => have := HSS.out; rw [this, List.length_append]; unfold maxLen; omega
  case c2 => have := HSS.out; rw [this, List.length_append]; omega
  case c3 => exact h2.by_.size
  intro v' w3 hown' hgrow
  go_wp2
  go_ret
  exact ⟨v', rfl, h2.more hgrow (by rw [HSS.out, List.length_append]; exact hown')⟩

open Go.RowKit
def textB (s : Bs) : Bs := Lib.uvarint s.length ++ s
def updB (u : Upd) : Bs := [u.kind] ++ textB u.name ++ u.new.1
def idsB (l : List Bs) : Bs := Lib.uvarint l.length ++ l.flatMap fun x => x
def forceB (b : Bool) : UInt8 := bif b then 1 else 0
def tailM (m : Msg) : Bs :=
  if m.kind = 2 then Lib.uvarint m.refs.length ++ m.refs.flatMap updB
  else if m.kind = 3 then idsB m.wants ++ idsB m.haves
  else if m.kind = 4 then Lib.uvarint m.size.toNat ++ m.id.1
  else if m.kind = 5 then Lib.uvarint m.at_.toNat
  else if m.kind = 6 then Lib.uvarint m.at_.toNat ++ textB m.bytes
  else if m.kind = 7 then Lib.uvarint m.size.toNat ++ (m.id.1 ++ (textB m.name ++ (m.old.1 ++ (m.new.1 ++ [forceB m.force]))))
  else if m.kind = 8 then Lib.uvarint m.code.toNat
  else []
def encB (m : Msg) : Bs := m.kind :: (Lib.uvarint m.session.toNat ++ tailM m)
theorem rightB_get {m : Msg} (h : rightB m = true) : ∃ p, kindsG m.kind = some p ∧ rightP m p = true := by
  unfold rightB at h
  split at h
  · cases h
  · rename_i p hp
    exact ⟨p, hp, h⟩
theorem kindsG_cases {k : UInt8} {p : Parts} (h : kindsG k = some p) :
    (k = 1 ∧ p = ⟨false, false, false, false, false, false, false, false⟩) ∨ (k = 2 ∧ p = ⟨true, false, false, false, false, false, false, false⟩) ∨ (k = 3 ∧ p = ⟨false, true, false, false, false, false, false, false⟩) ∨ (k = 4 ∧ p = ⟨false, false, true, false, true, false, false, false⟩) ∨ (k = 5 ∧ p = ⟨false, false, false, true, false, false, false, false⟩) ∨ (k = 6 ∧ p = ⟨false, false, false, true, false, true, false, false⟩) ∨ (k = 7 ∧ p = ⟨false, false, true, false, true, false, true, false⟩) ∨ (k = 8 ∧ p = ⟨false, false, false, false, false, false, false, true⟩) := by
  unfold kindsG updM at h
  split at h
  · cases h; rename_i e; simp [e]
  · split at h
    · cases h; rename_i e; simp [e]
    · split at h
      · cases h; rename_i e; simp [e]
      · split at h
        · cases h; rename_i e; simp [e]
        · split at h
          · cases h; rename_i e; simp [e]
          · split at h
            · cases h; rename_i e; simp [e]
            · split at h
              · cases h; rename_i e; simp [e]
              · split at h
                · cases h; rename_i e; simp [e, dParts]
                · cases h
structure RightF (m : Msg) (p : Parts) : Prop where
  session : 0 ≤ m.session ∧ m.session ≤ 2147483647
  size : 0 ≤ m.size ∧ m.size ≤ 1048576
  at_ : 0 ≤ m.at_ ∧ m.at_ ≤ 1048576
  code : 0 ≤ m.code ∧ m.code ≤ 22
  refs : m.refs.length ≤ 128 ∧ ∀ u ∈ m.refs, u.name.length ≤ 32
  wants : m.wants.length ≤ 65536
  haves : m.haves.length ≤ 65536
  bytes : p.bytes = true → m.bytes.length ≤ 256
  name : p.push = true → m.name.length ≤ 32
theorem boundB_iff {n m : Int} (h : boundB n m = true) : 0 ≤ n ∧ n ≤ m := by
  unfold boundB at h
  simp only [Bool.and_eq_true, decide_eq_true_eq] at h
  omega
theorem badB_name {u : Upd} (h : badB u = false) : u.name.length ≤ 32 := by
  unfold badB at h
  simp only [Bool.or_eq_false_iff] at h
  have h1 := h.1.1.2
  exact (nameB_len (by simpa using h1)).2
theorem listB_facts {l : List Upd} (h : listB l = true) : l.length ≤ 128 ∧ ∀ u ∈ l, u.name.length ≤ 32 := by
  classical
  unfold listB at h
  have h1 := of_decide_eq_true h
  refine ⟨h1.2, fun u hu => ?_⟩
  obtain ⟨i, hi, rfl⟩ := List.getElem_of_mem hu
  have := (h1.1 i hi).1
  rw [List.getD_eq_getElem?_getD, List.getElem?_eq_getElem hi] at this
  exact badB_name this
theorem setW_len {l : List Bs} (h : setW l = true) : l.length ≤ 65536 := by
  unfold setW at h
  simp only [Bool.and_eq_true, decide_eq_true_eq] at h
  exact h.1.1
theorem rightP_facts {m : Msg} {p : Parts} (h : rightP m p = true) : RightF m p := by
  unfold rightP at h
  simp only [Bool.and_eq_true, Bool.not_eq_true', Bool.or_eq_false_iff, Bool.not_eq_false'] at h
  obtain ⟨⟨⟨⟨⟨h1, h2⟩, h3⟩, h4⟩, h5⟩, ⟨⟨h6, h7⟩, h8⟩, h9, h10⟩ := h
  refine ⟨boundB_iff h1, boundB_iff h6, boundB_iff h7, boundB_iff h8, listB_facts h3, setW_len h4, setW_len h5, fun hp => ?_, fun hp => ?_⟩
  · rw [hp] at h9
    simp at h9
    omega
  · rw [hp] at h10
    simp at h10
    exact (nameB_len h10.1).2
theorem updB_len {u : Upd} (h : u.name.length ≤ 32) : (updB u).length ≤ 74 := by
  unfold updB textB
  have := uvarint_len63 u.name.length (by omega)
  simp only [List.length_append, List.length_singleton, u.new.2]
  omega
theorem updsB_len : ∀ {l : List Upd}, (∀ u ∈ l, u.name.length ≤ 32) → (l.flatMap updB).length ≤ 74 * l.length
  | [], _ => Nat.le_refl _
  | u :: r, h => by
    have h1 := updB_len (h u (by simp))
    have h2 := updsB_len (l := r) (fun x hx => h x (by simp [hx]))
    rw [List.flatMap_cons, List.length_append, List.length_cons]
    omega
theorem upds_snoc {l : List Upd} {i : Nat} (h : i < l.length) : ((l.take (i + 1)).flatMap updB) = ((l.take i).flatMap updB) ++ updB (l.getD i dUpd) := by
  rw [List.take_succ_eq_append_getElem h, List.flatMap_append, List.flatMap_singleton, List.getD_eq_getElem?_getD, List.getElem?_eq_getElem h]
  rfl
theorem putTextL (w : World) (v : Value) (l : Bs) (hr : RB w v l) (s : Bs) (hl : l.length + s.length + 16 ≤ 140737488355328) :
    Calls Tryd.prog 52 #[v, St s] w fun e w' => ∃ v', e = .returned v' ∧ NewB 5 w w' v' (l ++ textB s) := by
  have hs : (⟨s.toArray⟩ : ByteArray).size = s.length := by show s.toArray.size = _; rw [List.size_toArray]
  have h := putText_any w v l hr ⟨s.toArray⟩ (by rw [hs]; omega)
  have e : l ++ Lib.uvarint (⟨s.toArray⟩ : ByteArray).size ++ (⟨s.toArray⟩ : ByteArray).data.toList = l ++ textB s := by
    unfold textB
    rw [hs, List.append_assoc]
  rw [e] at h
  exact h
theorem flat_snoc {l : List Bs} {i : Nat} (h : i < l.length) : ((l.take (i + 1)).flatMap fun x => x) = ((l.take i).flatMap fun x => x) ++ l.getD i [] := by
  rw [List.take_succ_eq_append_getElem h, List.flatMap_append, List.flatMap_singleton, List.getD_eq_getElem?_getD, List.getElem?_eq_getElem h]
  rfl
theorem RG.lens {w : World} {v : Value} {l : List Bs} (h : RG 32 Lib.byteCells w v l) : ∀ x ∈ l, x.length = 32 := fun x hx => bytes_len32 (h.1 x hx)
theorem flat_len32 : ∀ {l : List Bs}, (∀ x ∈ l, x.length = 32) → (l.flatMap fun x => x).length = 32 * l.length
  | [], _ => rfl
  | a :: r, h => by rw [List.flatMap_cons, List.length_append, h a (by simp), flat_len32 (fun x hx => h x (by simp [hx])), List.length_cons]; omega
theorem flat_take_len {l : List Bs} (h : ∀ x ∈ l, x.length = 32) (i : Nat) (hi : i ≤ l.length) : ((l.take i).flatMap fun x => x).length = 32 * i := by
  rw [flat_len32 (fun x hx => h x (List.mem_of_mem_take hx)), List.length_take]
  omega
theorem uvarint_len9 {n : Nat} (h : n ≤ 9223372036854775807) : (Lib.uvarint n).length ≤ 9 := uvarint_len63 n (by omega)
theorem idsB_len {l : List Bs} (h : ∀ x ∈ l, x.length = 32) (hl : l.length ≤ 65536) : (idsB l).length ≤ 2097200 := by
  unfold idsB
  have h1 := uvarint_len63 l.length (by omega)
  rw [List.length_append, flat_len32 h]
  omega
open Go.RowKit
theorem og_eq {w : World} {α : Type} {b k : Nat} {e : TypeId} {enc : α → List Value} {v : Value} {l l' : List α} (h : OG b e k enc w v l) (e' : l = l') : OG b e k enc w v l' := by rw [← e']; exact h
open Go.RowKit
theorem info_ex {P : Program} {e : TypeId} {k b : Nat} (h : (P.info? e).map (fun i => (i.zero.map (fun z => z.cells.size), i.size, i.bytes)) = some (some k, k, b)) : ∃ z, (P.info? e).map (fun i => (i.zero, i.size, i.bytes)) = some (some z, k, b) ∧ z.cells.size = k := by
  cases hi : P.info? e with
  | none => rw [hi] at h; cases h
  | some i =>
    rw [hi] at h
    simp only [Option.map_some, Option.some.injEq, Prod.mk.injEq] at h
    cases hz : i.zero with
    | none => rw [hz] at h; cases h.1
    | some z =>
      rw [hz] at h
      simp only [Option.map_some, Option.some.injEq] at h
      exact ⟨z, by simp [hz, h.2.1, h.2.2], h.1⟩
section
variable {P : Program} {ρ : Slots} {w : World}
theorem Yp.clo {f : FuncId} {dst : Option Tmp} {ty : TypeId} {pos : String} {af : Array Edge} {gd : Option (Nat × Bool)} {K : Value → World → Prop} {J : List PanicEntry → World → Prop} (hp : Plain P f) {c : Operand} {args : Array Operand} {at_ : Array TypeId} {caps : Array Value} (hc : evalR ρ c = .func (.func f) #[] caps) (vs : Array Value) (hv : args.map (evalR ρ) ++ caps = vs)
    (h : Calls P f vs w fun e w' => match e with | .returned v => K v w' | .panicked ch => J ch w' | .outgrown => False) : Yp P K J ((execOp (evalR ρ) ⟨dst, .call ⟨.value c, args, at_⟩, ty, pos, af, gd⟩).run P w) := by
  subst hv
  have hr : (execOp (evalR ρ) ⟨dst, .call ⟨.value c, args, at_⟩, ty, pos, af, gd⟩).run P w = .ok (.enter f (args.map (evalR ρ) ++ caps)) w := by
    unfold execOp
    simp [resolve, hc, Deferred.ofValue, invoke, hp _ w]
  rw [hr]
  exact h
end
section
variable {P : Program} {K : Value → World → Prop} {ρ : Slots} {w : World} {d : Option Tmp} {ty : TypeId} {pos : String} {af : Array Edge} {gd : Option (Nat × Bool)}
theorem Yk.convStr {t e s : TypeId} {u : TypeDesc} (hs : P.underlying s = some u) (ht : P.underlying t = some (.slice e)) (he : P.underlying e = some (.int .u8)) {x : Operand} {l : List UInt8} (hx : evalR ρ x = St l) (hl : l.length ≤ 9223372036854775807)
    (hk : ∀ v w', RB w' v l → Ext w w' → (∀ k, v.ownBlock = some k → w.heap.size ≤ k ∧ k < w'.heap.size) → K v w') : Yk P K ((execOp (evalR ρ) ⟨d, .convert s t x, ty, pos, af, gd⟩).run P w) := by
  have hr := Lib.run_convert_string_bytes (P := P) w s t e ⟨l.toArray⟩ hs ht he
  have hsz : (⟨l.toArray⟩ : ByteArray).size = l.length := by simp [ByteArray.size]
  rw [hsz] at hr
  refine Yk.value (v := .slice (some ⟨w.heap.size, 0, none⟩) l.length (grownCap w l.length 0 e)) (w' := Lib.bytesWorld w e ⟨l.toArray⟩) ?_ (hk _ _ ?_ (Lib.bytesWorld_below w e _) ?_)
  · unfold execOp
    simp only [hx, hr, Sem.run_bind, Sem.run_pure, Result.andThen_ok]
  · refine ⟨by rw [Lib.byteCells_length, Nat.mul_one], _, _, rfl, grownCap_ge w _ _ _, grownCap_le_maxLen w _ _ _ (by simpa [maxLen] using hl), (fun h => by cases h), fun a ha j u hu => ?_⟩
    cases ha
    have hj : j < l.length := by have := (List.getElem?_eq_some_iff.1 hu).1; rwa [Lib.byteCells_length] at this
    have hc := Lib.bytesWorld_cell w e ⟨l.toArray⟩ j (by rw [hsz]; exact hj)
    rw [show (⟨w.heap.size, 0, none⟩ : Addr).add j = ⟨w.heap.size, j, none⟩ by simp [Addr.add]; exact fun h => h.symm]
    rw [hc, ← hu, byte_at hj]
  · intro k hk
    cases hk
    rw [Lib.bytesWorld_size]
    exact ⟨Nat.le_refl _, Nat.lt_succ_self _⟩
end
open Go.RowKit
set_option maxRecDepth 100000
theorem wr22_ty51 : Tryd.prog.underlying 51 = some (.slice 70) := by kernel_rfl
theorem wr22_szg70 : ∀ w' : World, (sizeOf 70).run Tryd.prog w' = .ok 33 w' := fun _ => by kernel_rfl
theorem wr22_ty70 : ∃ fs, Tryd.prog.underlying 70 = some (.struct fs) := struct_of (by kernel_rfl)
theorem wr22_isz70 : (Tryd.prog.info? 70).map (·.size) = some 33 := by kernel_rfl
theorem wr22_al70 {d : Option Tmp} {ty : TypeId} {pos : String} {af : Array Edge} {gd : Option (Nat × Bool)} (σ : Operand → Value) (w : World) : (execOp σ ⟨d, .alloc 70, ty, pos, af, gd⟩).run Tryd.prog w = .ok (.value (PQ w.heap.size 0)) (w.alloc (.cells (nmdC (⟨[], zid⟩ : Nmd)).toArray 70)) := by kernel_rfl
theorem wr22_ty22 : Tryd.prog.underlying 22 = some (.slice 67) := by kernel_rfl
theorem wr22_fo70_0 : FieldOff Tryd.prog 70 0 0 := fun b o w => by simp [go_sem]
theorem wr22_ty9 : Tryd.prog.underlying 9 = some (.string) := by kernel_rfl
theorem wr22_fo70_1 : FieldOff Tryd.prog 70 1 1 := fun b o w => by simp [go_sem]
theorem wr22_ty25 : Tryd.prog.underlying 25 = some (.array 32 5) := by kernel_rfl
theorem wr22_bs67_0_1_3h (z0 : Int) (z1 : ByteArray) (c3_0 c3_1 c3_2 c3_3 c3_4 c3_5 c3_6 c3_7 c3_8 c3_9 c3_10 c3_11 c3_12 c3_13 c3_14 c3_15 c3_16 c3_17 c3_18 c3_19 c3_20 c3_21 c3_22 c3_23 c3_24 c3_25 c3_26 c3_27 c3_28 c3_29 c3_30 c3_31 : Value) (w : World) : (Instr.build 67 #[(0, .int .u8 z0), (1, .string z1), (3, .agg #[c3_0, c3_1, c3_2, c3_3, c3_4, c3_5, c3_6, c3_7, c3_8, c3_9, c3_10, c3_11, c3_12, c3_13, c3_14, c3_15, c3_16, c3_17, c3_18, c3_19, c3_20, c3_21, c3_22, c3_23, c3_24, c3_25, c3_26, c3_27, c3_28, c3_29, c3_30, c3_31])]).run Tryd.prog w = .ok (.agg #[.int .u8 z0, .string z1, .int .u8 0, .int .u8 0, .int .u8 0, .int .u8 0, .int .u8 0, .int .u8 0, .int .u8 0, .int .u8 0, .int .u8 0, .int .u8 0, .int .u8 0, .int .u8 0, .int .u8 0, .int .u8 0, .int .u8 0, .int .u8 0, .int .u8 0, .int .u8 0, .int .u8 0, .int .u8 0, .int .u8 0, .int .u8 0, .int .u8 0, .int .u8 0, .int .u8 0, .int .u8 0, .int .u8 0, .int .u8 0, .int .u8 0, .int .u8 0, .int .u8 0, .int .u8 0, c3_0, c3_1, c3_2, c3_3, c3_4, c3_5, c3_6, c3_7, c3_8, c3_9, c3_10, c3_11, c3_12, c3_13, c3_14, c3_15, c3_16, c3_17, c3_18, c3_19, c3_20, c3_21, c3_22, c3_23, c3_24, c3_25, c3_26, c3_27, c3_28, c3_29, c3_30, c3_31]) w := by kernel_rfl
theorem wr22_bs67_0_1_3 (z0 : UInt8) (z1 : List UInt8) (z3 : Id32) (w : World) : (Instr.build 67 #[(0, B8 z0), (1, St z1), (3, AB z3.1)]).run Tryd.prog w = .ok (.agg (B8 (z0) :: (St (z1) :: (Lib.byteCells zid.1 ++ (Lib.byteCells z3.1)))).toArray) w := by
 obtain ⟨z3, k3⟩ := z3
 obtain ⟨a3_0, a3_1, a3_2, a3_3, a3_4, a3_5, a3_6, a3_7, a3_8, a3_9, a3_10, a3_11, a3_12, a3_13, a3_14, a3_15, a3_16, a3_17, a3_18, a3_19, a3_20, a3_21, a3_22, a3_23, a3_24, a3_25, a3_26, a3_27, a3_28, a3_29, a3_30, a3_31, rfl⟩ := list32 k3
 exact wr22_bs67_0_1_3h _ _ _ _ _ _ _ _ _ _ _ _ _ _ _ _ _ _ _ _ _ _ _ _ _ _ _ _ _ _ _ _ _ _ w
theorem wr22_lh22 (c0 c1 c2 c3 c4 c5 c6 c7 c8 c9 c10 c11 c12 c13 c14 c15 c16 c17 c18 c19 c20 c21 c22 c23 c24 c25 c26 c27 c28 c29 c30 c31 c32 c33 c34 c35 c36 c37 c38 c39 c40 c41 c42 c43 c44 c45 c46 c47 c48 c49 c50 c51 c52 c53 c54 c55 c56 c57 c58 c59 c60 c61 c62 c63 c64 c65 : Value) (w : World) : (Instr.buildSlice 22 1 #[(0, .agg #[c0, c1, c2, c3, c4, c5, c6, c7, c8, c9, c10, c11, c12, c13, c14, c15, c16, c17, c18, c19, c20, c21, c22, c23, c24, c25, c26, c27, c28, c29, c30, c31, c32, c33, c34, c35, c36, c37, c38, c39, c40, c41, c42, c43, c44, c45, c46, c47, c48, c49, c50, c51, c52, c53, c54, c55, c56, c57, c58, c59, c60, c61, c62, c63, c64, c65])]).run Tryd.prog w = .ok (.slice (some ⟨w.heap.size, 0, none⟩) 1 1) (w.alloc (.cells #[c0, c1, c2, c3, c4, c5, c6, c7, c8, c9, c10, c11, c12, c13, c14, c15, c16, c17, c18, c19, c20, c21, c22, c23, c24, c25, c26, c27, c28, c29, c30, c31, c32, c33, c34, c35, c36, c37, c38, c39, c40, c41, c42, c43, c44, c45, c46, c47, c48, c49, c50, c51, c52, c53, c54, c55, c56, c57, c58, c59, c60, c61, c62, c63, c64, c65] 67)) := by kernel_rfl
theorem wr22_lg22 : ∀ (cs : Array Value), cs.size = 66 → ∀ w : World, (Instr.buildSlice 22 1 #[(0, .agg cs)]).run Tryd.prog w = .ok (.slice (some ⟨w.heap.size, 0, none⟩) 1 1) (w.alloc (.cells cs 67))
 | ⟨c0 :: c1 :: c2 :: c3 :: c4 :: c5 :: c6 :: c7 :: c8 :: c9 :: c10 :: c11 :: c12 :: c13 :: c14 :: c15 :: c16 :: c17 :: c18 :: c19 :: c20 :: c21 :: c22 :: c23 :: c24 :: c25 :: c26 :: c27 :: c28 :: c29 :: c30 :: c31 :: c32 :: c33 :: c34 :: c35 :: c36 :: c37 :: c38 :: c39 :: c40 :: c41 :: c42 :: c43 :: c44 :: c45 :: c46 :: c47 :: c48 :: c49 :: c50 :: c51 :: c52 :: c53 :: c54 :: c55 :: c56 :: c57 :: c58 :: c59 :: c60 :: c61 :: c62 :: c63 :: c64 :: c65 :: []⟩, _, w => wr22_lh22 c0 c1 c2 c3 c4 c5 c6 c7 c8 c9 c10 c11 c12 c13 c14 c15 c16 c17 c18 c19 c20 c21 c22 c23 c24 c25 c26 c27 c28 c29 c30 c31 c32 c33 c34 c35 c36 c37 c38 c39 c40 c41 c42 c43 c44 c45 c46 c47 c48 c49 c50 c51 c52 c53 c54 c55 c56 c57 c58 c59 c60 c61 c62 c63 c64 c65 w
theorem wr22_ig67 : ∃ z, (Tryd.prog.info? 67).map (fun i => (i.zero, i.size, i.bytes)) = some (some z, 66, 88) ∧ z.cells.size = 66 := info_ex (by kernel_rfl)
theorem wr22_isz22 : (Tryd.prog.info? 22).map (·.size) = some 1 := by kernel_rfl
theorem wr22_ty53 : ∃ fs, Tryd.prog.underlying 53 = some (.struct fs) := struct_of (by kernel_rfl)
theorem wr22_isz53 : (Tryd.prog.info? 53).map (·.size) = some 36 := by kernel_rfl
theorem wr22_pl31 : Plain Tryd.prog 31 := fun _ _ => by kernel_rfl
theorem wr22_al22 {d : Option Tmp} {ty : TypeId} {pos : String} {af : Array Edge} {gd : Option (Nat × Bool)} (σ : Operand → Value) (w : World) : (execOp σ ⟨d, .alloc 22, ty, pos, af, gd⟩).run Tryd.prog w = .ok (.value (PQ w.heap.size 0)) (w.alloc (.cells ([(Value.slice none 0 0)]).toArray 22)) := by kernel_rfl
theorem wr22_fo53_0 : FieldOff Tryd.prog 53 0 0 := fun b o w => by simp [go_sem]
theorem wr22_pl87 : Plain Tryd.prog 87 := fun _ _ => by kernel_rfl
theorem wr22_fo53_1 : FieldOff Tryd.prog 53 1 1 := fun b o w => by simp [go_sem]
set_option maxHeartbeats 1600000
theorem of1_any (w0 w : World) (hE0 : Ext w0 w) (gb : Nat) (hgb : w0.heap.size ≤ gb) (vb : Value) (L : List Upd) (hb : w.heap[gb]? = some (.cells ([vb]).toArray 22 (0, 0))) (ho : OG w0.heap.size 67 66 (updC) w vb (L)) (hap : OB vb gb) (k : UInt8) (v : Value) (l : List Nmd) (hq : RG 33 nmdC w0 v l) (hl : L.length + l.length ≤ 1000000) :
  Calls Tryd.prog 87 #[B8 k, v, PQ gb 0] w fun e w' => ∃ v', e = .returned (.tuple #[]) ∧ w'.heap[gb]? = some (.cells ([v']).toArray 22 (0, 0)) ∧ OG w0.heap.size 67 66 (updC) w' v' (L ++ l.map (ofNmd k)) ∧ OB v' gb ∧ Ext w0 w' := by
 have hgl := (bl hb)
 have hsz0 := hE0.size
 refine calls_of_wpF (args := [B8 (k), v, PQ gb 0]) Tryd.func87 rfl 23 rfl (Nat.le_of_ble_eq_true rfl) ?_
 intro ρ0 hb
 have T0 : ρ0 0 = (B8 (k) : Value) := hb.get 0
 have T1 : ρ0 1 = (v : Value) := hb.get 1
 have T2 : ρ0 2 = (PQ gb 0 : Value) := hb.get 2
 clear hb
 have hE := Ext.refl w
 refine sk fun K1 hK1 => (wt (oM rfl (oS rfl (Yk.lenRG wr22_ty51 (RG.of (hq.keep hE0) T1) (oM rfl (oL_ [(0, B8 (k)), (1, v), (2, PQ gb 0), (7, v), (8, NI l.length), (9, NI 0)] ⟨T0, T1, T2, T1, rfl, rfl, trivial⟩ fun ρ2 ⟨T0, T1, T2, T7, T8, T9, _⟩ => (tN (hK1 _ _ (wpF_block (wpF_loop (fun (ρ : Slots) (wz : World) => ∃ i : Nat, ∃ vb1 : Value, ρ 0 = (B8 (k) : Value) ∧ ρ 1 = (v : Value) ∧ ρ 2 = (PQ gb 0 : Value) ∧ ρ 7 = (v : Value) ∧ ρ 8 = (NI l.length : Value) ∧ ρ 9 = (NI i : Value) ∧ Ext w0 wz ∧ wz.heap[gb]? = some (.cells ([vb1]).toArray 22 (0, 0)) ∧ OG w0.heap.size 67 66 (updC) wz vb1 (L ++ (l.take i).map (ofNmd k)) ∧ (i ≤ l.length) ∧ (OB vb1 gb) ∧ True) (fun ρ _ => l.length - (intOf (ρ 9)).toNat) ⟨0, vb, T0, T1, T2, T7, T8, T9, hE0, hb, og_eq ho (by simp), Nat.zero_le _, hap, trivial⟩ ?_))))))))))
 clear hb
 clear ho
 clear hE
 clear hE0
 rintro ρ3 w4 ⟨i, vb1, T0, T1, T2, T7, T8, T9, hE0, hb1, ho1, hi, hap1, -⟩
 have q9 := T9
 have hgl := (bl hb1)
 refine sk fun K5 hK5 => (wt (oS rfl (Yk.eqI (a := (i : Nat)) (b := (l.length : Nat)) T9 T8 (k_lss _ _ _ _) (oZ (tN (hK5 _ _ (sk fun K6 hK6 => ?_)))))))
 refine wpF_cond ((i) < (l.length)) (vr (.bool (decide ((i) < (l.length)))) rfl) (fun hc0 => ?_) (fun hc0 => ?_)
 ·have hlt : i < l.length := hc0
  refine wpF_skip (tN (hK6 _ _ (sk fun K7 hK7 => (wpF_block (sk fun K8 hK8 => (wt ?_))))))
  have hl11 : (nmdC (l.getD (i) dNmd)).length = 33 := (RG.elem (hq.keep hE0) dNmd (by omega))
  refine oS rfl (Yk.atRG wr22_ty51 wr22_szg70 (by decide) dNmd (RG.of (hq.keep hE0) T7) T9 (by omega) fun v9 hp10 => (oS rfl (Yk.loadPR (PR.of hp10 (vr v9 rfl)) (wr22_ty70).choose_spec rfl (by rw [nmd_len]; exact wr22_isz70) (oS rfl (Yk.alloc (cs := (nmdC (⟨[], zid⟩ : Nmd)).toArray) wr22_al70 fun n12 w13 hn14 hb15 hx16 hs17 => ?_)))))
  have hA18 := Ext.refl w4
  have hea19 := hE0
  have hz20 := hE0.size
  have hlt21 := lte (bl hb1) hn14
  have hap22 : OB vb1 n12 := own_newer ho1.2 (by omega)
  have hE0 := hE0.trans hx16
  have hb1 := eb hx16 hb1
  have ho1 := ho1.keep hx16
  have hA18 := hA18.trans hx16
  have hb23 := hb15; clear hb15
  have hl24 : n12 < w13.heap.size := by omega
  refine oS rfl (Yk.storeAll (vr (PQ n12 0) rfl) (vr (.agg (nmdC (l.getD (i) dNmd)).toArray) rfl) hb23 (by simp only [List.size_toArray, nmd_len]) (st_isz (nmd_len _) wr22_isz70) (nmd_one (x := (l.getD (i) dNmd))) fun w25 hb26 hg27 hs28 => ?_)
  have hE0 := row_fresh hE0 hg27 (Nat.le_trans hz20 (by omega))
  have hb1 := kb hg27 hb1 (by omega)
  have ho1 := OG.kept ho1 hg27 hap22
  have hA18 := row_fresh hA18 hg27 (Nat.le_trans (Nat.le_refl _) (by omega))
  clear hb23
  have hb23 : w25.heap[n12]? = some (.cells (nmdC (l.getD (i) dNmd)).toArray 70 (0, 0)) := hb26; clear hb26
  have hl29 := bl hb23
  refine oZ ?_
  clear hp10
  refine tN (hK8 _ _ (wt (oS rfl (Yk.cell1 wr22_ty22 rfl T2 (cellAt hb1 (show _ = some (vb1 : Value) from rfl)) (oM rfl (oS rfl (Yk.fieldAt wr22_fo70_0 (vr (PQ n12 0) rfl) (oS rfl (Yk.cell1 wr22_ty9 rfl (vr (PQ n12 0) rfl) (cellAt hb23 (show (nmdC (l.getD (i) dNmd))[0]? = some (St (((l.getD (i) dNmd)).name) : Value) from nmd_g0 (l.getD (i) dNmd))) (oS rfl (Yk.fieldAt wr22_fo70_1 (vr (PQ n12 0) rfl) (oS rfl (Yk.loadPR (PR.blk hb23 (nmd_m1 (l.getD (i) dNmd)) (nmd_n1 (l.getD (i) dNmd)) (vr (PQ n12 1) rfl)) wr22_ty25 rfl (sizeId_of ((l.getD (i) dNmd)).id.2) (oS rfl (Yk.build3 T0 (vr (St (((l.getD (i) dNmd)).name)) rfl) (vr (AB (((l.getD (i) dNmd)).id.1)) rfl) (fun w => wr22_bs67_0_1_3 k (((l.getD (i) dNmd)).name) (((l.getD (i) dNmd)).id) w) (oS rfl (Yk.lit1G (a := (⟨k, (((l.getD (i) dNmd)).name), zid, ((l.getD (i) dNmd)).id⟩ : Upd)) (enc := updC) (vr (.agg (updC (⟨k, (((l.getD (i) dNmd)).name), zid, ((l.getD (i) dNmd)).id⟩ : Upd)).toArray) rfl) (upd_len _) wr22_lg22 fun v30 w31 hr32 hx33 => ?_)))))))))))))))))
  have hE0 := hE0.trans hx33
  have hb1 := eb hx33 hb1
  have ho1 := ho1.keep hx33
  have hA18 := hA18.trans hx33
  have hb23 := eb hx33 hb23
  refine oS rfl (Yk.appendRG _ _ w0.heap.size _ 88 wr22_ty22 wr22_ig67.choose_spec.1 wr22_ig67.choose_spec.2 wr22_ty22 (L ++ (l.take i).map (ofNmd k)) ([(⟨k, (((l.getD (i) dNmd)).name), zid, ((l.getD (i) dNmd)).id⟩ : Upd)]) (OG.of ho1 (vr vb1 rfl)) (RG.of hr32 (vr v30 rfl)) (fun _ _ => upd_one) (by simp only [List.length_append, List.length_map, List.length_take, List.length_cons, List.length_nil]; omega) (by simp only [List.length_append, List.length_map, List.length_take, List.length_cons, List.length_nil]; omega) hE0.size fun v34 w35 ho36 hg37 => ?_)
  have hg37 : Grew w31 w35 vb1 v34 := hg37
  have hap38 : OB v34 gb := apart_grew hg37 hap1 (bl hb1)
  have hap39 : OB v34 n12 := apart_grew hg37 hap22 (bl hb23)
  have hE0 := ext_grew hE0 hg37 ho1.2 (Nat.le_refl _)
  have hb1 := blk_grew hb1 hg37 hap1
  clear ho1
  clear hA18
  have hb23 := blk_grew hb23 hg37 hap22
  clear hr32
  refine oS rfl (Yk.storeC (i := 0) (v := v34) T2 (vr v34 rfl) hb1 (Nat.le_of_ble_eq_true rfl) wr22_isz22 (own_one ho36.2).1 (own_one ho36.2).2 fun w40 hb41 hg42 hs43 => ?_)
  have hE0 := row_fresh hE0 hg42 (Nat.le_trans (Nat.le_refl _) (by omega))
  clear hb1
  have hb23 := kb hg42 hb23 (by omega)
  have ho36 := OG.kept ho36 hg42 hap38
  have hb1 := hb41; clear hb41
  have hl44 := bl hb1
  refine oZ (bN (tN (hK7 _ _ (wt (oS rfl (Yk.bin (xv := NI i) (yv := NI 1) T9 rfl rfl (i64_add _ _ _ (by omega)) (oM rfl (oL_ [(0, B8 (k)), (1, v), (2, PQ gb 0), (6, PQ n12 0), (7, v), (8, NI l.length), (9, NI ((i) + (1)))] ⟨T0, T1, T2, rfl, T7, T8, rfl, trivial⟩ fun ρ45 ⟨T0, T1, T2, T6, T7, T8, T9, _⟩ => (tN (And.intro ⟨i + 1, v34, T0, T1, T2, T7, T8, T9, hE0, hb1, og_eq ho36 (take_map_snoc (f := ofNmd k) (d := dNmd) hlt), by omega, hap38, trivial⟩ ?_))))))))))
  show l.length - (intOf (ρ45 9)).toNat < l.length - (intOf (ρ3 9)).toNat
  rw [T9, q9]
  simp only [intOf, Int.toNat_natCast]; omega
 refine wpF_exit (thenF_exit (thenF_exit (inBlockF_hit (postF_end (fn := Tryd.f87) [] rfl [] (.tuple #[]) rfl trivial ?_))))
 refine ⟨_, rfl, hb1, ?_, hap1, hE0⟩
 exact og_eq ho1 (by rw [List.take_of_length_le (by omega)])

theorem of_any (w : World) (x : RefsV) (hm : RefsAt w x) (hL : RefsLt x.1) (hc : x.1.branches.length ≤ 80 ∧ x.1.tags.length ≤ 80) :
  Calls Tryd.prog 36 #[.agg (refsC x).toArray] w fun e w' => ∃ v, e = .returned v ∧ RG 66 updC w' v (ofB x.1) ∧ Ext w w' := by
 have hmt := hm.branches
 have hmg := hm.tags
 have hml := hm.log
 obtain ⟨hc1, hc2⟩ := hc
 refine calls_of_wpF (args := [.agg (refsC x).toArray]) Tryd.func36 rfl 18 rfl (Nat.le_of_ble_eq_true rfl) ?_
 intro ρ0 hb
 have T0 : ρ0 0 = (.agg (refsC x).toArray : Value) := hb.get 0
 clear hb
 have hE := Ext.refl w
 refine sk fun K1 hK1 => (wt (oS rfl (Yk.box (cs := (refsC x : List Value).toArray) T0 fun n2 w3 hn4 hb5 hx6 hs7 => ?_)))
 have hE := hE.trans hx6
 have hb8 := hb5; clear hb5
 have hl9 : n2 < w3.heap.size := by omega
 refine oA rfl (oZ ?_)
 rcases hR : rightF x.1 with _ | _
 ·refine tN (hK1 _ _ (sk fun K10 hK10 => (sk fun K11 hK11 => (wt (oS rfl (Yk.loadAll (vr (PQ n2 0) rfl) hb8 (wr22_ty53).choose_spec rfl (st_isz (refs_len x) wr22_isz53) (oS rfl (Yk.callA1 wr22_pl31 (vr (.agg (refsC x).toArray) rfl) (((show Calls _ _ _ _ (fun e w2 => e = .returned (.bool false) ∧ Ext w3 w2) from by have h := fright_any w3 x (RefsAt.mk (hmt.keep hE) (hmg.keep hE) (hml.keep hE)) hL; rw [hR] at h; exact h)).mono ?_)))))))))
  rintro e w13 ⟨rfl, hx12⟩
  refine ⟨_, rfl, ?_⟩
  have hE := hE.trans hx12
  have hb8 := eb hx12 hb8
  refine oS rfl (Yk.notB (vr (.bool (false)) rfl) (oZ ?_))
  have hq14 := (hmt.keep hE)
  have hq15 := (hmg.keep hE)
  have hq16 := hb8
  refine tN (hK11 _ _ (wpF_true (vr (.bool (true)) rfl) (sk fun K17 hK17 => (wt (oA rfl (oZ (tN (hK17 _ _ (wpF_ret (thenF_ret (postF_ret (fn := Tryd.f36) _ rfl [(Value.slice none 0 0)] ((Value.slice none 0 0)) rfl ⟨rfl, trivial⟩ ?_)))))))))))
  exact ⟨_, rfl, by unfold ofB; rw [hR]; exact RG.nil _ _ _, hE⟩
 refine tN (hK1 _ _ (sk fun K18 hK18 => (sk fun K19 hK19 => (wt (oS rfl (Yk.loadAll (vr (PQ n2 0) rfl) hb8 (wr22_ty53).choose_spec rfl (st_isz (refs_len x) wr22_isz53) (oS rfl (Yk.callA1 wr22_pl31 (vr (.agg (refsC x).toArray) rfl) (((show Calls _ _ _ _ (fun e w2 => e = .returned (.bool true) ∧ Ext w3 w2) from by have h := fright_any w3 x (RefsAt.mk (hmt.keep hE) (hmg.keep hE) (hml.keep hE)) hL; rw [hR] at h; exact h)).mono ?_)))))))))
 rintro e w21 ⟨rfl, hx20⟩
 refine ⟨_, rfl, ?_⟩
 have hE := hE.trans hx20
 have hb8 := eb hx20 hb8
 refine oS rfl (Yk.notB (vr (.bool (true)) rfl) (oZ ?_))
 have hq22 := (hmt.keep hE)
 have hq23 := (hmg.keep hE)
 have hq24 := hb8
 refine tN (hK19 _ _ (wpF_false (vr (.bool (false)) rfl) (wpF_skip (tN (hK18 _ _ (sk fun K25 hK25 => (wt (oS rfl (Yk.alloc (cs := ([(Value.slice none 0 0)]).toArray) wr22_al22 fun n26 w27 hn28 hb29 hx30 hs31 => ?_)))))))))
 have hA32 := Ext.refl w21
 have hea33 := hE
 have hz34 := hE.size
 have hlt35 := lte (bl hb8) hn28
 have hE := hE.trans hx30
 have hb8 := eb hx30 hb8
 have hA32 := hA32.trans hx30
 have hb36 := hb29; clear hb29
 have hl37 : n26 < w27.heap.size := by omega
 refine oZ ?_
 have ho38 : OG w21.heap.size 67 66 (updC) w27 (Value.slice none 0 0) ([] : List Upd) := OG.nil _ _ _ _ _
 have hgb_ := Nat.le_of_eq hn28
 refine tN (hK25 _ _ (sk fun K39 hK39 => (wt (oS rfl (Yk.mkFunc (vs := #[PQ n26 0]) (by simp only [List.map_toArray, List.map_cons, List.map_nil]; exact congrArg List.toArray (list1 (vr (PQ n26 0) rfl))) (oA rfl (oZ (tN (hK39 _ _ (sk fun K40 hK40 => (wt (oM rfl (oS rfl (Yk.fieldAt wr22_fo53_0 (vr (PQ n2 0) rfl) (oS rfl (Yk.cell1 wr22_ty51 rfl (vr (PQ n2 0) rfl) (cellAt hb8 (show (refsC x)[0]? = some (x.2.branches : Value) from refs_g0 x)) (oS rfl (Yk.clo wr22_pl87 (caps := #[PQ n26 0]) (vr (.func (.func 87) #[] #[PQ n26 0]) rfl) #[B8 (1), x.2.branches, PQ n26 0] (by simp only [List.map_toArray, List.map_cons, List.map_nil, List.append_toArray, List.cons_append, List.nil_append]; exact congrArg List.toArray (list3 (vr (B8 (1)) rfl) (vr x.2.branches rfl) rfl)) ((of1_any w21 _ hA32 n26 hgb_ (Value.slice none 0 0) ([]) hb36 ho38 (fun h => by cases h) 1 x.2.branches (x.1.branches) hq22 (by simp only [List.length_map, List.length_append, List.length_nil]; omega)).mono ?_)))))))))))))))))))
 rintro e w46 ⟨v41, rfl, hb42, ho43, hap44, hx45⟩
 refine ⟨_, rfl, ?_⟩
 have hE := hea33.trans hx45
 have hb8 : w46.heap[n2]? = some (.cells (refsC x).toArray 53 (0, 0)) := eb hx45 hq24
 have hA32 : Ext w21 w46 := hx45
 clear hb36
 clear ho38
 have hb36 := hb42; clear hb42
 refine oZ (tN (hK40 _ _ (sk fun K47 hK47 => (wt (oM rfl (oS rfl (Yk.fieldAt wr22_fo53_1 (vr (PQ n2 0) rfl) (oS rfl (Yk.cell1 wr22_ty51 rfl (vr (PQ n2 1) rfl) (cellAt hb8 (show (refsC x)[1]? = some (x.2.tags : Value) from refs_g1 x)) (oS rfl (Yk.clo wr22_pl87 (caps := #[PQ n26 0]) (vr (.func (.func 87) #[] #[PQ n26 0]) rfl) #[B8 (2), x.2.tags, PQ n26 0] (by simp only [List.map_toArray, List.map_cons, List.map_nil, List.append_toArray, List.cons_append, List.nil_append]; exact congrArg List.toArray (list3 (vr (B8 (2)) rfl) (vr x.2.tags rfl) rfl)) ((of1_any w21 _ hA32 n26 hgb_ v41 (([] : List Upd) ++ (x.1.branches).map (ofNmd 1)) hb36 ho43 hap44 2 x.2.tags (x.1.tags) hq23 (by simp only [List.length_map, List.length_append, List.length_nil]; omega)).mono ?_))))))))))))
 rintro e w53 ⟨v48, rfl, hb49, ho50, hap51, hx52⟩
 refine ⟨_, rfl, ?_⟩
 have hE := hea33.trans hx52
 have hb8 : w53.heap[n2]? = some (.cells (refsC x).toArray 53 (0, 0)) := eb hx52 hq24
 have hA32 : Ext w21 w53 := hx52
 clear hb36
 clear ho43
 have hb36 := hb49; clear hb49
 refine oZ (tN (hK47 _ _ (sk fun K54 hK54 => (wt (oS rfl (Yk.cell1 wr22_ty22 rfl (vr (PQ n26 0) rfl) (cellAt hb36 (show _ = some (v48 : Value) from rfl)) (oA rfl (oZ (tN (hK54 _ _ (wpF_ret (postF_ret (fn := Tryd.f36) _ rfl [v48] (v48) rfl ⟨rfl, trivial⟩ ?_))))))))))))
 exact ⟨_, rfl, RG.ofOwn (og_eq ho50 (by unfold ofB; rw [hR]; rfl)), hE⟩
open Go.RowKit
set_option maxRecDepth 100000
theorem take_snoc {α : Type} {l : List α} {i : Nat} {d : α} (h : i < l.length) : l.take i ++ [l.getD i d] = l.take (i + 1) := by
 rw [List.take_add_one, List.getElem?_eq_getElem h, List.getD_eq_getElem?_getD, List.getElem?_eq_getElem h]; rfl
theorem wr23_al53 {d : Option Tmp} {ty : TypeId} {pos : String} {af : Array Edge} {gd : Option (Nat × Bool)} (σ : Operand → Value) (w : World) : (execOp σ ⟨d, .alloc 53, ty, pos, af, gd⟩).run Tryd.prog w = .ok (.value (PQ w.heap.size 0)) (w.alloc (.cells (refsC ((⟨[], [], [], zid, []⟩, ⟨.slice none 0 0, .slice none 0 0, .slice none 0 0⟩) : RefsV)).toArray 53)) := by kernel_rfl
theorem wr23_fo49_0 : FieldOff Tryd.prog 49 0 0 := fun b o w => by simp [go_sem]
theorem wr23_ty46 : Tryd.prog.underlying 46 = some (.slice 69) := by kernel_rfl
theorem wr23_fo53_0 : FieldOff Tryd.prog 53 0 0 := fun b o w => by simp [go_sem]
theorem wr23_ty51 : Tryd.prog.underlying 51 = some (.slice 70) := by kernel_rfl
theorem wr23_szg69 : ∀ w' : World, (sizeOf 69).run Tryd.prog w' = .ok 33 w' := fun _ => by kernel_rfl
theorem wr23_fo69_0 : FieldOff Tryd.prog 69 0 0 := fun b o w => by simp [go_sem]
theorem wr23_ty9 : Tryd.prog.underlying 9 = some (.string) := by kernel_rfl
theorem wr23_fo69_1 : FieldOff Tryd.prog 69 1 1 := fun b o w => by simp [go_sem]
theorem wr23_ty25 : Tryd.prog.underlying 25 = some (.array 32 5) := by kernel_rfl
theorem wr23_isz25 : (Tryd.prog.info? 25).map (·.size) = some 32 := by kernel_rfl
theorem wr23_bs70_0_1h (z0 : ByteArray) (c1_0 c1_1 c1_2 c1_3 c1_4 c1_5 c1_6 c1_7 c1_8 c1_9 c1_10 c1_11 c1_12 c1_13 c1_14 c1_15 c1_16 c1_17 c1_18 c1_19 c1_20 c1_21 c1_22 c1_23 c1_24 c1_25 c1_26 c1_27 c1_28 c1_29 c1_30 c1_31 : Value) (w : World) : (Instr.build 70 #[(0, .string z0), (1, .agg #[c1_0, c1_1, c1_2, c1_3, c1_4, c1_5, c1_6, c1_7, c1_8, c1_9, c1_10, c1_11, c1_12, c1_13, c1_14, c1_15, c1_16, c1_17, c1_18, c1_19, c1_20, c1_21, c1_22, c1_23, c1_24, c1_25, c1_26, c1_27, c1_28, c1_29, c1_30, c1_31])]).run Tryd.prog w = .ok (.agg #[.string z0, c1_0, c1_1, c1_2, c1_3, c1_4, c1_5, c1_6, c1_7, c1_8, c1_9, c1_10, c1_11, c1_12, c1_13, c1_14, c1_15, c1_16, c1_17, c1_18, c1_19, c1_20, c1_21, c1_22, c1_23, c1_24, c1_25, c1_26, c1_27, c1_28, c1_29, c1_30, c1_31]) w := by kernel_rfl
theorem wr23_bs70_0_1 (z0 : List UInt8) (z1 : Id32) (w : World) : (Instr.build 70 #[(0, St z0), (1, AB z1.1)]).run Tryd.prog w = .ok (.agg (St (z0) :: (Lib.byteCells z1.1)).toArray) w := by
 obtain ⟨z1, k1⟩ := z1
 obtain ⟨a1_0, a1_1, a1_2, a1_3, a1_4, a1_5, a1_6, a1_7, a1_8, a1_9, a1_10, a1_11, a1_12, a1_13, a1_14, a1_15, a1_16, a1_17, a1_18, a1_19, a1_20, a1_21, a1_22, a1_23, a1_24, a1_25, a1_26, a1_27, a1_28, a1_29, a1_30, a1_31, rfl⟩ := list32 k1
 exact wr23_bs70_0_1h _ _ _ _ _ _ _ _ _ _ _ _ _ _ _ _ _ _ _ _ _ _ _ _ _ _ _ _ _ _ _ _ _ w
theorem wr23_lh51 (c0 c1 c2 c3 c4 c5 c6 c7 c8 c9 c10 c11 c12 c13 c14 c15 c16 c17 c18 c19 c20 c21 c22 c23 c24 c25 c26 c27 c28 c29 c30 c31 c32 : Value) (w : World) : (Instr.buildSlice 51 1 #[(0, .agg #[c0, c1, c2, c3, c4, c5, c6, c7, c8, c9, c10, c11, c12, c13, c14, c15, c16, c17, c18, c19, c20, c21, c22, c23, c24, c25, c26, c27, c28, c29, c30, c31, c32])]).run Tryd.prog w = .ok (.slice (some ⟨w.heap.size, 0, none⟩) 1 1) (w.alloc (.cells #[c0, c1, c2, c3, c4, c5, c6, c7, c8, c9, c10, c11, c12, c13, c14, c15, c16, c17, c18, c19, c20, c21, c22, c23, c24, c25, c26, c27, c28, c29, c30, c31, c32] 70)) := by kernel_rfl
theorem wr23_lg51 : ∀ (cs : Array Value), cs.size = 33 → ∀ w : World, (Instr.buildSlice 51 1 #[(0, .agg cs)]).run Tryd.prog w = .ok (.slice (some ⟨w.heap.size, 0, none⟩) 1 1) (w.alloc (.cells cs 70))
 | ⟨c0 :: c1 :: c2 :: c3 :: c4 :: c5 :: c6 :: c7 :: c8 :: c9 :: c10 :: c11 :: c12 :: c13 :: c14 :: c15 :: c16 :: c17 :: c18 :: c19 :: c20 :: c21 :: c22 :: c23 :: c24 :: c25 :: c26 :: c27 :: c28 :: c29 :: c30 :: c31 :: c32 :: []⟩, _, w => wr23_lh51 c0 c1 c2 c3 c4 c5 c6 c7 c8 c9 c10 c11 c12 c13 c14 c15 c16 c17 c18 c19 c20 c21 c22 c23 c24 c25 c26 c27 c28 c29 c30 c31 c32 w
theorem wr23_ig70 : ∃ z, (Tryd.prog.info? 70).map (fun i => (i.zero, i.size, i.bytes)) = some (some z, 33, 48) ∧ z.cells.size = 33 := info_ex (by kernel_rfl)
theorem wr23_isz51 : (Tryd.prog.info? 51).map (·.size) = some 1 := by kernel_rfl
theorem wr23_fo49_1 : FieldOff Tryd.prog 49 1 1 := fun b o w => by simp [go_sem]
theorem wr23_fo53_1 : FieldOff Tryd.prog 53 1 1 := fun b o w => by simp [go_sem]
theorem wr23_fo49_2 : FieldOff Tryd.prog 49 2 2 := fun b o w => by simp [go_sem]
theorem wr23_fo49_3 : FieldOff Tryd.prog 49 3 3 := fun b o w => by simp [go_sem]
theorem wr23_fo53_2 : FieldOff Tryd.prog 53 2 2 := fun b o w => by simp [go_sem]
theorem wr23_fo53_3 : FieldOff Tryd.prog 53 3 3 := fun b o w => by simp [go_sem]
theorem wr23_isz9 : (Tryd.prog.info? 9).map (·.size) = some 1 := by kernel_rfl
theorem wr23_fo53_4 : FieldOff Tryd.prog 53 4 35 := fun b o w => by simp [go_sem]
theorem wr23_ty47 : Tryd.prog.underlying 47 = some (.slice 122) := by kernel_rfl
theorem wr23_fo49_4 : FieldOff Tryd.prog 49 4 35 := fun b o w => by simp [go_sem]
theorem wr23_ig122 : ∃ z, (Tryd.prog.info? 122).map (fun i => (i.zero, i.size, i.bytes)) = some (some z, 67, 104) ∧ z.cells.size = 67 := info_ex (by kernel_rfl)
theorem wr23_isz47 : (Tryd.prog.info? 47).map (·.size) = some 1 := by kernel_rfl
theorem wr23_ty53 : ∃ fs, Tryd.prog.underlying 53 = some (.struct fs) := struct_of (by kernel_rfl)
theorem wr23_isz53 : (Tryd.prog.info? 53).map (·.size) = some 36 := by kernel_rfl
set_option maxHeartbeats 1600000
theorem told25_any (w : World) (y : RefsV) (hm : RefsAt w y) (hc : y.1.branches.length ≤ 80 ∧ y.1.tags.length ≤ 80 ∧ y.1.log.length ≤ 80) :
  Calls Tryd.prog 37 #[.agg (refsC y).toArray] w fun e w' => ∃ z, e = .returned (.agg (refsC (y.1, z)).toArray) ∧ RefsAt w' (y.1, z) ∧ Ext w w' := by
 have hmt := hm.branches
 have hmg := hm.tags
 have hml := hm.log
 obtain ⟨hc1, hc2, hc3⟩ := hc
 refine calls_of_wpF (args := [.agg (refsC y).toArray]) Tryd.func37 rfl 69 rfl (Nat.le_of_ble_eq_true rfl) ?_
 intro ρ0 hb
 have T0 : ρ0 0 = (.agg (refsC y).toArray : Value) := hb.get 0
 clear hb
 have hE := Ext.refl w
 refine sk fun K1 hK1 => (wt (oS rfl (Yk.box (cs := (refsC y : List Value).toArray) T0 fun n2 w3 hn4 hb5 hx6 hs7 => ?_)))
 have hE := hE.trans hx6
 have hb8 := hb5; clear hb5
 have hl9 : n2 < w3.heap.size := by omega
 refine oS rfl (Yk.alloc (cs := (refsC ((⟨[], [], [], zid, []⟩, ⟨.slice none 0 0, .slice none 0 0, .slice none 0 0⟩) : RefsV)).toArray) wr23_al53 fun n10 w11 hn12 hb13 hx14 hs15 => ?_)
 have hA16 := Ext.refl w3
 have hea17 := hE
 have hz18 := hE.size
 have hlt19 := lte (bl hb8) hn12
 have hE := hE.trans hx14
 have hb8 := eb hx14 hb8
 have hA16 := hA16.trans hx14
 have hb20 := hb13; clear hb13
 have hl21 : n10 < w11.heap.size := by omega
 refine oZ (tN (hK1 _ _ (sk fun K22 hK22 => (wt (oS rfl (Yk.alloc (cs := (refsC ((⟨[], [], [], zid, []⟩, ⟨.slice none 0 0, .slice none 0 0, .slice none 0 0⟩) : RefsV)).toArray) wr23_al53 fun n23 w24 hn25 hb26 hx27 hs28 => ?_))))))
 have hA29 := Ext.refl w11
 have hea30 := hE
 have hea31 := hA16
 have hz32 := hE.size
 have hz33 := hA16.size
 have hlt34 := lte (bl hb8) hn25
 have hlt35 := lte (bl hb20) hn25
 have hE := hE.trans hx27
 have hb8 := eb hx27 hb8
 have hA16 := hA16.trans hx27
 have hb20 := eb hx27 hb20
 have hA29 := hA29.trans hx27
 have hb36 := hb26; clear hb26
 have hl37 : n23 < w24.heap.size := by omega
 refine oZ (tN (hK22 _ _ (sk fun K38 hK38 => (sk fun K39 hK39 => (wt (oA rfl (oL_ [(0, .agg (refsC y).toArray), (1, PQ n2 0), (2, PQ n10 0), (3, PQ n23 0), (4, NI 0)] ⟨T0, rfl, rfl, rfl, rfl, trivial⟩ fun ρ40 ⟨T0, T1, T2, T3, T4, _⟩ => (tN (hK39 _ _ (wpF_block (wpF_loop (fun (ρ : Slots) (wz : World) => ∃ i1 : Nat, ∃ vb1 : Value, ρ 0 = (.agg (refsC y).toArray : Value) ∧ ρ 1 = (PQ n2 0 : Value) ∧ ρ 2 = (PQ n10 0 : Value) ∧ ρ 3 = (PQ n23 0 : Value) ∧ ρ 4 = (NI i1 : Value) ∧ Ext w wz ∧ wz.heap[n2]? = some (.cells (refsC y).toArray 49 (0, 0)) ∧ wz.heap[n10]? = some (.cells (refsC ((⟨[], [], [], zid, []⟩, ⟨.slice none 0 0, .slice none 0 0, .slice none 0 0⟩) : RefsV)).toArray 53 (0, 0)) ∧ wz.heap[n23]? = some (.cells (refsC ((⟨(y.1.branches.take i1), [], (((⟨[], [], [], zid, []⟩, ⟨.slice none 0 0, .slice none 0 0, .slice none 0 0⟩) : RefsV)).1.head, (((⟨[], [], [], zid, []⟩, ⟨.slice none 0 0, .slice none 0 0, .slice none 0 0⟩) : RefsV)).1.at_, []⟩, ⟨vb1, (Value.slice none 0 0), (Value.slice none 0 0)⟩) : RefsV)).toArray 53 (0, 0)) ∧ OG w.heap.size 70 33 (nmdC) wz vb1 (y.1.branches.take i1) ∧ (i1 ≤ y.1.branches.length) ∧ (OB vb1 n2) ∧ (OB vb1 n10) ∧ (OB vb1 n23) ∧ True) (fun ρ _ => y.1.branches.length - (intOf (ρ 4)).toNat) ⟨0, (Value.slice none 0 0), T0, T1, T2, T3, T4, hE, hb8, hb20, hb36, OG.nil _ _ _ _ _, Nat.zero_le _, (fun h => by cases h), (fun h => by cases h), (fun h => by cases h), trivial⟩ ?_)))))))))))
 clear hA16
 clear hA29
 clear hb36
 clear hE hb8 hb20
 rintro ρ41 w42 ⟨i1, vb1, T0, T1, T2, T3, T4, hE, hb8, hb20, hm1, ho1, hi1, hap_vb1_n2, hap_vb1_n10, hap_vb1_n23, -⟩
 have q4 := T4
 have hl43 := (bl hb8)
 have hl44 := (bl hb20)
 have hl45 := (bl hm1)
 refine sk fun K46 hK46 => (sk fun K47 hK47 => (wt (oM rfl (oS rfl (Yk.fieldAt wr23_fo49_0 T1 (oS rfl (Yk.cell1 wr23_ty46 rfl (vr (PQ n2 0) rfl) (cellAt hb8 (show (refsC y)[0]? = some (y.2.branches : Value) from refs_g0 y)) (oS rfl (Yk.lenRG wr23_ty46 (RG.of (hmt.keep hE) (vr y.2.branches rfl)) (oS rfl (Yk.eqI (a := (i1 : Nat)) (b := ((y.1.branches).length : Nat)) T4 rfl (k_lss _ _ _ _) (oZ (tN (hK47 _ _ ?_))))))))))))))
 refine wpF_cond ((i1) < ((y.1.branches).length)) (vr (.bool (decide ((i1) < ((y.1.branches).length)))) rfl) (fun hc0 => ?_) (fun hc0 => ?_)
 ·have hlt1 : i1 < y.1.branches.length := hc0
  refine wpF_skip (tN (hK46 _ _ (sk fun K48 hK48 => (wpF_block ?_))))
  refine wpF_draw_cut 16 [Is (PQ n23 0), Is (vb1), Is (PQ n2 0), Is (y.2.branches), Is (NI i1), fun x w' => PR (nmdC ((y.1.branches).getD (i1) dNmd)) x w', PCell (St (((y.1.branches).getD (i1) dNmd).name)), Is (St (((y.1.branches).getD (i1) dNmd).name)), Is (PQ n2 0), Is (y.2.branches), Is (NI i1), fun x w' => PR (nmdC ((y.1.branches).getD (i1) dNmd)) x w', fun x w' => PR (Lib.byteCells ((y.1.branches).getD (i1) dNmd).id.1) x w', Is (AB (((y.1.branches).getD (i1) dNmd).id.1)), Is (.agg (nmdC (⟨(((y.1.branches).getD (i1) dNmd).name), ((y.1.branches).getD (i1) dNmd).id⟩ : Nmd)).toArray), fun x w' => RG 33 (nmdC) w' x ([(⟨(((y.1.branches).getD (i1) dNmd).name), ((y.1.branches).getD (i1) dNmd).id⟩ : Nmd)])] (by kernel_rfl) [13, 14, 15, 16, 17, 18, 19, 20, 21, 22, 23, 24, 25, 26, 27, 28, 29, 30] (by kernel_rfl) (by kernel_rfl) (by kernel_rfl) (by kernel_rfl) rfl rfl (si5 ⟨(fun _ _ _ h k => PR.keep h k), Stab.pcell _, (si4 ⟨(fun _ _ _ h k => PR.keep h k), (fun _ _ _ h k => PR.keep h k), (si2 ⟨(fun _ _ _ h k => RG.keep h k), trivial⟩)⟩)⟩) ?hs2005 ?hQ2005
  case hs2005 =>
   refine ⟨?_, ?_, ?_, ?_, ?_, ?_, ?_, ?_, ?_, ?_, ?_, ?_, ?_, ?_, ?_, ?_, ?_, ?_, ?_, trivial⟩
   ·refine stepFC (stepN rfl fun σ w1 hC h => ?_)
    have e3 := (eqo (h 3 (by decide))).trans T3
    exact Yk.fieldAt wr23_fo53_0 e3 ⟨Ext.refl _, rfl⟩
   ·refine stepFC (stepN rfl fun σ w1 hC h => ?_)
    have e13 := eqo (h 13 (by decide))
    exact Yk.cell1 wr23_ty51 rfl e13 (cellAt (eb hC hm1) (show (refsC ((⟨(y.1.branches.take i1), [], (((⟨[], [], [], zid, []⟩, ⟨.slice none 0 0, .slice none 0 0, .slice none 0 0⟩) : RefsV)).1.head, (((⟨[], [], [], zid, []⟩, ⟨.slice none 0 0, .slice none 0 0, .slice none 0 0⟩) : RefsV)).1.at_, []⟩, ⟨vb1, (Value.slice none 0 0), (Value.slice none 0 0)⟩) : RefsV))[0]? = some (vb1 : Value) from refs_g0 ((⟨(y.1.branches.take i1), [], (((⟨[], [], [], zid, []⟩, ⟨.slice none 0 0, .slice none 0 0, .slice none 0 0⟩) : RefsV)).1.head, (((⟨[], [], [], zid, []⟩, ⟨.slice none 0 0, .slice none 0 0, .slice none 0 0⟩) : RefsV)).1.at_, []⟩, ⟨vb1, (Value.slice none 0 0), (Value.slice none 0 0)⟩) : RefsV))) ⟨Ext.refl _, rfl⟩
   ·refine stepFC (stepN rfl fun σ w1 hC h => ?_)
    have e1 := (eqo (h 1 (by decide))).trans T1
    exact Yk.fieldAt wr23_fo49_0 e1 ⟨Ext.refl _, rfl⟩
   ·refine stepFC (stepN rfl fun σ w1 hC h => ?_)
    have e15 := eqo (h 15 (by decide))
    exact Yk.cell1 wr23_ty46 rfl e15 (cellAt (eb hC hb8) (show (refsC y)[0]? = some (y.2.branches : Value) from refs_g0 y)) ⟨Ext.refl _, rfl⟩
   ·refine stepFC (stepN rfl fun σ w1 hC h => ?_)
    have e4 := (eqo (h 4 (by decide))).trans T4
    exact Yk.move e4 ⟨Ext.refl _, rfl⟩
   ·refine stepFC (stepN rfl fun σ w1 hC h => ?_)
    have e16 := eqo (h 16 (by decide))
    have e17 := eqo (h 17 (by decide))
    exact Yk.atRG wr23_ty46 wr23_szg69 (by decide) dNmd (RG.of (hmt.keep (hE.trans hC)) e16) e17 (by omega) fun v h => ⟨Ext.refl _, h⟩
   ·refine stepFC (stepN rfl fun σ w1 hC h => ?_)
    have e18 : (fun x w' => PR (nmdC ((y.1.branches).getD (i1) dNmd)) x w') (σ 18) w1 := h 18 (by decide)
    exact Yk.fieldPR (n := 1) wr23_fo69_0 e18 fun v h => ⟨Ext.refl _, PR.pcell (by rw [nmd_f0] at h; exact h)⟩
   ·refine stepFC (stepN rfl fun σ w1 hC h => ?_)
    have e19 : (PCell (St (((y.1.branches).getD (i1) dNmd).name))) (σ 19) w1 := h 19 (by decide)
    exact Yk.loadC wr23_ty9 rfl e19 ⟨Ext.refl _, rfl⟩
   ·refine stepFC (stepN rfl fun σ w1 hC h => ?_)
    have e1 := (eqo (h 1 (by decide))).trans T1
    exact Yk.fieldAt wr23_fo49_0 e1 ⟨Ext.refl _, rfl⟩
   ·refine stepFC (stepN rfl fun σ w1 hC h => ?_)
    have e21 := eqo (h 21 (by decide))
    exact Yk.cell1 wr23_ty46 rfl e21 (cellAt (eb hC hb8) (show (refsC y)[0]? = some (y.2.branches : Value) from refs_g0 y)) ⟨Ext.refl _, rfl⟩
   ·refine stepFC (stepN rfl fun σ w1 hC h => ?_)
    have e4 := (eqo (h 4 (by decide))).trans T4
    exact Yk.move e4 ⟨Ext.refl _, rfl⟩
   ·refine stepFC (stepN rfl fun σ w1 hC h => ?_)
    have e22 := eqo (h 22 (by decide))
    have e23 := eqo (h 23 (by decide))
    exact Yk.atRG wr23_ty46 wr23_szg69 (by decide) dNmd (RG.of (hmt.keep (hE.trans hC)) e22) e23 (by omega) fun v h => ⟨Ext.refl _, h⟩
   ·refine stepFC (stepN rfl fun σ w1 hC h => ?_)
    have e24 : (fun x w' => PR (nmdC ((y.1.branches).getD (i1) dNmd)) x w') (σ 24) w1 := h 24 (by decide)
    exact Yk.fieldPR (n := 32) wr23_fo69_1 e24 fun v h => ⟨Ext.refl _, by rw [nmd_f1] at h; exact h⟩
   ·refine stepFC (stepN rfl fun σ w1 hC h => ?_)
    have e25 : (fun x w' => PR (Lib.byteCells ((y.1.branches).getD (i1) dNmd).id.1) x w') (σ 25) w1 := h 25 (by decide)
    exact Yk.loadPR e25 wr23_ty25 rfl (by rw [Lib.byteCells_length, ((y.1.branches).getD (i1) dNmd).id.2]; exact wr23_isz25) ⟨Ext.refl _, rfl⟩
   ·refine stepFC (stepN rfl fun σ w1 hC h => ?_)
    have e20 := eqo (h 20 (by decide))
    have e26 := eqo (h 26 (by decide))
    exact Yk.build2 e20 e26 (fun w => wr23_bs70_0_1 (((y.1.branches).getD (i1) dNmd).name) (((y.1.branches).getD (i1) dNmd).id) w) ⟨Ext.refl _, rfl⟩
   ·refine stepFC (stepN rfl fun σ w1 hC h => ?_)
    have e27 := eqo (h 27 (by decide))
    exact Yk.lit1G (a := (⟨(((y.1.branches).getD (i1) dNmd).name), ((y.1.branches).getD (i1) dNmd).id⟩ : Nmd)) (enc := nmdC) e27 (nmd_len _) wr23_lg51 fun v w2 h hx => ⟨hx, h⟩
   ·exact trivial
   ·exact trivial
   ·exact trivial
  intro ρ49 w50 hx51 he hf
  obtain ⟨-, k14, -, -, -, -, -, -, -, -, -, -, -, -, -, k28, -⟩ := hf
  obtain ⟨T0, T1, T2, T3, T4, -⟩ := he.hold [(0, _), (1, _), (2, _), (3, _), (4, _)] ⟨T0, T1, T2, T3, T4, trivial⟩ rfl
  clear he
  have hE := hE.trans hx51
  have hb8 := eb hx51 hb8
  have hb20 := eb hx51 hb20
  have hm1 := eb hx51 hm1
  have ho1 := ho1.keep hx51
  have T14 : ρ49 14 = vb1 := k14
  have k28 : (fun x w' => RG 33 (nmdC) w' x ([(⟨(((y.1.branches).getD (i1) dNmd).name), ((y.1.branches).getD (i1) dNmd).id⟩ : Nmd)])) (ρ49 28) w50 := k28
  obtain ⟨v52, T28⟩ : ∃ v, ρ49 28 = v := ⟨_, rfl⟩
  rw [T28] at k28
  have hk53 := k28; clear k28
  clear k14
  refine oS rfl (Yk.appendRG _ _ w.heap.size _ 48 wr23_ty51 wr23_ig70.choose_spec.1 wr23_ig70.choose_spec.2 wr23_ty51 (y.1.branches.take i1) ([(⟨(((y.1.branches).getD (i1) dNmd).name), ((y.1.branches).getD (i1) dNmd).id⟩ : Nmd)]) (OG.of ho1 T14) (RG.of hk53 T28) (fun _ _ => nmd_one) (by simp only [List.length_take, List.length_append, List.length_cons, List.length_nil]; omega) (by simp only [List.length_take, List.length_append, List.length_cons, List.length_nil]; omega) hE.size fun v54 w55 ho56 hg57 => ?_)
  have hg57 : Grew w50 w55 vb1 v54 := .eqv T14 hg57
  have hap58 : OB v54 n2 := apart_grew hg57 hap_vb1_n2 (bl hb8)
  have hap59 : OB v54 n10 := apart_grew hg57 hap_vb1_n10 (bl hb20)
  have hap60 : OB v54 n23 := apart_grew hg57 hap_vb1_n23 (bl hm1)
  have hE := ext_grew hE hg57 ho1.2 (Nat.le_refl _)
  have hb8 := blk_grew hb8 hg57 hap_vb1_n2
  have hb20 := blk_grew hb20 hg57 hap_vb1_n10
  have hm1 := blk_grew hm1 hg57 hap_vb1_n23
  clear ho1
  clear hk53
  refine oS rfl (Yk.fieldAt wr23_fo53_0 T3 (oS rfl (Yk.storeC (i := 0) (v := v54) (vr (PQ n23 0) rfl) (vr v54 rfl) hm1 (by rw [refs_len]; decide) wr23_isz51 (RG.one (RG.ofOwn ho56)).1 (RG.one (RG.ofOwn ho56)).2 fun w61 hb62 hg63 hs64 => ?_)))
  have hE := row_fresh hE hg63 (Nat.le_trans hz32 (by omega))
  have hb8 := kb hg63 hb8 (by omega)
  have hb20 := kb hg63 hb20 (by omega)
  clear hm1
  have ho56 := OG.kept ho56 hg63 hap60
  have hm1 : w61.heap[n23]? = some (.cells (refsC ((⟨(y.1.branches.take i1) ++ [(⟨(((y.1.branches).getD (i1) dNmd).name), ((y.1.branches).getD (i1) dNmd).id⟩ : Nmd)], [], (((⟨[], [], [], zid, []⟩, ⟨.slice none 0 0, .slice none 0 0, .slice none 0 0⟩) : RefsV)).1.head, (((⟨[], [], [], zid, []⟩, ⟨.slice none 0 0, .slice none 0 0, .slice none 0 0⟩) : RefsV)).1.at_, []⟩, ⟨v54, (Value.slice none 0 0), (Value.slice none 0 0)⟩) : RefsV)).toArray 53 (0, 0)) := blk_eq hb62 (refs_s0 ((⟨(y.1.branches.take i1), [], (((⟨[], [], [], zid, []⟩, ⟨.slice none 0 0, .slice none 0 0, .slice none 0 0⟩) : RefsV)).1.head, (((⟨[], [], [], zid, []⟩, ⟨.slice none 0 0, .slice none 0 0, .slice none 0 0⟩) : RefsV)).1.at_, []⟩, ⟨vb1, (Value.slice none 0 0), (Value.slice none 0 0)⟩) : RefsV) v54 ((y.1.branches.take i1) ++ [(⟨(((y.1.branches).getD (i1) dNmd).name), ((y.1.branches).getD (i1) dNmd).id⟩ : Nmd)])); clear hb62
  have hl65 := bl hm1
  refine oZ (bN (tN (hK48 _ _ (wt (oM rfl (oS rfl (Yk.bin (xv := NI i1) (yv := NI 1) T4 rfl rfl (i64_add _ _ _ (by omega)) (oA rfl (oL_ [(0, .agg (refsC y).toArray), (1, PQ n2 0), (2, PQ n10 0), (3, PQ n23 0), (4, NI ((i1) + (1)))] ⟨T0, T1, T2, T3, rfl, trivial⟩ fun ρ66 ⟨T0, T1, T2, T3, T4, _⟩ => (tN (And.intro ⟨i1 + 1, v54, T0, T1, T2, T3, T4, hE, hb8, hb20, hm1, og_eq ho56 (take_snoc hlt1), by omega, hap58, hap59, hap60, trivial⟩ ?_)))))))))))
  show y.1.branches.length - (intOf (ρ66 4)).toNat < y.1.branches.length - (intOf (ρ41 4)).toNat
  rw [T4, q4]
  simp only [intOf, Int.toNat_natCast]; omega
 refine wpF_exit (thenF_exit (thenF_exit (inBlockF_hit (tN (hK38 _ _ (sk fun K67 hK67 => (sk fun K68 hK68 => (wt (oA rfl (oL_ [(0, .agg (refsC y).toArray), (1, PQ n2 0), (2, PQ n10 0), (3, PQ n23 0), (4, NI i1), (5, NI 0)] ⟨T0, T1, T2, T3, T4, rfl, trivial⟩ fun ρ69 ⟨T0, T1, T2, T3, T4, T5, _⟩ => (tN (hK68 _ _ (wpF_block (wpF_loop (fun (ρ : Slots) (wz : World) => ∃ i2 : Nat, ∃ vb2 : Value, ρ 0 = (.agg (refsC y).toArray : Value) ∧ ρ 1 = (PQ n2 0 : Value) ∧ ρ 2 = (PQ n10 0 : Value) ∧ ρ 3 = (PQ n23 0 : Value) ∧ ρ 4 = (NI i1 : Value) ∧ ρ 5 = (NI i2 : Value) ∧ Ext w wz ∧ wz.heap[n2]? = some (.cells (refsC y).toArray 49 (0, 0)) ∧ wz.heap[n10]? = some (.cells (refsC ((⟨[], [], [], zid, []⟩, ⟨.slice none 0 0, .slice none 0 0, .slice none 0 0⟩) : RefsV)).toArray 53 (0, 0)) ∧ OG w.heap.size 70 33 (nmdC) wz vb1 (y.1.branches.take i1) ∧ wz.heap[n23]? = some (.cells (refsC ((⟨(y.1.branches.take i1), (y.1.tags.take i2), (((⟨[], [], [], zid, []⟩, ⟨.slice none 0 0, .slice none 0 0, .slice none 0 0⟩) : RefsV)).1.head, (((⟨[], [], [], zid, []⟩, ⟨.slice none 0 0, .slice none 0 0, .slice none 0 0⟩) : RefsV)).1.at_, []⟩, ⟨vb1, vb2, (Value.slice none 0 0)⟩) : RefsV)).toArray 53 (0, 0)) ∧ OG w.heap.size 70 33 (nmdC) wz vb2 (y.1.tags.take i2) ∧ (i2 ≤ y.1.tags.length) ∧ (OB vb2 n2) ∧ (OB vb2 n10) ∧ (OB vb2 n23) ∧ (ApartV vb2 vb1) ∧ True) (fun ρ _ => y.1.tags.length - (intOf (ρ 5)).toNat) ⟨0, (Value.slice none 0 0), T0, T1, T2, T3, T4, T5, hE, hb8, hb20, ho1, hm1, OG.nil _ _ _ _ _, Nat.zero_le _, (fun h => by cases h), (fun h => by cases h), (fun h => by cases h), (fun k h => by cases h), trivial⟩ ?_))))))))))))))
 clear hm1
 clear hE hb8 hb20 ho1
 rintro ρ70 w71 ⟨i2, vb2, T0, T1, T2, T3, T4, T5, hE, hb8, hb20, ho1, hm2, ho2, hi2, hap_vb2_n2, hap_vb2_n10, hap_vb2_n23, hap_vb2_vb1, -⟩
 have q5 := T5
 have hl72 := (bl hb8)
 have hl73 := (bl hb20)
 have hl74 := (bl hm2)
 refine sk fun K75 hK75 => (sk fun K76 hK76 => (wt (oM rfl (oS rfl (Yk.fieldAt wr23_fo49_1 T1 (oS rfl (Yk.cell1 wr23_ty46 rfl (vr (PQ n2 1) rfl) (cellAt hb8 (show (refsC y)[1]? = some (y.2.tags : Value) from refs_g1 y)) (oS rfl (Yk.lenRG wr23_ty46 (RG.of (hmg.keep hE) (vr y.2.tags rfl)) (oS rfl (Yk.eqI (a := (i2 : Nat)) (b := ((y.1.tags).length : Nat)) T5 rfl (k_lss _ _ _ _) (oZ (tN (hK76 _ _ ?_))))))))))))))
 refine wpF_cond ((i2) < ((y.1.tags).length)) (vr (.bool (decide ((i2) < ((y.1.tags).length)))) rfl) (fun hc1 => ?_) (fun hc1 => ?_)
 ·have hlt2 : i2 < y.1.tags.length := hc1
  refine wpF_skip (tN (hK75 _ _ (sk fun K77 hK77 => (wpF_block ?_))))
  refine wpF_draw_cut 16 [Is (PQ n23 1), Is (vb2), Is (PQ n2 1), Is (y.2.tags), Is (NI i2), fun x w' => PR (nmdC ((y.1.tags).getD (i2) dNmd)) x w', PCell (St (((y.1.tags).getD (i2) dNmd).name)), Is (St (((y.1.tags).getD (i2) dNmd).name)), Is (PQ n2 1), Is (y.2.tags), Is (NI i2), fun x w' => PR (nmdC ((y.1.tags).getD (i2) dNmd)) x w', fun x w' => PR (Lib.byteCells ((y.1.tags).getD (i2) dNmd).id.1) x w', Is (AB (((y.1.tags).getD (i2) dNmd).id.1)), Is (.agg (nmdC (⟨(((y.1.tags).getD (i2) dNmd).name), ((y.1.tags).getD (i2) dNmd).id⟩ : Nmd)).toArray), fun x w' => RG 33 (nmdC) w' x ([(⟨(((y.1.tags).getD (i2) dNmd).name), ((y.1.tags).getD (i2) dNmd).id⟩ : Nmd)])] (by kernel_rfl) [38, 39, 40, 41, 42, 43, 44, 45, 46, 47, 48, 49, 50, 51, 52, 53, 54, 55] (by kernel_rfl) (by kernel_rfl) (by kernel_rfl) (by kernel_rfl) rfl rfl (si5 ⟨(fun _ _ _ h k => PR.keep h k), Stab.pcell _, (si4 ⟨(fun _ _ _ h k => PR.keep h k), (fun _ _ _ h k => PR.keep h k), (si2 ⟨(fun _ _ _ h k => RG.keep h k), trivial⟩)⟩)⟩) ?hs3009 ?hQ3009
  case hs3009 =>
   refine ⟨?_, ?_, ?_, ?_, ?_, ?_, ?_, ?_, ?_, ?_, ?_, ?_, ?_, ?_, ?_, ?_, ?_, ?_, ?_, trivial⟩
   ·refine stepFC (stepN rfl fun σ w1 hC h => ?_)
    have e3 := (eqo (h 3 (by decide))).trans T3
    exact Yk.fieldAt wr23_fo53_1 e3 ⟨Ext.refl _, rfl⟩
   ·refine stepFC (stepN rfl fun σ w1 hC h => ?_)
    have e38 := eqo (h 38 (by decide))
    exact Yk.cell1 wr23_ty51 rfl e38 (cellAt (eb hC hm2) (show (refsC ((⟨(y.1.branches.take i1), (y.1.tags.take i2), (((⟨[], [], [], zid, []⟩, ⟨.slice none 0 0, .slice none 0 0, .slice none 0 0⟩) : RefsV)).1.head, (((⟨[], [], [], zid, []⟩, ⟨.slice none 0 0, .slice none 0 0, .slice none 0 0⟩) : RefsV)).1.at_, []⟩, ⟨vb1, vb2, (Value.slice none 0 0)⟩) : RefsV))[1]? = some (vb2 : Value) from refs_g1 ((⟨(y.1.branches.take i1), (y.1.tags.take i2), (((⟨[], [], [], zid, []⟩, ⟨.slice none 0 0, .slice none 0 0, .slice none 0 0⟩) : RefsV)).1.head, (((⟨[], [], [], zid, []⟩, ⟨.slice none 0 0, .slice none 0 0, .slice none 0 0⟩) : RefsV)).1.at_, []⟩, ⟨vb1, vb2, (Value.slice none 0 0)⟩) : RefsV))) ⟨Ext.refl _, rfl⟩
   ·refine stepFC (stepN rfl fun σ w1 hC h => ?_)
    have e1 := (eqo (h 1 (by decide))).trans T1
    exact Yk.fieldAt wr23_fo49_1 e1 ⟨Ext.refl _, rfl⟩
   ·refine stepFC (stepN rfl fun σ w1 hC h => ?_)
    have e40 := eqo (h 40 (by decide))
    exact Yk.cell1 wr23_ty46 rfl e40 (cellAt (eb hC hb8) (show (refsC y)[1]? = some (y.2.tags : Value) from refs_g1 y)) ⟨Ext.refl _, rfl⟩
   ·refine stepFC (stepN rfl fun σ w1 hC h => ?_)
    have e5 := (eqo (h 5 (by decide))).trans T5
    exact Yk.move e5 ⟨Ext.refl _, rfl⟩
   ·refine stepFC (stepN rfl fun σ w1 hC h => ?_)
    have e41 := eqo (h 41 (by decide))
    have e42 := eqo (h 42 (by decide))
    exact Yk.atRG wr23_ty46 wr23_szg69 (by decide) dNmd (RG.of (hmg.keep (hE.trans hC)) e41) e42 (by omega) fun v h => ⟨Ext.refl _, h⟩
   ·refine stepFC (stepN rfl fun σ w1 hC h => ?_)
    have e43 : (fun x w' => PR (nmdC ((y.1.tags).getD (i2) dNmd)) x w') (σ 43) w1 := h 43 (by decide)
    exact Yk.fieldPR (n := 1) wr23_fo69_0 e43 fun v h => ⟨Ext.refl _, PR.pcell (by rw [nmd_f0] at h; exact h)⟩
   ·refine stepFC (stepN rfl fun σ w1 hC h => ?_)
    have e44 : (PCell (St (((y.1.tags).getD (i2) dNmd).name))) (σ 44) w1 := h 44 (by decide)
    exact Yk.loadC wr23_ty9 rfl e44 ⟨Ext.refl _, rfl⟩
   ·refine stepFC (stepN rfl fun σ w1 hC h => ?_)
    have e1 := (eqo (h 1 (by decide))).trans T1
    exact Yk.fieldAt wr23_fo49_1 e1 ⟨Ext.refl _, rfl⟩
   ·refine stepFC (stepN rfl fun σ w1 hC h => ?_)
    have e46 := eqo (h 46 (by decide))
    exact Yk.cell1 wr23_ty46 rfl e46 (cellAt (eb hC hb8) (show (refsC y)[1]? = some (y.2.tags : Value) from refs_g1 y)) ⟨Ext.refl _, rfl⟩
   ·refine stepFC (stepN rfl fun σ w1 hC h => ?_)
    have e5 := (eqo (h 5 (by decide))).trans T5
    exact Yk.move e5 ⟨Ext.refl _, rfl⟩
   ·refine stepFC (stepN rfl fun σ w1 hC h => ?_)
    have e47 := eqo (h 47 (by decide))
    have e48 := eqo (h 48 (by decide))
    exact Yk.atRG wr23_ty46 wr23_szg69 (by decide) dNmd (RG.of (hmg.keep (hE.trans hC)) e47) e48 (by omega) fun v h => ⟨Ext.refl _, h⟩
   ·refine stepFC (stepN rfl fun σ w1 hC h => ?_)
    have e49 : (fun x w' => PR (nmdC ((y.1.tags).getD (i2) dNmd)) x w') (σ 49) w1 := h 49 (by decide)
    exact Yk.fieldPR (n := 32) wr23_fo69_1 e49 fun v h => ⟨Ext.refl _, by rw [nmd_f1] at h; exact h⟩
   ·refine stepFC (stepN rfl fun σ w1 hC h => ?_)
    have e50 : (fun x w' => PR (Lib.byteCells ((y.1.tags).getD (i2) dNmd).id.1) x w') (σ 50) w1 := h 50 (by decide)
    exact Yk.loadPR e50 wr23_ty25 rfl (by rw [Lib.byteCells_length, ((y.1.tags).getD (i2) dNmd).id.2]; exact wr23_isz25) ⟨Ext.refl _, rfl⟩
   ·refine stepFC (stepN rfl fun σ w1 hC h => ?_)
    have e45 := eqo (h 45 (by decide))
    have e51 := eqo (h 51 (by decide))
    exact Yk.build2 e45 e51 (fun w => wr23_bs70_0_1 (((y.1.tags).getD (i2) dNmd).name) (((y.1.tags).getD (i2) dNmd).id) w) ⟨Ext.refl _, rfl⟩
   ·refine stepFC (stepN rfl fun σ w1 hC h => ?_)
    have e52 := eqo (h 52 (by decide))
    exact Yk.lit1G (a := (⟨(((y.1.tags).getD (i2) dNmd).name), ((y.1.tags).getD (i2) dNmd).id⟩ : Nmd)) (enc := nmdC) e52 (nmd_len _) wr23_lg51 fun v w2 h hx => ⟨hx, h⟩
   ·exact trivial
   ·exact trivial
   ·exact trivial
  intro ρ78 w79 hx80 he hf
  obtain ⟨-, k39, -, -, -, -, -, -, -, -, -, -, -, -, -, k53, -⟩ := hf
  obtain ⟨T0, T1, T2, T3, T4, T5, -⟩ := he.hold [(0, _), (1, _), (2, _), (3, _), (4, _), (5, _)] ⟨T0, T1, T2, T3, T4, T5, trivial⟩ rfl
  clear he
  have hE := hE.trans hx80
  have hb8 := eb hx80 hb8
  have hb20 := eb hx80 hb20
  have ho1 := ho1.keep hx80
  have hm2 := eb hx80 hm2
  have ho2 := ho2.keep hx80
  have T39 : ρ78 39 = vb2 := k39
  have k53 : (fun x w' => RG 33 (nmdC) w' x ([(⟨(((y.1.tags).getD (i2) dNmd).name), ((y.1.tags).getD (i2) dNmd).id⟩ : Nmd)])) (ρ78 53) w79 := k53
  obtain ⟨v81, T53⟩ : ∃ v, ρ78 53 = v := ⟨_, rfl⟩
  rw [T53] at k53
  have hk82 := k53; clear k53
  clear k39
  refine oS rfl (Yk.appendRG _ _ w.heap.size _ 48 wr23_ty51 wr23_ig70.choose_spec.1 wr23_ig70.choose_spec.2 wr23_ty51 (y.1.tags.take i2) ([(⟨(((y.1.tags).getD (i2) dNmd).name), ((y.1.tags).getD (i2) dNmd).id⟩ : Nmd)]) (OG.of ho2 T39) (RG.of hk82 T53) (fun _ _ => nmd_one) (by simp only [List.length_take, List.length_append, List.length_cons, List.length_nil]; omega) (by simp only [List.length_take, List.length_append, List.length_cons, List.length_nil]; omega) hE.size fun v83 w84 ho85 hg86 => ?_)
  have hg86 : Grew w79 w84 vb2 v83 := .eqv T39 hg86
  have hap87 : OB v83 n2 := apart_grew hg86 hap_vb2_n2 (bl hb8)
  have hap88 : OB v83 n10 := apart_grew hg86 hap_vb2_n10 (bl hb20)
  have hap89 : OB v83 n23 := apart_grew hg86 hap_vb2_n23 (bl hm2)
  have hap90 : ApartV v83 vb1 := apartv_grew hg86 hap_vb2_vb1 ho1.2
  have hap91 : ApartV vb1 v83 := fun k h1 h2 => hap90 k h2 h1
  have hE := ext_grew hE hg86 ho2.2 (Nat.le_refl _)
  have hb8 := blk_grew hb8 hg86 hap_vb2_n2
  have hb20 := blk_grew hb20 hg86 hap_vb2_n10
  have ho1 := og_grew ho1 hg86 hap_vb2_vb1
  have hm2 := blk_grew hm2 hg86 hap_vb2_n23
  clear ho2
  clear hk82
  refine oS rfl (Yk.fieldAt wr23_fo53_1 T3 (oS rfl (Yk.storeC (i := 1) (v := v83) (vr (PQ n23 1) rfl) (vr v83 rfl) hm2 (by rw [refs_len]; decide) wr23_isz51 (RG.one (RG.ofOwn ho85)).1 (RG.one (RG.ofOwn ho85)).2 fun w92 hb93 hg94 hs95 => ?_)))
  have hE := row_fresh hE hg94 (Nat.le_trans hz32 (by omega))
  have hb8 := kb hg94 hb8 (by omega)
  have hb20 := kb hg94 hb20 (by omega)
  have ho1 := OG.kept ho1 hg94 hap_vb1_n23
  clear hm2
  have ho85 := OG.kept ho85 hg94 hap89
  have hm2 : w92.heap[n23]? = some (.cells (refsC ((⟨(y.1.branches.take i1), (y.1.tags.take i2) ++ [(⟨(((y.1.tags).getD (i2) dNmd).name), ((y.1.tags).getD (i2) dNmd).id⟩ : Nmd)], (((⟨[], [], [], zid, []⟩, ⟨.slice none 0 0, .slice none 0 0, .slice none 0 0⟩) : RefsV)).1.head, (((⟨[], [], [], zid, []⟩, ⟨.slice none 0 0, .slice none 0 0, .slice none 0 0⟩) : RefsV)).1.at_, []⟩, ⟨vb1, v83, (Value.slice none 0 0)⟩) : RefsV)).toArray 53 (0, 0)) := blk_eq hb93 (refs_s1 ((⟨(y.1.branches.take i1), (y.1.tags.take i2), (((⟨[], [], [], zid, []⟩, ⟨.slice none 0 0, .slice none 0 0, .slice none 0 0⟩) : RefsV)).1.head, (((⟨[], [], [], zid, []⟩, ⟨.slice none 0 0, .slice none 0 0, .slice none 0 0⟩) : RefsV)).1.at_, []⟩, ⟨vb1, vb2, (Value.slice none 0 0)⟩) : RefsV) v83 ((y.1.tags.take i2) ++ [(⟨(((y.1.tags).getD (i2) dNmd).name), ((y.1.tags).getD (i2) dNmd).id⟩ : Nmd)])); clear hb93
  have hl96 := bl hm2
  refine oZ (bN (tN (hK77 _ _ (wt (oM rfl (oS rfl (Yk.bin (xv := NI i2) (yv := NI 1) T5 rfl rfl (i64_add _ _ _ (by omega)) (oA rfl (oL_ [(0, .agg (refsC y).toArray), (1, PQ n2 0), (2, PQ n10 0), (3, PQ n23 0), (4, NI i1), (5, NI ((i2) + (1)))] ⟨T0, T1, T2, T3, T4, rfl, trivial⟩ fun ρ97 ⟨T0, T1, T2, T3, T4, T5, _⟩ => (tN (And.intro ⟨i2 + 1, v83, T0, T1, T2, T3, T4, T5, hE, hb8, hb20, ho1, hm2, og_eq ho85 (take_snoc hlt2), by omega, hap87, hap88, hap89, hap90, trivial⟩ ?_)))))))))))
  show y.1.tags.length - (intOf (ρ97 5)).toNat < y.1.tags.length - (intOf (ρ70 5)).toNat
  rw [T5, q5]
  simp only [intOf, Int.toNat_natCast]; omega
 refine wpF_exit (thenF_exit (thenF_exit (inBlockF_hit (tN (hK67 _ _ (sk fun K98 hK98 => ?_))))))
 have hx99 : Ext w71 (World.drew w71) := (Below.refl _ _).drew
 have hE := hE.trans hx99
 have hb8 := eb hx99 hb8
 have hb20 := eb hx99 hb20
 have ho1 := ho1.keep hx99
 have hm2 := eb hx99 hm2
 have ho2 := ho2.keep hx99
 refine wpF_float [(0, 56, PQ n2 2), (1, 57, St (y.1.head)), (2, 58, PQ n2 3), (3, 59, AB y.1.at_.1), (4, 60, PQ n23 2), (6, 61, PQ n23 3)] [5, 7] (fun wz => Ext w wz ∧ wz.heap[n2]? = some (.cells (refsC y).toArray 49 (0, 0)) ∧ wz.heap[n10]? = some (.cells (refsC ((⟨[], [], [], zid, []⟩, ⟨.slice none 0 0, .slice none 0 0, .slice none 0 0⟩) : RefsV)).toArray 53 (0, 0)) ∧ True) (by kernel_rfl) (by kernel_rfl) (by kernel_rfl) ⟨hE, hb8, hb20, trivial⟩ ⟨fun w100 ⟨hE, hb8, hb20, _⟩ => Yk.fieldAt wr23_fo49_2 T1 ⟨rfl, rfl⟩, fun w100 ⟨hE, hb8, hb20, _⟩ => Yk.cell1 wr23_ty9 rfl (vr (PQ n2 2) rfl) (cellAt hb8 (show (refsC y)[2]? = some (St (y.1.head) : Value) from refs_g2 y)) ⟨rfl, rfl⟩, fun w100 ⟨hE, hb8, hb20, _⟩ => Yk.fieldAt wr23_fo49_3 T1 ⟨rfl, rfl⟩, fun w100 ⟨hE, hb8, hb20, _⟩ => Yk.loadPR (PR.blk hb8 (refs_m3 y) (refs_n3 y) (vr (PQ n2 3) rfl)) wr23_ty25 rfl (sizeId_of y.1.at_.2) ⟨rfl, rfl⟩, fun w100 ⟨hE, hb8, hb20, _⟩ => Yk.fieldAt wr23_fo53_2 T3 ⟨rfl, rfl⟩, fun w100 ⟨hE, hb8, hb20, _⟩ => Yk.fieldAt wr23_fo53_3 T3 ⟨rfl, rfl⟩, trivial⟩ (chF_step rfl (Yk.storeC (i := 2) (v := St (y.1.head)) (vr (PQ n23 2) rfl) (vr (St (y.1.head)) rfl) hm2 (by rw [refs_len]; decide) wr23_isz9 rfl rfl fun w101 hb102 hg103 hs104 => ?_))
 have hE := row_fresh hE hg103 (Nat.le_trans hz32 (by omega))
 have hb8 := kb hg103 hb8 (by omega)
 have hb20 := kb hg103 hb20 (by omega)
 have ho1 := OG.kept ho1 hg103 hap_vb1_n23
 clear hm2
 have ho2 := OG.kept ho2 hg103 hap_vb2_n23
 have hm2 : w101.heap[n23]? = some (.cells (refsC ((⟨(y.1.branches.take i1), (y.1.tags.take i2), y.1.head, (((⟨[], [], [], zid, []⟩, ⟨.slice none 0 0, .slice none 0 0, .slice none 0 0⟩) : RefsV)).1.at_, []⟩, ⟨vb1, vb2, (Value.slice none 0 0)⟩) : RefsV)).toArray 53 (0, 0)) := blk_eq hb102 (refs_s2 ((⟨(y.1.branches.take i1), (y.1.tags.take i2), (((⟨[], [], [], zid, []⟩, ⟨.slice none 0 0, .slice none 0 0, .slice none 0 0⟩) : RefsV)).1.head, (((⟨[], [], [], zid, []⟩, ⟨.slice none 0 0, .slice none 0 0, .slice none 0 0⟩) : RefsV)).1.at_, []⟩, ⟨vb1, vb2, (Value.slice none 0 0)⟩) : RefsV) y.1.head); clear hb102
 have hl105 := bl hm2
 refine ⟨.inr ⟨hE, hb8, hb20, trivial⟩, ?_⟩
 refine chF_step rfl (Yk.storeMid (a := refs_a3 ((⟨(y.1.branches.take i1), (y.1.tags.take i2), y.1.head, (((⟨[], [], [], zid, []⟩, ⟨.slice none 0 0, .slice none 0 0, .slice none 0 0⟩) : RefsV)).1.at_, []⟩, ⟨vb1, vb2, (Value.slice none 0 0)⟩) : RefsV)) (m := Lib.byteCells ((((⟨[], [], [], zid, []⟩, ⟨.slice none 0 0, .slice none 0 0, .slice none 0 0⟩) : RefsV)).1.at_).1) (z := refs_z3 ((⟨(y.1.branches.take i1), (y.1.tags.take i2), y.1.head, (((⟨[], [], [], zid, []⟩, ⟨.slice none 0 0, .slice none 0 0, .slice none 0 0⟩) : RefsV)).1.at_, []⟩, ⟨vb1, vb2, (Value.slice none 0 0)⟩) : RefsV)) (cells := Lib.byteCells y.1.at_.1) (vr (PQ n23 3) rfl) (vr (AB y.1.at_.1) rfl) (refs_m3 ((⟨(y.1.branches.take i1), (y.1.tags.take i2), y.1.head, (((⟨[], [], [], zid, []⟩, ⟨.slice none 0 0, .slice none 0 0, .slice none 0 0⟩) : RefsV)).1.at_, []⟩, ⟨vb1, vb2, (Value.slice none 0 0)⟩) : RefsV) ▸ hm2) (refs_n3 ((⟨(y.1.branches.take i1), (y.1.tags.take i2), y.1.head, (((⟨[], [], [], zid, []⟩, ⟨.slice none 0 0, .slice none 0 0, .slice none 0 0⟩) : RefsV)).1.at_, []⟩, ⟨vb1, vb2, (Value.slice none 0 0)⟩) : RefsV)) (by rw [Lib.byteCells_length, Lib.byteCells_length, ((((⟨[], [], [], zid, []⟩, ⟨.slice none 0 0, .slice none 0 0, .slice none 0 0⟩) : RefsV)).1.at_).2, y.1.at_.2]) (by rw [Lib.byteCells_length, y.1.at_.2]; exact wr23_isz25) (byteCells_one _) fun w106 hb107 hg108 hs109 => ?_)
 have hE := row_fresh hE hg108 (Nat.le_trans hz32 (by omega))
 have hb8 := kb hg108 hb8 (by omega)
 have hb20 := kb hg108 hb20 (by omega)
 have ho1 := OG.kept ho1 hg108 hap_vb1_n23
 have ho2 := OG.kept ho2 hg108 hap_vb2_n23
 clear hm2
 have hm2 : w106.heap[n23]? = some (.cells (refsC ((⟨(y.1.branches.take i1), (y.1.tags.take i2), y.1.head, y.1.at_, []⟩, ⟨vb1, vb2, (Value.slice none 0 0)⟩) : RefsV)).toArray 53 (0, 0)) := blk_eq hb107 (refs_s3 ((⟨(y.1.branches.take i1), (y.1.tags.take i2), y.1.head, (((⟨[], [], [], zid, []⟩, ⟨.slice none 0 0, .slice none 0 0, .slice none 0 0⟩) : RefsV)).1.at_, []⟩, ⟨vb1, vb2, (Value.slice none 0 0)⟩) : RefsV) y.1.at_); clear hb107
 have hl110 := bl hm2
 refine ⟨.inl rfl, ?_⟩
 refine chF_nil (tN (hK98 _ _ (sk fun K111 hK111 => (wt (oS rfl (Yk.fieldAt wr23_fo53_4 T3 (oS rfl (Yk.cell1 wr23_ty47 rfl (vr (PQ n23 35) rfl) (cellAt hm2 (show (refsC ((⟨(y.1.branches.take i1), (y.1.tags.take i2), y.1.head, y.1.at_, []⟩, ⟨vb1, vb2, (Value.slice none 0 0)⟩) : RefsV))[35]? = some ((Value.slice none 0 0) : Value) from refs_g4 ((⟨(y.1.branches.take i1), (y.1.tags.take i2), y.1.head, y.1.at_, []⟩, ⟨vb1, vb2, (Value.slice none 0 0)⟩) : RefsV))) (oS rfl (Yk.fieldAt wr23_fo49_4 T1 (oS rfl (Yk.cell1 wr23_ty47 rfl (vr (PQ n2 35) rfl) (cellAt hb8 (show (refsC y)[35]? = some (y.2.log : Value) from refs_g4 y)) ?_))))))))))))
 have hA112 := Ext.refl w106
 have hea113 := hE
 have hz114 := hE.size
 refine oS rfl (Yk.appendRG _ _ w106.heap.size _ 104 wr23_ty47 wr23_ig122.choose_spec.1 wr23_ig122.choose_spec.2 wr23_ty47 ([]) (y.1.log) (OG.of (OG.nil _ _ _ _ _) (vr (Value.slice none 0 0) rfl)) (RG.of (hml.keep hE) (vr y.2.log rfl)) (fun _ _ => ent_one) (by simp only [List.length_nil]; omega) (by simp only [List.length_nil]; omega) hA112.size fun v115 w116 ho117 hg118 => ?_)
 have hg118 : Grew w106 w116 (.slice none 0 0) v115 := hg118
 have hlt119 := (bl hb8)
 have hlt120 := (bl hb20)
 have hlt121 := (bl hm2)
 have hx_ : Ext w106 w116 := Ext.of (by have := hg118.by_; exact this)
 have hE := hE.trans hx_
 have hb8 := eb hx_ hb8
 have hb20 := eb hx_ hb20
 have ho1 := ho1.keep hx_
 have ho2 := ho2.keep hx_
 have hm2 := eb hx_ hm2
 have hA112 := hA112.trans hx_
 have hap122 : OB v115 n2 := own_older ho117.2 hlt119
 have hap123 : OB v115 n10 := own_older ho117.2 hlt120
 have hap124 : OB v115 n23 := own_older ho117.2 hlt121
 refine oS rfl (Yk.fieldAt wr23_fo53_4 T3 (oS rfl (Yk.storeC (i := 35) (v := v115) (vr (PQ n23 35) rfl) (vr v115 rfl) hm2 (by rw [refs_len]; decide) wr23_isz47 (RG.one (RG.ofOwn ho117)).1 (RG.one (RG.ofOwn ho117)).2 fun w125 hb126 hg127 hs128 => ?_)))
 have hE := row_fresh hE hg127 (Nat.le_trans hz32 (by omega))
 have hb8 := kb hg127 hb8 (by omega)
 have hb20 := kb hg127 hb20 (by omega)
 have ho1 := OG.kept ho1 hg127 hap_vb1_n23
 have ho2 := OG.kept ho2 hg127 hap_vb2_n23
 clear hm2
 clear hA112
 have ho117 := OG.kept ho117 hg127 hap124
 have hm2 : w125.heap[n23]? = some (.cells (refsC ((⟨(y.1.branches.take i1), (y.1.tags.take i2), y.1.head, y.1.at_, ([]) ++ y.1.log⟩, ⟨vb1, vb2, v115⟩) : RefsV)).toArray 53 (0, 0)) := blk_eq hb126 (refs_s4 ((⟨(y.1.branches.take i1), (y.1.tags.take i2), y.1.head, y.1.at_, []⟩, ⟨vb1, vb2, (Value.slice none 0 0)⟩) : RefsV) v115 (([]) ++ y.1.log)); clear hb126
 have hl129 := bl hm2
 refine oZ (tN (hK111 _ _ (sk fun K130 hK130 => (wt (oS rfl (Yk.loadAll T3 hm2 (wr23_ty53).choose_spec rfl (st_isz (refs_len ((⟨(y.1.branches.take i1), (y.1.tags.take i2), y.1.head, y.1.at_, ([]) ++ y.1.log⟩, ⟨vb1, vb2, v115⟩) : RefsV)) wr23_isz53) (oS rfl (Yk.storeAll T2 (vr (.agg (refsC ((⟨(y.1.branches.take i1), (y.1.tags.take i2), y.1.head, y.1.at_, ([]) ++ y.1.log⟩, ⟨vb1, vb2, v115⟩) : RefsV)).toArray) rfl) hb20 (by simp only [List.size_toArray, refs_len]) (st_isz (refs_len _) wr23_isz53) (refs_one (x := ((⟨(y.1.branches.take i1), (y.1.tags.take i2), y.1.head, y.1.at_, ([]) ++ y.1.log⟩, ⟨vb1, vb2, v115⟩) : RefsV)) (RG.one (RG.ofOwn ho1)).2 (RG.one (RG.ofOwn ho2)).2 (RG.one (RG.ofOwn ho117)).2) fun w131 hb132 hg133 hs134 => ?_))))))))
 have hE := row_fresh hE hg133 (Nat.le_trans hz18 (by omega))
 have hb8 := kb hg133 hb8 (by omega)
 clear hb20
 have ho1 := OG.kept ho1 hg133 hap_vb1_n10
 have ho2 := OG.kept ho2 hg133 hap_vb2_n10
 have ho117 := OG.kept ho117 hg133 hap123
 have hm2 := kb hg133 hm2 (by omega)
 have hb20 : w131.heap[n10]? = some (.cells (refsC ((⟨(y.1.branches.take i1), (y.1.tags.take i2), y.1.head, y.1.at_, ([]) ++ y.1.log⟩, ⟨vb1, vb2, v115⟩) : RefsV)).toArray 53 (0, 0)) := hb132; clear hb132
 have hl135 := bl hb20
 refine oZ (tN (hK130 _ _ (wpF_ret (postF_ret (fn := Tryd.f37) _ rfl [.agg (refsC ((⟨(y.1.branches.take i1), (y.1.tags.take i2), y.1.head, y.1.at_, ([]) ++ y.1.log⟩, ⟨vb1, vb2, v115⟩) : RefsV)).toArray] (.agg (refsC ((⟨(y.1.branches.take i1), (y.1.tags.take i2), y.1.head, y.1.at_, ([]) ++ y.1.log⟩, ⟨vb1, vb2, v115⟩) : RefsV)).toArray) rfl ⟨ResF.row T2 hb20 (wr23_ty53).choose_spec rfl (st_isz (refs_len _) wr23_isz53), trivial⟩ ?_))))
 have e1 : y.1.branches.take i1 = y.1.branches := List.take_of_length_le (by omega)
 have e2 : y.1.tags.take i2 = y.1.tags := List.take_of_length_le (by omega)
 refine ⟨⟨_, _, _⟩, ?_, ⟨RG.ofOwn (og_eq ho1 e1), RG.ofOwn (og_eq ho2 e2), RG.ofOwn (og_eq ho117 (by simp))⟩, hE⟩
 rw [e1, e2]; rfl
open Go.RowKit
theorem nlistB_is {l : List Nmd} (h : nlistB l = true) : (∀ j, j < l.length → nE l j = false) ∧ l.length ≤ 64 := by
  classical
  exact of_decide_eq_true h
theorem rightF_is {r : Refs} (h : rightF r = true) : nlistB r.branches = true ∧ nlistB r.tags = true := by
  unfold rightF at h
  have h1 : rE1 r = false := by cases hq : rE1 r <;> simp_all
  unfold rE1 at h1
  cases ha : nlistB r.branches <;> cases hb : nlistB r.tags <;> simp_all
theorem nE_is {l : List Nmd} {j : Nat} (h : nE l j = false) : nameB (l.getD j dNmd).name = true ∧ zeroB (l.getD j dNmd).id = false ∧ (0 < j → Op.bytesLess (l.getD (j - 1) dNmd).name (l.getD j dNmd).name = true) := by
  unfold nE at h
  rw [Bool.or_eq_false_iff, Bool.or_eq_false_iff, Bool.and_eq_false_iff] at h
  obtain ⟨⟨h1, h2⟩, h3⟩ := h
  refine ⟨by simpa using h1, h2, fun h0 => ?_⟩
  rcases h3 with h3 | h3
  · exact absurd h0 (of_decide_eq_false h3)
  · simpa using h3
theorem zeroB_zid : zeroB zid = true := by decide
theorem badB_of {k : UInt8} {n : Nmd} (hk : k = 1 ∨ k = 2) (h1 : nameB n.name = true) (h2 : zeroB n.id = false) : badB (ofNmd k n) = false := by
  unfold badB ofNmd
  rcases hk with rfl | rfl <;> simp [h1, h2, zeroB_zid]
theorem map_getD {k : UInt8} {l : List Nmd} {j : Nat} (h : j < l.length) : (l.map (ofNmd k)).getD j dUpd = ofNmd k (l.getD j dNmd) := by
  rw [List.getD_eq_getElem?_getD, List.getElem?_map, List.getD_eq_getElem?_getD, List.getElem?_eq_getElem h]; rfl
theorem of_getA {r : Refs} {j : Nat} (h : j < r.branches.length) : (r.branches.map (ofNmd 1) ++ r.tags.map (ofNmd 2)).getD j dUpd = ofNmd 1 (r.branches.getD j dNmd) := by
  rw [← map_getD (k := 1) h, List.getD_eq_getElem?_getD, List.getElem?_append_left (by simpa using h), List.getD_eq_getElem?_getD]
theorem of_getB {r : Refs} {j : Nat} (h : ¬ j < r.branches.length) (h2 : j < r.branches.length + r.tags.length) : (r.branches.map (ofNmd 1) ++ r.tags.map (ofNmd 2)).getD j dUpd = ofNmd 2 (r.tags.getD (j - r.branches.length) dNmd) := by
  rw [← map_getD (k := 2) (by omega), List.getD_eq_getElem?_getD, List.getElem?_append_right (by simpa using h), List.length_map, List.getD_eq_getElem?_getD]
theorem ordB_same {k : UInt8} {a b : Nmd} (h : Op.bytesLess a.name b.name = true) : ordB (ofNmd k a) (ofNmd k b) = false := by
  unfold ordB ofNmd
  simp [h]
theorem listB_of {r : Refs} : listB (ofB r) = true := by
  classical
  unfold ofB
  split
  · rename_i hR
    obtain ⟨h1, h2⟩ := rightF_is hR
    obtain ⟨b1, b2⟩ := nlistB_is h1
    obtain ⟨t1, t2⟩ := nlistB_is h2
    refine decide_eq_true ⟨fun j hj => ?_, by simp; omega⟩
    have hj : j < r.branches.length + r.tags.length := by simpa using hj
    by_cases hA : j < r.branches.length
    · obtain ⟨n1, n2, n3⟩ := nE_is (b1 j hA)
      rw [of_getA hA]
      refine ⟨badB_of (.inl rfl) n1 n2, fun h0 => ?_⟩
      rw [of_getA (by omega)]
      exact ordB_same (n3 h0)
    · obtain ⟨n1, n2, n3⟩ := nE_is (t1 (j - r.branches.length) (by omega))
      rw [of_getB hA hj]
      refine ⟨badB_of (.inr rfl) n1 n2, fun h0 => ?_⟩
      by_cases hB : j - 1 < r.branches.length
      · rw [of_getA hB]
        unfold ordB ofNmd
        simp
      · rw [of_getB hB (by omega), show j - 1 - r.branches.length = j - r.branches.length - 1 by omega]
        exact ordB_same (n3 (by omega))
  · refine decide_eq_true ⟨fun j hj => absurd hj (Nat.not_lt_zero _), Nat.zero_le _⟩
theorem of_names {r : Refs} : ∀ u ∈ ofB r, u.name.length ≤ 32 := fun u hu => by
  have h := listB_of (r := r)
  classical
  have h := (of_decide_eq_true h).1
  obtain ⟨j, hj, rfl⟩ := List.getElem_of_mem hu
  have := (h j hj).1
  rw [List.getD_eq_getElem?_getD, List.getElem?_eq_getElem hj] at this
  have hn : nameB (ofB r)[j].name = true := by
    unfold badB at this
    cases hq : nameB (ofB r)[j].name
    · simp [hq] at this
    · rfl
  exact (nameB_len hn).2
structure NamesLt (r : Refs) : Prop where
  bn : ∀ u ∈ r.branches, u.name.length ≤ 9223372036854775807
  tn : ∀ u ∈ r.tags, u.name.length ≤ 9223372036854775807
  head : r.head.length ≤ 9223372036854775807
theorem few_of {a b c : Nat} (h : ((decide (80 < a) || decide (80 < b)) || decide (80 < c)) = false) : a ≤ 80 ∧ b ≤ 80 ∧ c ≤ 80 := by
  simp only [Bool.or_eq_false_iff, decide_eq_false_iff_not] at h
  omega
theorem lt_of {r : Refs} (h : NamesLt r) (hc : r.branches.length ≤ 80 ∧ r.tags.length ≤ 80 ∧ r.log.length ≤ 80) : RefsLt r := ⟨by omega, by omega, by omega, h.bn, h.tn, h.head⟩
noncomputable abbrev tellM (s : Nat) (r : Refs) : Msg := ⟨2, ((s : Nat) : Int), ofB r, [], [], 0, 0, zid, [], [], zid, zid, false, 0⟩
theorem rightB_tell {s : Nat} {r : Refs} (hs : s < 65536) : rightB (tellM s r) = true := by
  rw [rightB_some (m := tellM s r) (p := ⟨true, false, false, false, false, false, false, false⟩) rfl]
  unfold rightP
  have h1 : boundB (s : Int) 2147483647 = true := by unfold boundB; simp; omega
  have h2 : absentB (tellM s r) ⟨true, false, false, false, false, false, false, false⟩ = true := by
    unfold absentB tellM
    simp [zeroB_zid]
  have h3 : setW ([] : List Bs) = true := by unfold setW; simp [setB_all (l := []) (i := 1) (Nat.zero_le _) (fun j h0 h1 => by omega)]
  simp only [h1, h2, h3, listB_of]
  rfl
theorem tell_lt {s : Nat} {r : Refs} (hb : r.branches.length ≤ 80) (ht : r.tags.length ≤ 80) : MsgLt (tellM s r) :=
  ⟨by show (ofB r).length ≤ _; unfold ofB; split <;> simp; omega, fun u hu => Nat.le_trans (of_names u hu) (by decide), by simp, by simp, by simp⟩
open Go.RowKit
set_option maxRecDepth 100000
open Go.ChangeShapes Go.WideShapes Go.ChangeAt Go.Deep
theorem open_nmd_69 {H : Type} {enc : TypeId × Value → H} {W : World} : Opn enc Tryd.prog W 69 nmdC (fun x : Nmd => x.name.length ≤ 9223372036854775807) := fun fuel cs x h => by
 have ht : Tryd.prog.underlying 69 = some (.struct (Tryd.prog.fieldsOf 69)) := by kernel_rfl
 obtain ⟨a0, e0, k0⟩ := field_open (i := 0) (ty := 9) (o := 0) (k := 1) ht h (by kernel_rfl) (by kernel_rfl) (Opn.strL (by kernel_rfl))
 obtain ⟨a1, e1, k1⟩ := field_open (i := 1) (ty := 25) (o := 1) (k := 32) ht h (by kernel_rfl) (by kernel_rfl) (Opn.id (e := 5) (by kernel_rfl) (by kernel_rfl) (by kernel_rfl) (by kernel_rfl))
 have hl : cs.drop 33 = [] := List.drop_of_length_le (Nat.le_of_eq ((struct_len ht h).trans (by kernel_rfl)))
 refine ⟨⟨a0, a1⟩, ?_, k0⟩
 rw [show cs = cs.drop 0 from rfl]
 rw [e0]
 rw [show cs.drop (0 + 1) = _ from e1]
 rw [show cs.drop (1 + 32) = [] from hl]
 simp [nmdC]
instance : Inhabited Nmd := ⟨dNmd⟩
instance : Inhabited Ent := ⟨dEntry⟩
theorem open_upd_67 {H : Type} {enc : TypeId × Value → H} {W : World} : Opn enc Tryd.prog W 67 updC (fun x : Upd => True) := fun fuel cs x h => by
 have ht : Tryd.prog.underlying 67 = some (.struct (Tryd.prog.fieldsOf 67)) := by kernel_rfl
 obtain ⟨a0, e0, k0⟩ := field_open (i := 0) (ty := 5) (o := 0) (k := 1) ht h (by kernel_rfl) (by kernel_rfl) (Opn.u8 (by kernel_rfl))
 obtain ⟨a1, e1, k1⟩ := field_open (i := 1) (ty := 9) (o := 1) (k := 1) ht h (by kernel_rfl) (by kernel_rfl) (Opn.str (by kernel_rfl))
 obtain ⟨a2, e2, k2⟩ := field_open (i := 2) (ty := 25) (o := 2) (k := 32) ht h (by kernel_rfl) (by kernel_rfl) (Opn.id (e := 5) (by kernel_rfl) (by kernel_rfl) (by kernel_rfl) (by kernel_rfl))
 obtain ⟨a3, e3, k3⟩ := field_open (i := 3) (ty := 25) (o := 34) (k := 32) ht h (by kernel_rfl) (by kernel_rfl) (Opn.id (e := 5) (by kernel_rfl) (by kernel_rfl) (by kernel_rfl) (by kernel_rfl))
 have hl : cs.drop 66 = [] := List.drop_of_length_le (Nat.le_of_eq ((struct_len ht h).trans (by kernel_rfl)))
 refine ⟨⟨a0, a1, a2, a3⟩, ?_, trivial⟩
 rw [show cs = cs.drop 0 from rfl]
 rw [e0]
 rw [show cs.drop (0 + 1) = _ from e1]
 rw [show cs.drop (1 + 1) = _ from e2]
 rw [show cs.drop (2 + 32) = _ from e3]
 rw [show cs.drop (34 + 32) = [] from hl]
 simp [updC]
theorem open_ent_122 {H : Type} {enc : TypeId × Value → H} {W : World} : Opn enc Tryd.prog W 122 entC (fun _ : Ent => True) := fun fuel cs _ h => by
 have ht : Tryd.prog.underlying 122 = some (.struct (Tryd.prog.fieldsOf 122)) := by kernel_rfl
 obtain ⟨a0, e0, -⟩ := field_open (i := 0) (ty := 67) (o := 0) (k := 66) ht h (by kernel_rfl) (by kernel_rfl) (open_upd_67)
 obtain ⟨a1, e1, -⟩ := field_open (i := 1) (ty := 9) (o := 66) (k := 1) ht h (by kernel_rfl) (by kernel_rfl) (Opn.str (by kernel_rfl))
 have hl : cs.drop 67 = [] := List.drop_of_length_le (Nat.le_of_eq ((struct_len ht h).trans (by kernel_rfl)))
 refine ⟨⟨a0.kind, a0.name, a0.old, a0.new, a1⟩, ?_, trivial⟩
 rw [show cs = cs.drop 0 from rfl]
 rw [e0]
 rw [show cs.drop (0 + 66) = _ from e1]
 rw [show cs.drop (66 + 1) = [] from hl]
 simp [updC, entC]
theorem open_refs_49 {H : Type} {enc : TypeId × Value → H} {W : World} : Opn enc Tryd.prog W 49 refsC (fun x : RefsV => RG 33 nmdC W x.2.branches x.1.branches ∧ (∀ u ∈ x.1.branches, u.name.length ≤ 9223372036854775807) ∧ RG 33 nmdC W x.2.tags x.1.tags ∧ (∀ u ∈ x.1.tags, u.name.length ≤ 9223372036854775807) ∧ x.1.head.length ≤ 9223372036854775807 ∧ RG 67 entC W x.2.log x.1.log) := fun fuel cs x h => by
 have ht : Tryd.prog.underlying 49 = some (.struct (Tryd.prog.fieldsOf 49)) := by kernel_rfl
 obtain ⟨a0, e0, k0⟩ := field_open (i := 0) (ty := 46) (o := 0) (k := 1) ht h (by kernel_rfl) (by kernel_rfl) (Opn.slice (by kernel_rfl) (by kernel_rfl) (by decide) open_nmd_69 (fun a _ => nmd_len a))
 obtain ⟨a1, e1, k1⟩ := field_open (i := 1) (ty := 46) (o := 1) (k := 1) ht h (by kernel_rfl) (by kernel_rfl) (Opn.slice (by kernel_rfl) (by kernel_rfl) (by decide) open_nmd_69 (fun a _ => nmd_len a))
 obtain ⟨a2, e2, k2⟩ := field_open (i := 2) (ty := 9) (o := 2) (k := 1) ht h (by kernel_rfl) (by kernel_rfl) (Opn.strL (by kernel_rfl))
 obtain ⟨a3, e3, k3⟩ := field_open (i := 3) (ty := 25) (o := 3) (k := 32) ht h (by kernel_rfl) (by kernel_rfl) (Opn.id (e := 5) (by kernel_rfl) (by kernel_rfl) (by kernel_rfl) (by kernel_rfl))
 obtain ⟨a4, e4, k4⟩ := field_open (i := 4) (ty := 47) (o := 35) (k := 1) ht h (by kernel_rfl) (by kernel_rfl) (Opn.slice (by kernel_rfl) (by kernel_rfl) (by decide) open_ent_122 (fun a _ => ent_len a))
 have hl : cs.drop 36 = [] := List.drop_of_length_le (Nat.le_of_eq ((struct_len ht h).trans (by kernel_rfl)))
 refine ⟨(⟨a0.2, a1.2, a2, a3, a4.2⟩, ⟨a0.1, a1.1, a4.1⟩), ?_, ⟨k0.1, k0.2, k1.1, k1.2, k2, k4.1⟩⟩
 rw [show cs = cs.drop 0 from rfl]
 rw [e0]
 rw [show cs.drop (0 + 1) = _ from e1]
 rw [show cs.drop (1 + 1) = _ from e2]
 rw [show cs.drop (2 + 1) = _ from e3]
 rw [show cs.drop (3 + 32) = _ from e4]
 rw [show cs.drop (35 + 1) = [] from hl]
 simp [refsC]
theorem open_refs {H : Type} {enc : TypeId × Value → H} {W : World} {r : Reach} {b0 : Nat} {v : Value} {d : DataW H} {ps : List MemPlace} (hval : Value.okWide Tryd.prog W r b0 49 v) (hd : DataW.Trod enc Tryd.prog W 0 (fun _ => true) true 49 v d ps) :
  ∃ x : RefsV, v = .agg (refsC x).toArray ∧ RefsAt W x ∧ NamesLt x.1 ∧ ∀ p ∈ ps, p.block < W.heap.size := by
 obtain ⟨fuel, hf⟩ := hd
 have hlt := DataW.trod_lt fuel _ _ _ hf
 obtain ⟨cs, rfl, -⟩ := okWide_struct (fs := Tryd.prog.fieldsOf 49) (by kernel_rfl) hval
 obtain ⟨x, h1, h2, h3, h4, h5, h6, h7⟩ := open_refs_49 _ _ _ hf
 have h1 : cs.toList = refsC x := h1
 exact ⟨x, by rw [← h1], ⟨h2, h4, h7⟩, ⟨h3, h5, h6⟩, hlt⟩
theorem u16_of {a : Int} (h : (Lit.int .u16 a).wf = true) : ∃ s : Nat, a = (s : Int) ∧ s < 65536 := by
 have hb : 0 ≤ a ∧ a ≤ 65535 := by simpa [Lit.wf, IntKind.min, IntKind.max, IntKind.signed, IntKind.bits] using h
 exact ⟨a.toNat, by omega, by omega⟩
open Go.RowKit
set_option maxRecDepth 100000
theorem wr5_ty25 : Tryd.prog.underlying 25 = some (.array 32 5) := by kernel_rfl
theorem wr5_sz5 : ∀ w' : World, (sizeOf 5).run Tryd.prog w' = .ok 1 w' := fun _ => by kernel_rfl
theorem wr5_pl100 : Plain Tryd.prog 100 := fun _ _ => by kernel_rfl
theorem wr5_ty26 : Tryd.prog.underlying 26 = some (.slice 5) := by kernel_rfl
theorem wr5_inf5 : (Tryd.prog.info? 5).map (fun i => (i.zero, i.size, i.bytes)) = some (some (.int .u8 0), 1, 1) := by kernel_rfl
theorem wr5_pl48 : Plain Tryd.prog 48 := fun _ _ => by kernel_rfl
theorem wr5_isz26 : (Tryd.prog.info? 26).map (·.size) = some 1 := by kernel_rfl
theorem wr5_ty89 : Tryd.prog.underlying 89 = some (.func #[3] #[] false) := by kernel_rfl
theorem wr5_ty23 : Tryd.prog.underlying 23 = some (.slice 25) := by kernel_rfl
theorem wr5_pl47 : Plain Tryd.prog 47 := fun _ _ => by kernel_rfl
theorem wr5_szg25 : ∀ w' : World, (sizeOf 25).run Tryd.prog w' = .ok 32 w' := fun _ => by kernel_rfl
theorem wr5_isz25 : (Tryd.prog.info? 25).map (·.size) = some 32 := by kernel_rfl
theorem wr5_al25 {d : Option Tmp} {ty : TypeId} {pos : String} {af : Array Edge} {gd : Option (Nat × Bool)} (σ : Operand → Value) (w : World) : (execOp σ ⟨d, .alloc 25, ty, pos, af, gd⟩).run Tryd.prog w = .ok (.value (PQ w.heap.size 0)) (w.alloc (.cells (Lib.byteCells (List.replicate 32 0)).toArray 25)) := by kernel_rfl
set_option maxHeartbeats 1600000
theorem putId_any (w : World) (v : Value) (l : Bs) (hr : RB w v l) (hl : l.length + 64 ≤ 140737488355328) (id : Id32) :
  Calls Tryd.prog 51 #[v, AB id.1] w fun e w' => ∃ v', e = .returned v' ∧ NewB 5 w w' v' (l ++ id.1) := by
 refine calls_of_wpF (args := [v, AB id.1]) Tryd.func51 rfl 9 rfl (Nat.le_of_ble_eq_true rfl) ?_
 intro ρ0 hb
 have T0 : ρ0 0 = (v : Value) := hb.get 0
 have T1 : ρ0 1 = (AB id.1 : Value) := hb.get 1
 clear hb
 have hE := Ext.refl w
 refine sk fun K1 hK1 => (wt (oS rfl (Yk.box (cs := (Lib.byteCells id.1 : List Value).toArray) T1 fun n2 w3 hn4 hb5 hx6 hs7 => ?_)))
 have hE := hE.trans hx6
 have hb8 := hb5; clear hb5
 have hl9 : n2 < w3.heap.size := by omega
 refine oA rfl (oZ (tN (hK1 _ _ (sk fun K10 hK10 => ?_))))
 have hx11 : Ext w3 (World.drew w3) := (Below.refl _ _).drew
 have hE := hE.trans hx11
 have hb8 := eb hx11 hb8
 refine wpF_float [(2, 7, .slice (some ⟨n2, 0, none⟩) 32 32)] [0, 1, 3, 4] (fun wz => Ext w wz ∧ wz.heap[n2]? = some (.cells (Lib.byteCells id.1).toArray 25 (0, 0)) ∧ True) (by kernel_rfl) (by kernel_rfl) (by kernel_rfl) ⟨hE, hb8, trivial⟩ ⟨fun w12 ⟨hE, hb8, _⟩ => Yk.sliceArr wr5_ty25 wr5_sz5 (vr (PQ n2 0) rfl) ⟨rfl, rfl⟩, trivial⟩ (chF_step rfl (Yk.move T0 ?_))
 refine ⟨.inr ⟨hE, hb8, trivial⟩, ?_⟩
 refine chF_step rfl (Yk.callA1 wr5_pl100 (vr v rfl) ((own_any _ v (l) (hr.keep hE) (by omega)).mono ?_))
 rintro e w15 ⟨v13, rfl, hN14⟩
 refine ⟨_, rfl, ?_⟩
 have hA16 := Ext.refl (World.drew w3)
 have hea17 := hE
 have hz18 : w.heap.size ≤ (World.drew w3).heap.size := hE.size
 have hap19 : OB v13 n2 := own_older hN14.own (bl hb8)
 have hE := hE.trans hN14.ext
 have hb8 := eb hN14.ext hb8
 have hA16 := hA16.trans hN14.ext
 have ho20 := hN14.own; clear hN14
 refine ⟨.inr ⟨hE, hb8, trivial⟩, ?_⟩
 refine chF_step rfl (Yk.appendRB _ _ (World.drew w3).heap.size (.int .u8 0) wr5_ty26 wr5_inf5 rfl wr5_ty26 (l) (id.1) (own_of ho20 (vr v13 rfl)) (RB.of (RB.ofBlkN hb8 id.2 (by decide)) (vr (.slice (some ⟨n2, 0, none⟩) 32 32) rfl)) (by rw [id.2]; omega) hA16.size fun v21 w22 ho23 hg24 => ?_)
 have hg24 : Grew w15 w22 v13 v21 := hg24
 have hap25 : OB v21 n2 := apart_grew hg24 hap19 (bl hb8)
 have hE := ext_grew hE hg24 ho20 hz18
 have hb8 := blk_grew hb8 hg24 hap19
 have hA16 := ext_grew hA16 hg24 ho20 (Nat.le_refl _)
 clear ho20
 refine ⟨.inr ⟨hE, hb8, trivial⟩, ?_⟩
 refine chF_step rfl (Yk.assign (vr v21 rfl) ?_)
 refine ⟨.inl rfl, ?_⟩
 refine chF_nil (tN (hK10 _ _ (wpF_ret (postF_ret (fn := Tryd.f51) _ rfl [v21] (v21) rfl ⟨rfl, trivial⟩ ?_))))
 exact ⟨_, rfl, ⟨ownsRow_base ho23 (by omega), hE.grown⟩⟩

theorem enc1_any (w0 w : World) (hE0 : Ext w0 w) (gb : Nat) (hgb : w0.heap.size ≤ gb) (vb : Value) (l : Bs) (hb : w.heap[gb]? = some (.cells ([vb]).toArray 26 (0, 0))) (hr : RB w vb l) (hl : l.length + 64 ≤ 140737488355328) (z : Int) (hz0 : 0 ≤ z) (hz1 : z ≤ 9223372036854775807) :
  Calls Tryd.prog 47 #[.int .i64 z, PQ gb 0] w fun e w' => ∃ v', e = .returned (.tuple #[]) ∧ w'.heap[gb]? = some (.cells ([v']).toArray 26 (0, 0)) ∧ w'.ownsRow w.heap.size 5 1 v' (l ++ Lib.uvarint z.toNat).length (Lib.byteCells (l ++ Lib.uvarint z.toNat)) ∧ w.grownBy w' (some gb) := by
 obtain ⟨n, rfl⟩ := Int.eq_ofNat_of_zero_le hz0
 have hgl := (bl hb)
 have hgr := World.grownBy.refl w (some gb)
 refine calls_of_wpF (args := [NI n, PQ gb 0]) Tryd.func47 rfl 9 rfl (Nat.le_of_ble_eq_true rfl) ?_
 intro ρ0 hb
 have T0 : ρ0 0 = (NI n : Value) := hb.get 0
 have T1 : ρ0 1 = (PQ gb 0 : Value) := hb.get 1
 clear hb
 have hE := Ext.refl w
 refine wt (oS rfl (Yk.cell1 wr5_ty26 rfl T1 (cellAt hb (show _ = some (vb : Value) from rfl)) (oM rfl (oS rfl (Yk.callA2 wr5_pl48 (vr vb rfl) T0 ((put_any _ vb (l) (hr.keep hE) (by omega) n (by omega)).mono ?_))))))
 rintro e w3 ⟨v1, rfl, hN2⟩
 refine ⟨_, rfl, ?_⟩
 have hA4 := Ext.refl w
 have hea5 := hE
 have hea6 := hE0
 have hz7 := hE.size
 have hz8 := hE0.size
 have hap9 : OB v1 gb := own_older hN2.own (bl hb)
 have hb := eb hN2.ext hb
 have hgr : w.grownBy w3 (some gb) := grownBy_trans hgr hN2.ext.grown (fun _ e => by cases e)
 have hE := hE.trans hN2.ext
 have hE0 := hE0.trans hN2.ext
 have hA4 := hA4.trans hN2.ext
 have ho10 := hN2.own; clear hN2
 refine oM rfl (oS rfl (Yk.extract (vs := [v1, NI 0]) (vr (.tuple #[v1, NI 0]) rfl) (show _ = some (v1 : Value) from rfl) (oS rfl (Yk.extract (vs := [v1, NI 0]) (vr (.tuple #[v1, NI 0]) rfl) (show _ = some (NI 0 : Value) from rfl) (oS rfl (Yk.storeC (i := 0) (v := v1) T1 (vr v1 rfl) hb (Nat.le_of_ble_eq_true rfl) wr5_isz26 (own_one ho10).1 (own_one ho10).2 fun w11 hb12 hg13 hs14 => ?_))))))
 clear hb
 have hgr : w.grownBy w11 (some gb) := grownBy_trans hgr hg13 (fun _ e => .inl e)
 clear hE
 have hE0 := row_fresh hE0 hg13 (Nat.le_trans (Nat.le_refl _) (by omega))
 clear hA4
 have ho10 := own_kept ho10 hg13 hap9
 have hb := hb12; clear hb12
 have hl15 := bl hb
 refine oZ (postF_end (fn := Tryd.f47) [] rfl [] (.tuple #[]) rfl trivial ?_)
 exact ⟨_, rfl, hb, ownsRow_base ho10 (by omega), hgr⟩

theorem enc2_any (w0 w : World) (hE0 : Ext w0 w) (gb gn : Nat) (hgb : w0.heap.size ≤ gb) (hgn : w0.heap.size ≤ gn) (hne : gn ≠ gb) (vb : Value) (l : Bs) (hb : w.heap[gb]? = some (.cells ([vb]).toArray 26 (0, 0))) (hr : RB w vb l) (hn : w.heap[gn]? = some (.cells ([.func (.func 47) #[] #[PQ gb 0]]).toArray 89 (0, 0))) (v : Value) (ids : List Bs) (hq : RG 32 Lib.byteCells w0 v ids) (hil : ids.length ≤ 65536) (hl : l.length ≤ 34359738368) :
  Calls Tryd.prog 49 #[v, PQ gn 0, PQ gb 0] w fun e w' => ∃ v', e = .returned (.tuple #[]) ∧ w'.heap[gb]? = some (.cells ([v']).toArray 26 (0, 0)) ∧ w'.ownsRow w.heap.size 5 1 v' (l ++ idsB ids).length (Lib.byteCells (l ++ idsB ids)) ∧ OB v' gb ∧ w.grownBy w' (some gb) := by
 have hgl := (bl hb)
 have hgnl := (bl hn)
 have huv := uvarint_len9 (n := ids.length) (by omega)
 have hsz0 := hE0.size
 have hgr := World.grownBy.refl w (some gb)
 refine calls_of_wpF (args := [v, PQ gn 0, PQ gb 0]) Tryd.func49 rfl 20 rfl (Nat.le_of_ble_eq_true rfl) ?_
 intro ρ0 hb
 have T0 : ρ0 0 = (v : Value) := hb.get 0
 have T1 : ρ0 1 = (PQ gn 0 : Value) := hb.get 1
 have T2 : ρ0 2 = (PQ gb 0 : Value) := hb.get 2
 clear hb
 have hE := Ext.refl w
 refine sk fun K1 hK1 => (wt (oS rfl (Yk.cell1 wr5_ty89 rfl T1 (cellAt hn (show _ = some (.func (.func 47) #[] #[PQ gb 0] : Value) from rfl)) (oM rfl (oS rfl (Yk.lenRG wr5_ty23 (RG.of (hq.keep hE0) T0) (oS rfl (Yk.clo wr5_pl47 (caps := #[PQ gb 0]) (vr (.func (.func 47) #[] #[PQ gb 0]) rfl) #[NI ids.length, PQ gb 0] (by simp only [List.map_toArray, List.map_cons, List.map_nil, List.append_toArray, List.cons_append, List.nil_append]; exact congrArg List.toArray (list2 (vr (NI ids.length) rfl) rfl)) ((enc1_any w0 _ hE0 gb hgb vb (l) hb (hr.keep hE) (by simp only [List.length_append] at *; omega) ((ids.length : Nat) : Int) (by omega) (by omega)).mono ?_)))))))))
 rintro e w6 ⟨v2, rfl, hb3, ho4, hg5⟩
 refine ⟨_, rfl, ?_⟩
 have hap7 : OB v2 gb := own_older ho4 (bl hb)
 have hap8 : OB v2 gn := own_older ho4 (bl hn)
 have ho4 := ownsRow_base ho4 hgr.size
 clear hb
 have hgr : w.grownBy w6 (some gb) := grownBy_trans hgr hg5 (fun _ e => .inl e)
 have hn := kb hg5 hn (by omega)
 clear hE
 have hE0 := row_fresh hE0 hg5 (Nat.le_trans (Nat.le_refl _) (by omega))
 have hb := hb3; clear hb3
 have hl9 := bl hb
 refine oZ (tN (hK1 _ _ (sk fun K10 hK10 => (wt (oM rfl (oS rfl (Yk.lenRG wr5_ty23 (RG.of (hq.keep hE0) T0) (oM rfl (oL_ [(0, v), (1, PQ gn 0), (2, PQ gb 0), (10, v), (11, NI ids.length), (12, NI 0)] ⟨T0, T1, T2, T0, rfl, rfl, trivial⟩ fun ρ11 ⟨T0, T1, T2, T10, T11, T12, _⟩ => (tN (hK10 _ _ (wpF_block (wpF_loop (fun (ρ : Slots) (wz : World) => ∃ i : Nat, ∃ vb1 : Value, ρ 0 = (v : Value) ∧ ρ 1 = (PQ gn 0 : Value) ∧ ρ 2 = (PQ gb 0 : Value) ∧ ρ 10 = (v : Value) ∧ ρ 11 = (NI ids.length : Value) ∧ ρ 12 = (NI i : Value) ∧ w.grownBy wz (some gb) ∧ wz.heap[gn]? = some (.cells ([.func (.func 47) #[] #[PQ gb 0]]).toArray 89 (0, 0)) ∧ Ext w0 wz ∧ wz.heap[gb]? = some (.cells ([vb1]).toArray 26 (0, 0)) ∧ wz.ownsRow w.heap.size 5 1 vb1 (l ++ Lib.uvarint ids.length ++ (ids.take i).flatMap fun x => x : List UInt8).length (Lib.byteCells (l ++ Lib.uvarint ids.length ++ (ids.take i).flatMap fun x => x)) ∧ (i ≤ ids.length) ∧ (OB vb1 gb) ∧ (OB vb1 gn) ∧ True) (fun ρ _ => ids.length - (intOf (ρ 12)).toNat) ⟨0, v2, T0, T1, T2, T10, T11, T12, hgr, hn, hE0, hb, own_eq ho4 (by simp), Nat.zero_le _, hap7, hap8, trivial⟩ ?_)))))))))))))
 clear hb
 clear ho4
 clear hgr hn hE0
 rintro ρ12 w13 ⟨i, vb1, T0, T1, T2, T10, T11, T12, hgr, hn, hE0, hb1, ho1, hi, hap1, hap2, -⟩
 have q12 := T12
 have hgl := (bl hb1)
 refine sk fun K14 hK14 => (wt (oS rfl (Yk.eqI (a := (i : Nat)) (b := (ids.length : Nat)) T12 T11 (k_lss _ _ _ _) (oZ (tN (hK14 _ _ (sk fun K15 hK15 => ?_)))))))
 refine wpF_cond ((i) < (ids.length)) (vr (.bool (decide ((i) < (ids.length)))) rfl) (fun hc0 => ?_) (fun hc0 => ?_)
 ·have hlt : i < ids.length := hc0
  have hel : (ids.getD i []).length = 32 := bytes_len32 (RG.elem (hq.keep hE0) [] hlt)
  have hLl := flat_take_len (RG.lens hq) i (by omega)
  refine wpF_skip (tN (hK15 _ _ (sk fun K16 hK16 => (wpF_block (sk fun K17 hK17 => (wt ?_))))))
  have hl20 : (Lib.byteCells (ids.getD (i) ([] : List UInt8))).length = 32 := (RG.elem (hq.keep hE0) ([] : List UInt8) (by omega))
  refine oS rfl (Yk.atRG wr5_ty23 wr5_szg25 (by decide) ([] : List UInt8) (RG.of (hq.keep hE0) T10) T12 (by omega) fun v18 hp19 => (oS rfl (Yk.loadPR (PR.of hp19 (vr v18 rfl)) wr5_ty25 rfl (by rw [hl20]; exact wr5_isz25) (oS rfl (Yk.alloc (cs := (Lib.byteCells (List.replicate 32 0)).toArray) wr5_al25 fun n21 w22 hn23 hb24 hx25 hs26 => ?_)))))
  have hA27 := Ext.refl w13
  have hea28 := hgr
  have hea29 := hE0
  have hz30 := hgr.size
  have hz31 := hE0.size
  have hlt32 := lte (bl hn) hn23
  have hlt33 := lte (bl hb1) hn23
  have hap34 : OB vb1 n21 := own_newer ho1 (by omega)
  have hgr : w.grownBy w22 (some gb) := grownBy_trans hgr hx25.grown (fun _ e => by cases e)
  have hn := eb hx25 hn
  have hE0 := hE0.trans hx25
  have hb1 := eb hx25 hb1
  have ho1 := Stab.own _ _ _ _ _ _ _ _ ho1 hx25
  have hA27 := hA27.trans hx25
  have hb35 := hb24; clear hb24
  have hl36 : n21 < w22.heap.size := by omega
  refine oS rfl (Yk.storeAll (vr (PQ n21 0) rfl) (vr (AB (ids.getD (i) ([] : List UInt8))) rfl) hb35 (by exact idsize (bytes_len32 (hl20)) List.length_replicate) (by exact sizeId_of (bytes_len32 (hl20))) (byteCells_one _) fun w37 hb38 hg39 hs40 => ?_)
  have hgr : w.grownBy w37 (some gb) := grownBy_trans hgr hg39 (fun _ e => .inr (by cases e; omega))
  have hn := kb hg39 hn (by omega)
  have hE0 := row_fresh hE0 hg39 (Nat.le_trans hz31 (by omega))
  have hb1 := kb hg39 hb1 (by omega)
  have ho1 := own_kept ho1 hg39 hap34
  have hA27 := row_fresh hA27 hg39 (Nat.le_trans (Nat.le_refl _) (by omega))
  clear hb35
  have hb35 := hb38; clear hb38
  have hl41 := bl hb35
  refine oZ ?_
  clear hp19
  refine tN (hK17 _ _ ?_)
  have hx42 : Ext w37 (World.drew w37) := (Below.refl _ _).drew
  have hgr : w.grownBy (World.drew w37) (some gb) := grownBy_trans hgr hx42.grown (fun _ e => by cases e)
  have hn := eb hx42 hn
  have hE0 := hE0.trans hx42
  have hb1 := eb hx42 hb1
  have ho1 := Stab.own _ _ _ _ _ _ _ _ ho1 hx42
  have hA27 := hA27.trans hx42
  have hb35 := eb hx42 hb35
  refine wpF_float [(1, 17, .slice (some ⟨n21, 0, none⟩) 32 32)] [0, 2, 3] (fun wz => wz.heap[gn]? = some (.cells ([.func (.func 47) #[] #[PQ gb 0]]).toArray 89 (0, 0)) ∧ Ext w0 wz ∧ wz.heap[gb]? = some (.cells ([vb1]).toArray 26 (0, 0)) ∧ wz.heap[n21]? = some (.cells (Lib.byteCells (ids.getD (i) ([] : List UInt8))).toArray 25 (0, 0)) ∧ True) (by kernel_rfl) (by kernel_rfl) (by kernel_rfl) ⟨hn, hE0, hb1, hb35, trivial⟩ ⟨fun w43 ⟨hn, hE0, hb1, hb35, _⟩ => Yk.sliceArr wr5_ty25 wr5_sz5 (vr (PQ n21 0) rfl) ⟨rfl, rfl⟩, trivial⟩ (chF_step rfl (Yk.cell1 wr5_ty26 rfl T2 (cellAt hb1 (show _ = some (vb1 : Value) from rfl)) ?_))
  refine ⟨.inr ⟨hn, hE0, hb1, hb35, trivial⟩, ?_⟩
  refine chF_step rfl (Yk.appendRB _ _ w.heap.size (.int .u8 0) wr5_ty26 wr5_inf5 rfl wr5_ty26 (l ++ Lib.uvarint ids.length ++ (ids.take i).flatMap fun x => x) (ids.getD (i) ([] : List UInt8)) (own_of ho1 (vr vb1 rfl)) (RB.of (RB.ofBlkN hb35 (bytes_len32 (hl20)) (by decide)) (vr (.slice (some ⟨n21, 0, none⟩) 32 32) rfl)) (by simp only [List.length_append, hel]; omega) hgr.size fun v44 w45 ho46 hg47 => ?_)
  have hg47 : Grew (World.drew w37) w45 vb1 v44 := hg47
  have hap48 : OB v44 gb := apart_grew hg47 hap1 (bl hb1)
  have hap49 : OB v44 gn := apart_grew hg47 hap2 (bl hn)
  have hap50 : OB v44 n21 := apart_grew hg47 hap34 (bl hb35)
  have hgr : w.grownBy w45 (some gb) := grownBy_trans hgr hg47.by_ (fun _ e => .inr (ho1.lt _ e).1)
  have hn := blk_grew hn hg47 hap2
  have hE0 := ext_grew hE0 hg47 ho1 hsz0
  have hb1 := blk_grew hb1 hg47 hap1
  clear ho1
  clear hA27
  have hb35 := blk_grew hb35 hg47 hap34
  refine ⟨.inr ⟨hn, hE0, hb1, hb35, trivial⟩, ?_⟩
  refine chF_step rfl (Yk.storeC (i := 0) (v := v44) T2 (vr v44 rfl) hb1 (Nat.le_of_ble_eq_true rfl) wr5_isz26 (own_one ho46).1 (own_one ho46).2 fun w51 hb52 hg53 hs54 => ?_)
  have hgr : w.grownBy w51 (some gb) := grownBy_trans hgr hg53 (fun _ e => .inl e)
  have hn := kb hg53 hn (by omega)
  have hE0 := row_fresh hE0 hg53 (Nat.le_trans (Nat.le_refl _) (by omega))
  clear hb1
  have hb35 := kb hg53 hb35 (by omega)
  have ho46 := own_kept ho46 hg53 hap48
  have hb1 := hb52; clear hb52
  have hl55 := bl hb1
  refine ⟨.inl rfl, ?_⟩
  refine chF_nil (bN (tN (hK16 _ _ (wt (oS rfl (Yk.bin (xv := NI i) (yv := NI 1) T12 rfl rfl (i64_add _ _ _ (by omega)) (oM rfl (oL_ [(0, v), (1, PQ gn 0), (2, PQ gb 0), (5, PQ n21 0), (10, v), (11, NI ids.length), (12, NI ((i) + (1)))] ⟨T0, T1, T2, rfl, T10, T11, rfl, trivial⟩ fun ρ56 ⟨T0, T1, T2, T5, T10, T11, T12, _⟩ => (tN (And.intro ⟨i + 1, v44, T0, T1, T2, T10, T11, T12, hgr, hn, hE0, hb1, own_eq ho46 (by rw [flat_snoc hlt]; simp only [List.append_assoc]), by omega, hap48, hap49, trivial⟩ ?_))))))))))
  show ids.length - (intOf (ρ56 12)).toNat < ids.length - (intOf (ρ12 12)).toNat
  rw [T12, q12]
  simp only [intOf, Int.toNat_natCast]; omega
 refine wpF_exit (thenF_exit (thenF_exit (inBlockF_hit (postF_end (fn := Tryd.f49) [] rfl [] (.tuple #[]) rfl trivial ?_))))
 refine ⟨_, rfl, hb1, ?_, hap1, hgr⟩
 have hie : i = ids.length := by omega
 rw [hie, List.take_length] at ho1
 exact own_eq ho1 (by unfold idsB; simp only [List.append_assoc])
end Go.Proofs.YtmonlobfofkbdaaDoor
