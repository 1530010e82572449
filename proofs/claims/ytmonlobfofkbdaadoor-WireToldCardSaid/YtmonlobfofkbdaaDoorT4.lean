/- Part 4 of what stands behind these statements: laws and walks of the functions that are reached. Conditions: those that each theorem names. -/
import Derived.Test.YtmonlobfofkbdaaDoorT3
set_option linter.unusedVariables false
set_option linter.unusedSimpArgs false
namespace Go.Proofs.YtmonlobfofkbdaaDoor
open Go.RowKit
set_option maxRecDepth 100000
theorem textB_le {s : Bs} (h : s.length ≤ 4611686018427387904) : (textB s).length ≤ s.length + 9 := by
 have := uvarint_len9 (n := s.length) (by omega)
 unfold textB; rw [List.length_append]; omega
theorem wr6_ty29 : ∃ fs, Tryd.prog.underlying 29 = some (.struct fs) := struct_of (by kernel_rfl)
theorem wr6_isz29 : (Tryd.prog.info? 29).map (·.size) = some 107 := by kernel_rfl
theorem wr6_pl19 : Plain Tryd.prog 19 := fun _ _ => by kernel_rfl
theorem wr6_fo29_0 : FieldOff Tryd.prog 29 0 0 := fun b o w => by simp [go_sem]
theorem wr6_ty5 : Tryd.prog.underlying 5 = some (.int .u8) := by kernel_rfl
theorem wr6_l1_26 (z : Int) (w : World) : (Instr.buildSlice 26 1 #[(0, .int .u8 z)]).run Tryd.prog w = .ok (.slice (some ⟨w.heap.size, 0, none⟩) 1 1) (w.alloc (.cells #[.int .u8 z] 5)) := by kernel_rfl
theorem wr6_al26 {d : Option Tmp} {ty : TypeId} {pos : String} {af : Array Edge} {gd : Option (Nat × Bool)} (σ : Operand → Value) (w : World) : (execOp σ ⟨d, .alloc 26, ty, pos, af, gd⟩).run Tryd.prog w = .ok (.value (PQ w.heap.size 0)) (w.alloc (.cells ([(Value.slice none 0 0)]).toArray 26)) := by kernel_rfl
theorem wr6_isz26 : (Tryd.prog.info? 26).map (·.size) = some 1 := by kernel_rfl
theorem wr6_al89 {d : Option Tmp} {ty : TypeId} {pos : String} {af : Array Edge} {gd : Option (Nat × Bool)} (σ : Operand → Value) (w : World) : (execOp σ ⟨d, .alloc 89, ty, pos, af, gd⟩).run Tryd.prog w = .ok (.value (PQ w.heap.size 0)) (w.alloc (.cells ([Value.nilFunc]).toArray 89)) := by kernel_rfl
theorem wr6_isz89 : (Tryd.prog.info? 89).map (·.size) = some 1 := by kernel_rfl
theorem wr6_ty89 : Tryd.prog.underlying 89 = some (.func #[3] #[] false) := by kernel_rfl
theorem wr6_fo29_1 : FieldOff Tryd.prog 29 1 1 := fun b o w => by simp [go_sem]
theorem wr6_ty3 : Tryd.prog.underlying 3 = some (.int .i64) := by kernel_rfl
theorem wr6_pl47 : Plain Tryd.prog 47 := fun _ _ => by kernel_rfl
theorem wr6_pl50 : Plain Tryd.prog 50 := fun _ _ => by kernel_rfl
theorem wr6_ty93 : Tryd.prog.underlying 93 = some (.map 5 92) := by kernel_rfl
theorem wr6_al92 {d : Option Tmp} {ty : TypeId} {pos : String} {af : Array Edge} {gd : Option (Nat × Bool)} (σ : Operand → Value) (w : World) : (execOp σ ⟨d, .alloc 92, ty, pos, af, gd⟩).run Tryd.prog w = .ok (.value (PQ w.heap.size 0)) (w.alloc (.cells (partsC (⟨false, false, false, false, false, false, false, false⟩ : Parts)).toArray 92)) := by kernel_rfl
theorem wr6_isz92 : (Tryd.prog.info? 92).map (·.size) = some 8 := by kernel_rfl
theorem wr6_fo92_0 : FieldOff Tryd.prog 92 0 0 := fun b o w => by simp [go_sem]
theorem wr6_ty4 : Tryd.prog.underlying 4 = some (.bool) := by kernel_rfl
theorem wr6_fo92_1 : FieldOff Tryd.prog 92 1 1 := fun b o w => by simp [go_sem]
theorem wr6_fo92_2 : FieldOff Tryd.prog 92 2 2 := fun b o w => by simp [go_sem]
theorem wr6_fo92_3 : FieldOff Tryd.prog 92 3 3 := fun b o w => by simp [go_sem]
theorem wr6_fo92_4 : FieldOff Tryd.prog 92 4 4 := fun b o w => by simp [go_sem]
theorem wr6_fo92_5 : FieldOff Tryd.prog 92 5 5 := fun b o w => by simp [go_sem]
theorem wr6_fo92_6 : FieldOff Tryd.prog 92 6 6 := fun b o w => by simp [go_sem]
theorem wr6_fo92_7 : FieldOff Tryd.prog 92 7 7 := fun b o w => by simp [go_sem]
theorem wr6_ty26 : Tryd.prog.underlying 26 = some (.slice 5) := by kernel_rfl
theorem wr6_fo29_2 : FieldOff Tryd.prog 29 2 2 := fun b o w => by simp [go_sem]
theorem wr6_ty22 : Tryd.prog.underlying 22 = some (.slice 67) := by kernel_rfl
theorem wr6_szg67 : ∀ w' : World, (sizeOf 67).run Tryd.prog w' = .ok 66 w' := fun _ => by kernel_rfl
theorem wr6_ty67 : ∃ fs, Tryd.prog.underlying 67 = some (.struct fs) := struct_of (by kernel_rfl)
theorem wr6_isz67 : (Tryd.prog.info? 67).map (·.size) = some 66 := by kernel_rfl
theorem wr6_al67 {d : Option Tmp} {ty : TypeId} {pos : String} {af : Array Edge} {gd : Option (Nat × Bool)} (σ : Operand → Value) (w : World) : (execOp σ ⟨d, .alloc 67, ty, pos, af, gd⟩).run Tryd.prog w = .ok (.value (PQ w.heap.size 0)) (w.alloc (.cells (updC (⟨0, [], zid, zid⟩ : Upd)).toArray 67)) := by kernel_rfl
theorem wr6_fo67_1 : FieldOff Tryd.prog 67 1 1 := fun b o w => by simp [go_sem]
theorem wr6_ty9 : Tryd.prog.underlying 9 = some (.string) := by kernel_rfl
theorem wr6_fo67_3 : FieldOff Tryd.prog 67 3 34 := fun b o w => by simp [go_sem]
theorem wr6_ty25 : Tryd.prog.underlying 25 = some (.array 32 5) := by kernel_rfl
theorem wr6_fo67_0 : FieldOff Tryd.prog 67 0 0 := fun b o w => by simp [go_sem]
theorem wr6_inf5 : (Tryd.prog.info? 5).map (fun i => (i.zero, i.size, i.bytes)) = some (some (.int .u8 0), 1, 1) := by kernel_rfl
theorem wr6_pl52 : Plain Tryd.prog 52 := fun _ _ => by kernel_rfl
theorem wr6_pl51 : Plain Tryd.prog 51 := fun _ _ => by kernel_rfl
theorem wr6_fo29_3 : FieldOff Tryd.prog 29 3 3 := fun b o w => by simp [go_sem]
theorem wr6_ty23 : Tryd.prog.underlying 23 = some (.slice 25) := by kernel_rfl
theorem wr6_pl49 : Plain Tryd.prog 49 := fun _ _ => by kernel_rfl
theorem wr6_fo29_4 : FieldOff Tryd.prog 29 4 4 := fun b o w => by simp [go_sem]
theorem wr6_fo29_5 : FieldOff Tryd.prog 29 5 5 := fun b o w => by simp [go_sem]
theorem wr6_fo29_7 : FieldOff Tryd.prog 29 7 7 := fun b o w => by simp [go_sem]
theorem wr6_fo29_6 : FieldOff Tryd.prog 29 6 6 := fun b o w => by simp [go_sem]
theorem wr6_fo29_8 : FieldOff Tryd.prog 29 8 39 := fun b o w => by simp [go_sem]
theorem wr6_fo29_10 : FieldOff Tryd.prog 29 10 41 := fun b o w => by simp [go_sem]
theorem wr6_fo29_11 : FieldOff Tryd.prog 29 11 73 := fun b o w => by simp [go_sem]
theorem wr6_fo29_9 : FieldOff Tryd.prog 29 9 40 := fun b o w => by simp [go_sem]
theorem wr6_fo29_12 : FieldOff Tryd.prog 29 12 105 := fun b o w => by simp [go_sem]
theorem wr6_fo29_13 : FieldOff Tryd.prog 29 13 106 := fun b o w => by simp [go_sem]
theorem wr6_ty27 : Tryd.prog.underlying 27 = some (.int .i64) := by kernel_rfl
set_option maxHeartbeats 3200000
theorem encode_any (w : World) (x : MsgV) (hm : MsgAt w x) (hL : MsgLt x.1) :
  Calls Tryd.prog 16 #[.agg (msgC x).toArray] w fun e w' => ∃ v, e = .returned (.tuple #[v, NI (if rightB x.1 = true then 0 else 1)]) ∧ RB w' v (if rightB x.1 = true then encB x.1 else []) ∧ Ext w w' := by
 have hmr := hm.refs
 have hmw := hm.wants
 have hmh := hm.haves
 have hmb := hm.bytes
 refine calls_of_wpF (args := [.agg (msgC x).toArray]) Tryd.func16 rfl 113 rfl (Nat.le_of_ble_eq_true rfl) ?_
 intro ρ0 hb
 have T0 : ρ0 0 = (.agg (msgC x).toArray : Value) := hb.get 0
 clear hb
 have hE := Ext.refl w
 refine sk fun K1 hK1 => (wt (oS rfl (Yk.box (cs := (msgC x : List Value).toArray) T0 fun n2 w3 hn4 hb5 hx6 hs7 => ?_)))
 have hE := hE.trans hx6
 have hb8 := hb5; clear hb5
 have hl9 : n2 < w3.heap.size := by omega
 refine oA rfl (oA rfl (oZ (tN (hK1 _ _ (sk fun K10 hK10 => (sk fun K11 hK11 => (wt (oS rfl (Yk.loadAll (vr (PQ n2 0) rfl) hb8 (wr6_ty29).choose_spec rfl (st_isz (msg_len x) wr6_isz29) (oS rfl (Yk.callA1 wr6_pl19 (vr (.agg (msgC x).toArray) rfl) ((right_any _ x (MsgAt.mk (hmr.keep hE) (hmw.keep hE) (hmh.keep hE) (hmb.keep hE)) hL).mono ?_))))))))))))
 rintro e w13 ⟨rfl, hx12⟩
 refine ⟨_, rfl, ?_⟩
 have hE := hE.trans hx12
 have hb8 := eb hx12 hb8
 refine oS rfl (Yk.notB (vr (.bool (rightB x.1)) rfl) (oZ (tN (hK11 _ _ ?_))))
 refine wpF_condB (!(rightB x.1)) (vr (.bool (!(rightB x.1))) rfl) (fun hc0 => ?_) (fun hc0 => ?_)
 ·refine sk fun K14 hK14 => (wt (oA rfl (oA rfl (oZ (tN (hK14 _ _ (wpF_ret (thenF_ret (postF_ret (fn := Tryd.f16) _ rfl [(Value.slice none 0 0), NI 1] (.tuple #[(Value.slice none 0 0), NI 1]) rfl ⟨rfl, rfl, trivial⟩ ?_)))))))))
  have hR : rightB x.1 = false := not_e hc0
  exact ⟨.slice none 0 0, by rw [hR]; rfl, by rw [hR]; exact RB.nil _, hE⟩
 have hR : rightB x.1 = true := not_f hc0
 obtain ⟨p, hK, hP⟩ := rightB_get hR
 have hF := rightP_facts hP
 obtain ⟨hs0, hs1⟩ := hF.session
 obtain ⟨hz0, hz1⟩ := hF.size
 obtain ⟨ha0, ha1⟩ := hF.at_
 obtain ⟨hd0, hd1⟩ := hF.code
 obtain ⟨hr1, hr2⟩ := hF.refs
 have hw1 := hF.wants
 have hh1 := hF.haves
 have hb1 := hF.bytes
 have hn1 := hF.name
 have hdl : x.1.id.1.length = 32 := x.1.id.2
 have hol : x.1.old.1.length = 32 := x.1.old.2
 have hnl2 : x.1.new.1.length = 32 := x.1.new.2
 have hu1 := uvarint_len9 (n := x.1.session.toNat) (by omega)
 have hu2 := uvarint_len9 (n := x.1.size.toNat) (by omega)
 have hu3 := uvarint_len9 (n := x.1.at_.toNat) (by omega)
 have hu4 := uvarint_len9 (n := x.1.code.toNat) (by omega)
 have hu5 := uvarint_len9 (n := x.1.refs.length) (by omega)
 rcases kindsG_cases hK with ⟨hk, rfl⟩ | ⟨hk, rfl⟩ | ⟨hk, rfl⟩ | ⟨hk, rfl⟩ | ⟨hk, rfl⟩ | ⟨hk, rfl⟩ | ⟨hk, rfl⟩ | ⟨hk, rfl⟩
 ·refine wpF_skip (tN (hK10 _ _ (sk fun K15 hK15 => (wt (oS rfl (Yk.fieldAt wr6_fo29_0 (vr (PQ n2 0) rfl) (oS rfl (Yk.cell1 wr6_ty5 rfl (vr (PQ n2 0) rfl) (cellAt hb8 (show (msgC x)[0]? = some (B8 (x.1.kind) : Value) from msg_g0 x)) (oS rfl (Yk.lit1 (b := x.1.kind) wr6_l1_26 (vr (B8 (x.1.kind)) rfl) fun v16 w17 hN18 => ?_))))))))))
  have hA19 := Ext.refl w13
  have hea20 := hE
  have hz21 := hE.size
  have hap22 : OB v16 n2 := own_older hN18.own (bl hb8)
  have hE := hE.trans hN18.ext
  have hb8 := eb hN18.ext hb8
  have hA19 := hA19.trans hN18.ext
  have ho23 := hN18.own; clear hN18
  refine oS rfl (Yk.alloc (cs := ([(Value.slice none 0 0)]).toArray) wr6_al26 fun n24 w25 hn26 hb27 hx28 hs29 => ?_)
  have hA30 := Ext.refl w17
  have hea31 := hE
  have hea32 := hA19
  have hz33 := hE.size
  have hz34 := hA19.size
  have hlt35 := lte (bl hb8) hn26
  have hap36 : OB v16 n24 := own_newer ho23 (by omega)
  have hE := hE.trans hx28
  have hb8 := eb hx28 hb8
  have hA19 := hA19.trans hx28
  have ho23 := Stab.own _ _ _ _ _ _ _ _ ho23 hx28
  have hA30 := hA30.trans hx28
  have hb37 := hb27; clear hb27
  have hl38 : n24 < w25.heap.size := by omega
  refine oS rfl (Yk.storeC (i := 0) (v := v16) (vr (PQ n24 0) rfl) (vr v16 rfl) hb37 (Nat.le_of_ble_eq_true rfl) wr6_isz26 (own_one ho23).1 (own_one ho23).2 fun w39 hb40 hg41 hs42 => ?_)
  have hE := row_fresh hE hg41 (Nat.le_trans hz33 (by omega))
  have hb8 := kb hg41 hb8 (by omega)
  have hA19 := row_fresh hA19 hg41 (Nat.le_trans hz34 (by omega))
  have ho23 := own_kept ho23 hg41 hap36
  have hA30 := row_fresh hA30 hg41 (Nat.le_trans (Nat.le_refl _) (by omega))
  clear hb37
  have hb37 := hb40; clear hb40
  have hl43 := bl hb37
  refine oZ (tN (hK15 _ _ (sk fun K44 hK44 => (wt (oS rfl (Yk.mkFunc (vs := #[PQ n24 0]) (by simp only [List.map_toArray, List.map_cons, List.map_nil]; exact congrArg List.toArray (list1 (vr (PQ n24 0) rfl))) (oS rfl (Yk.alloc (cs := ([Value.nilFunc]).toArray) wr6_al89 fun n45 w46 hn47 hb48 hx49 hs50 => ?_))))))))
  have hA51 := Ext.refl w39
  have hea52 := hE
  have hea53 := hA19
  have hea54 := hA30
  have hz55 := hE.size
  have hz56 := hA19.size
  have hz57 := hA30.size
  have hlt58 := lte (bl hb8) hn47
  have hlt59 := lte (bl hb37) hn47
  have hap60 : OB v16 n45 := own_newer ho23 (by omega)
  have hE := hE.trans hx49
  have hb8 := eb hx49 hb8
  have hA19 := hA19.trans hx49
  have ho23 := Stab.own _ _ _ _ _ _ _ _ ho23 hx49
  have hA30 := hA30.trans hx49
  have hb37 := eb hx49 hb37
  have hA51 := hA51.trans hx49
  have hb61 := hb48; clear hb48
  have hl62 : n45 < w46.heap.size := by omega
  refine oS rfl (Yk.storeC (i := 0) (v := .func (.func 47) #[] #[PQ n24 0]) (vr (PQ n45 0) rfl) (vr (.func (.func 47) #[] #[PQ n24 0]) rfl) hb61 (Nat.le_of_ble_eq_true rfl) wr6_isz89 rfl rfl fun w63 hb64 hg65 hs66 => ?_)
  have hE := row_fresh hE hg65 (Nat.le_trans hz55 (by omega))
  have hb8 := kb hg65 hb8 (by omega)
  have hA19 := row_fresh hA19 hg65 (Nat.le_trans hz56 (by omega))
  have ho23 := own_kept ho23 hg65 hap60
  have hA30 := row_fresh hA30 hg65 (Nat.le_trans hz57 (by omega))
  have hb37 := kb hg65 hb37 (by omega)
  have hA51 := row_fresh hA51 hg65 (Nat.le_trans (Nat.le_refl _) (by omega))
  clear hb61
  have hb61 := hb64; clear hb64
  have hl67 := bl hb61
  refine oZ (tN (hK44 _ _ (sk fun K68 hK68 => (wt (oS rfl (Yk.mkFunc (vs := #[PQ n45 0, PQ n24 0]) (by simp only [List.map_toArray, List.map_cons, List.map_nil]; exact congrArg List.toArray (list2 (vr (PQ n45 0) rfl) (vr (PQ n24 0) rfl))) (oA rfl (oZ (tN (hK68 _ _ (sk fun K69 hK69 => (wt (oS rfl (Yk.cell1 wr6_ty89 rfl (vr (PQ n45 0) rfl) (cellAt hb61 (show _ = some (.func (.func 47) #[] #[PQ n24 0] : Value) from rfl)) (oS rfl (Yk.fieldAt wr6_fo29_1 (vr (PQ n2 0) rfl) (oS rfl (Yk.cell1 wr6_ty3 rfl (vr (PQ n2 1) rfl) (cellAt hb8 (show (msgC x)[1]? = some (.int .i64 (x.1.session : Int) : Value) from msg_g1 x)) (oS rfl (Yk.clo wr6_pl47 (caps := #[PQ n24 0]) (vr (.func (.func 47) #[] #[PQ n24 0]) rfl) #[.int .i64 (x.1.session : Int), PQ n24 0] (by simp only [List.map_toArray, List.map_cons, List.map_nil, List.append_toArray, List.cons_append, List.nil_append]; exact congrArg List.toArray (list2 (vr (.int .i64 (x.1.session : Int)) rfl) rfl)) ((enc1_any w _ hE n24 (by omega) v16 ([(x.1.kind : UInt8)]) hb37 (RB.ofOwn ho23) (by simp only [List.length_append, List.length_cons, List.length_nil]; omega) x.1.session (by omega) (by omega)).mono ?_)))))))))))))))))))))
  rintro e w74 ⟨v70, rfl, hb71, ho72, hg73⟩
  refine ⟨_, rfl, ?_⟩
  have hap75 : OB v70 n2 := own_older ho72 (bl hb8)
  have hap76 : OB v70 n24 := own_older ho72 (bl hb37)
  have hap77 : OB v70 n45 := own_older ho72 (bl hb61)
  have ho72 := ownsRow_base ho72 hE.size
  have hE := row_fresh hE hg73 (Nat.le_trans hz33 (by omega))
  have hb8 := kb hg73 hb8 (by omega)
  have hA19 := row_fresh hA19 hg73 (Nat.le_trans hz34 (by omega))
  clear ho23
  have hA30 := row_fresh hA30 hg73 (Nat.le_trans (Nat.le_refl _) (by omega))
  clear hb37
  clear hA51
  have hb61 := kb hg73 hb61 (by omega)
  have hb37 := hb71; clear hb71
  have hl78 := bl hb37
  refine oZ (tN (hK69 _ _ (sk fun K79 hK79 => ?_)))
  have hA80 := Ext.refl w74
  have hea81 := hE
  have hea82 := hA19
  have hea83 := hA30
  have hz84 := hE.size
  have hz85 := hA19.size
  have hz86 := hA30.size
  have hlt87 : n2 < w74.heap.size := (bl hb8)
  have hlt88 : n45 < w74.heap.size := (bl hb61)
  have hlt89 : n24 < w74.heap.size := (bl hb37)
  have hnw90 : ∀ g, w74.heap.size ≤ g → OB v70 g := fun g hg => own_newer ho72 hg
  refine wpF_draw_end 5 _ [fun x w' => ∃ b, x = .map (some b) ∧ MapF B8 partsV (fun _ : UInt8 => True) w' b kindsG, Is (PQ n2 0), Is (B8 (x.1.kind)), Is (.agg (partsC (⟨false, false, false, false, false, false, false, false⟩ : Parts)).toArray), fun x w' => ∃ g, x = PQ g 0 ∧ w'.heap[g]? = some (.cells (partsC (⟨false, false, false, false, false, false, false, false⟩ : Parts)).toArray 92 (0, 0)) ∧ w74.heap.size ≤ g] (by kernel_rfl) [23, 24, 25, 26, 7] (by kernel_rfl) (by kernel_rfl) (by kernel_rfl) rfl rfl rfl ⟨(fun _ _ _ ⟨b, h1, h2⟩ k => ⟨b, h1, MapF.keep h2 k⟩), Stab.is _, Stab.is _, Stab.is _, (fun _ _ _ ⟨g, h1, h2, h3⟩ k => ⟨g, h1, eb k h2, h3⟩), trivial⟩ ?hs3007 ?hQ3007
  case hs3007 =>
   refine ⟨?_, ?_, ?_, ?_, ?_, ?_, trivial⟩
   ·refine stepFL (stepN rfl fun σ w1 hC h => (Yk.callA0 wr6_pl50  ((kinds_any _).mono ?_)))
    rintro e w2 ⟨b, rfl, hmk, hx, hom⟩
    exact ⟨_, rfl, hx, ⟨b, rfl, hmk⟩⟩
   ·refine stepFL (stepN rfl fun σ w1 hC h => ?_)
    have e1 : σ 1 = PQ n2 0 := (eqo (h 1 (by decide))).trans rfl
    exact Yk.fieldAt wr6_fo29_0 e1 ⟨Ext.refl _, rfl⟩
   ·refine stepFL (stepN rfl fun σ w1 hC h => ?_)
    have e24 := eqo (h 24 (by decide))
    exact Yk.cell1 wr6_ty5 rfl e24 (cellAt (eb hC hb8) (show (msgC x)[0]? = some (B8 (x.1.kind) : Value) from msg_g0 x)) ⟨Ext.refl _, rfl⟩
   ·refine stepFL (stepN rfl fun σ w1 hC h => ?_)
    have e23 : (fun x w' => ∃ b, x = .map (some b) ∧ MapF B8 partsV (fun _ : UInt8 => True) w' b kindsG) (σ 23) w1 := h 23 (by decide)
    have e25 := eqo (h 25 (by decide))
    obtain ⟨b6, k6, m6⟩ := (show ∃ b, σ 23 = .map (some b) ∧ MapF B8 partsV (fun _ : UInt8 => True) w1 b kindsG from e23)
    exact Yk.lookMS (ek := B8) (ev := partsV) (D := fun _ : UInt8 => True) u8Law u8_ok (fun _ _ => b8_inj) wr6_ty93 (z := partsV dParts) zeroParts k6 e25 m6 trivial hK ⟨Ext.refl _, rfl⟩
   ·refine stepFL (stepN rfl fun σ w1 hC h => ?_)
    exact Yk.alloc (cs := (partsC (⟨false, false, false, false, false, false, false, false⟩ : Parts)).toArray) wr6_al92 fun g w2 hn hb hx hs => ⟨hx, g, rfl, hb, Nat.le_trans (show Ext w74 w1 from hC).size (Nat.le_of_eq hn)⟩
   ·exact trivial
  intro ρ91 w92 hx93 he hf
  obtain ⟨-, -, -, k26, k7, -⟩ := hf
  obtain ⟨T0, T1, T2, T3, T4, T5, T6, -⟩ := he.hold [(0, _), (1, PQ n2 0), (2, (Value.slice none 0 0)), (3, NI 0), (4, PQ n24 0), (5, PQ n45 0), (6, .func (.func 49) #[] #[PQ n45 0, PQ n24 0])] ⟨T0, rfl, rfl, rfl, rfl, rfl, rfl, trivial⟩ rfl
  clear he
  have hE := hE.trans hx93
  have hb8 := eb hx93 hb8
  have hA30 := hA30.trans hx93
  have hb61 := eb hx93 hb61
  have hb37 := eb hx93 hb37
  have ho72 := Stab.own _ _ _ _ _ _ _ _ ho72 hx93
  have hA80 := hA80.trans hx93
  have T26 : ρ91 26 = .agg (partsC (⟨false, false, false, false, false, false, false, false⟩ : Parts)).toArray := k26
  have k7 : (fun x w' => ∃ g, x = PQ g 0 ∧ w'.heap[g]? = some (.cells (partsC (⟨false, false, false, false, false, false, false, false⟩ : Parts)).toArray 92 (0, 0)) ∧ w74.heap.size ≤ g) (ρ91 7) w92 := k7
  obtain ⟨v94, T7⟩ : ∃ v, ρ91 7 = v := ⟨_, rfl⟩
  rw [T7] at k7
  have hk95 := k7; clear k7
  obtain ⟨n96, rfl, hb97, hn98⟩ := hk95
  have hl99 := bl hb97
  have hap100 : OB v70 n96 := hnw90 _ hn98
  clear k26
  refine (Yk.storeAll T7 T26 hb97 (by simp only [List.size_toArray, parts_len]) (st_isz (parts_len _) wr6_isz92) (parts_one (x := (⟨false, false, false, false, false, false, false, false⟩ : Parts))) fun w101 hb102 hg103 hs104 => ?_)
  have hE := row_fresh hE hg103 (Nat.le_trans hz84 (by omega))
  have hb8 := kb hg103 hb8 (by omega)
  have hA30 := row_fresh hA30 hg103 (Nat.le_trans hz86 (by omega))
  have hb61 := kb hg103 hb61 (by omega)
  have hb37 := kb hg103 hb37 (by omega)
  have ho72 := own_kept ho72 hg103 hap100
  have hA80 := row_fresh hA80 hg103 (Nat.le_trans (Nat.le_refl _) (by omega))
  clear hb97
  have hb97 : w101.heap[n96]? = some (.cells (partsC (⟨false, false, false, false, false, false, false, false⟩ : Parts)).toArray 92 (0, 0)) := hb102; clear hb102
  have hl105 := bl hb97
  refine tN (hK79 _ _ (sk fun K106 hK106 => (sk fun K107 hK107 => (wt (oS rfl (Yk.fieldAt wr6_fo92_0 T7 (oS rfl (Yk.cell1 wr6_ty4 rfl (vr (PQ n96 0) rfl) (cellAt hb97 (show (partsC (⟨false, false, false, false, false, false, false, false⟩ : Parts))[0]? = some (.bool (false) : Value) from parts_g0 (⟨false, false, false, false, false, false, false, false⟩ : Parts))) (oZ (tN (hK107 _ _ (wpF_false (vr (.bool (false)) rfl) (wpF_skip (tN (hK106 _ _ (sk fun K108 hK108 => (sk fun K109 hK109 => (wt (oS rfl (Yk.fieldAt wr6_fo92_1 T7 (oS rfl (Yk.cell1 wr6_ty4 rfl (vr (PQ n96 1) rfl) (cellAt hb97 (show (partsC (⟨false, false, false, false, false, false, false, false⟩ : Parts))[1]? = some (.bool (false) : Value) from parts_g1 (⟨false, false, false, false, false, false, false, false⟩ : Parts))) ?_))))))))))))))))))))))
  refine oZ (tN (hK109 _ _ (wpF_false (vr (.bool (false)) rfl) (wpF_skip (tN (hK108 _ _ (sk fun K110 hK110 => (sk fun K111 hK111 => (wt (oS rfl (Yk.fieldAt wr6_fo92_2 T7 (oS rfl (Yk.cell1 wr6_ty4 rfl (vr (PQ n96 2) rfl) (cellAt hb97 (show (partsC (⟨false, false, false, false, false, false, false, false⟩ : Parts))[2]? = some (.bool (false) : Value) from parts_g2 (⟨false, false, false, false, false, false, false, false⟩ : Parts))) (oZ (tN (hK111 _ _ (wpF_false (vr (.bool (false)) rfl) (wpF_skip (tN (hK110 _ _ (sk fun K112 hK112 => ?_)))))))))))))))))))))
  refine sk fun K113 hK113 => (wt (oS rfl (Yk.fieldAt wr6_fo92_3 T7 (oS rfl (Yk.cell1 wr6_ty4 rfl (vr (PQ n96 3) rfl) (cellAt hb97 (show (partsC (⟨false, false, false, false, false, false, false, false⟩ : Parts))[3]? = some (.bool (false) : Value) from parts_g3 (⟨false, false, false, false, false, false, false, false⟩ : Parts))) (oZ (tN (hK113 _ _ (wpF_false (vr (.bool (false)) rfl) (wpF_skip (tN (hK112 _ _ (sk fun K114 hK114 => (sk fun K115 hK115 => (wt (oS rfl (Yk.fieldAt wr6_fo92_4 T7 (oS rfl (Yk.cell1 wr6_ty4 rfl (vr (PQ n96 4) rfl) (cellAt hb97 (show (partsC (⟨false, false, false, false, false, false, false, false⟩ : Parts))[4]? = some (.bool (false) : Value) from parts_g4 (⟨false, false, false, false, false, false, false, false⟩ : Parts))) (oZ (tN (hK115 _ _ ?_))))))))))))))))))))))
  refine wpF_false (vr (.bool (false)) rfl) (wpF_skip (tN (hK114 _ _ (sk fun K116 hK116 => (sk fun K117 hK117 => (wt (oS rfl (Yk.fieldAt wr6_fo92_5 T7 (oS rfl (Yk.cell1 wr6_ty4 rfl (vr (PQ n96 5) rfl) (cellAt hb97 (show (partsC (⟨false, false, false, false, false, false, false, false⟩ : Parts))[5]? = some (.bool (false) : Value) from parts_g5 (⟨false, false, false, false, false, false, false, false⟩ : Parts))) (oZ (tN (hK117 _ _ (wpF_false (vr (.bool (false)) rfl) (wpF_skip (tN (hK116 _ _ (sk fun K118 hK118 => (sk fun K119 hK119 => (wt ?_))))))))))))))))))))
  refine oS rfl (Yk.fieldAt wr6_fo92_6 T7 (oS rfl (Yk.cell1 wr6_ty4 rfl (vr (PQ n96 6) rfl) (cellAt hb97 (show (partsC (⟨false, false, false, false, false, false, false, false⟩ : Parts))[6]? = some (.bool (false) : Value) from parts_g6 (⟨false, false, false, false, false, false, false, false⟩ : Parts))) (oZ (tN (hK119 _ _ (wpF_false (vr (.bool (false)) rfl) (wpF_skip (tN (hK118 _ _ (sk fun K120 hK120 => (sk fun K121 hK121 => (wt (oS rfl (Yk.fieldAt wr6_fo92_7 T7 (oS rfl (Yk.cell1 wr6_ty4 rfl (vr (PQ n96 7) rfl) (cellAt hb97 (show (partsC (⟨false, false, false, false, false, false, false, false⟩ : Parts))[7]? = some (.bool (false) : Value) from parts_g7 (⟨false, false, false, false, false, false, false, false⟩ : Parts))) (oZ (tN (hK121 _ _ (wpF_false (vr (.bool (false)) rfl) (wpF_skip ?_))))))))))))))))))))))
  refine tN (hK120 _ _ (sk fun K122 hK122 => (wt (oS rfl (Yk.cell1 wr6_ty26 rfl T4 (cellAt hb37 (show _ = some (v70 : Value) from rfl)) (oA rfl (oA rfl (oZ (tN (hK122 _ _ (wpF_ret (postF_ret (fn := Tryd.f16) _ rfl [v70, NI 0] (.tuple #[v70, NI 0]) rfl ⟨rfl, rfl, trivial⟩ ?_))))))))))))
  have hen : ([(x.1.kind : UInt8)] : List UInt8) ++ Lib.uvarint x.1.session.toNat = encB x.1 := by unfold encB tailM; rw [hk]; simp [List.append_assoc]
  exact ⟨v70, by rw [hR]; rfl, by rw [hR, if_pos rfl, ← hen]; exact RB.ofOwn ho72, hE⟩
 ·refine wpF_skip (tN (hK10 _ _ (sk fun K123 hK123 => (wt (oS rfl (Yk.fieldAt wr6_fo29_0 (vr (PQ n2 0) rfl) (oS rfl (Yk.cell1 wr6_ty5 rfl (vr (PQ n2 0) rfl) (cellAt hb8 (show (msgC x)[0]? = some (B8 (x.1.kind) : Value) from msg_g0 x)) (oS rfl (Yk.lit1 (b := x.1.kind) wr6_l1_26 (vr (B8 (x.1.kind)) rfl) fun v124 w125 hN126 => ?_))))))))))
  have hA127 := Ext.refl w13
  have hea128 := hE
  have hz129 := hE.size
  have hap130 : OB v124 n2 := own_older hN126.own (bl hb8)
  have hE := hE.trans hN126.ext
  have hb8 := eb hN126.ext hb8
  have hA127 := hA127.trans hN126.ext
  have ho131 := hN126.own; clear hN126
  refine oS rfl (Yk.alloc (cs := ([(Value.slice none 0 0)]).toArray) wr6_al26 fun n132 w133 hn134 hb135 hx136 hs137 => ?_)
  have hA138 := Ext.refl w125
  have hea139 := hE
  have hea140 := hA127
  have hz141 := hE.size
  have hz142 := hA127.size
  have hlt143 := lte (bl hb8) hn134
  have hap144 : OB v124 n132 := own_newer ho131 (by omega)
  have hE := hE.trans hx136
  have hb8 := eb hx136 hb8
  have hA127 := hA127.trans hx136
  have ho131 := Stab.own _ _ _ _ _ _ _ _ ho131 hx136
  have hA138 := hA138.trans hx136
  have hb145 := hb135; clear hb135
  have hl146 : n132 < w133.heap.size := by omega
  refine oS rfl (Yk.storeC (i := 0) (v := v124) (vr (PQ n132 0) rfl) (vr v124 rfl) hb145 (Nat.le_of_ble_eq_true rfl) wr6_isz26 (own_one ho131).1 (own_one ho131).2 fun w147 hb148 hg149 hs150 => ?_)
  have hE := row_fresh hE hg149 (Nat.le_trans hz141 (by omega))
  have hb8 := kb hg149 hb8 (by omega)
  have hA127 := row_fresh hA127 hg149 (Nat.le_trans hz142 (by omega))
  have ho131 := own_kept ho131 hg149 hap144
  have hA138 := row_fresh hA138 hg149 (Nat.le_trans (Nat.le_refl _) (by omega))
  clear hb145
  have hb145 := hb148; clear hb148
  have hl151 := bl hb145
  refine oZ (tN (hK123 _ _ (sk fun K152 hK152 => (wt (oS rfl (Yk.mkFunc (vs := #[PQ n132 0]) (by simp only [List.map_toArray, List.map_cons, List.map_nil]; exact congrArg List.toArray (list1 (vr (PQ n132 0) rfl))) (oS rfl (Yk.alloc (cs := ([Value.nilFunc]).toArray) wr6_al89 fun n153 w154 hn155 hb156 hx157 hs158 => ?_))))))))
  have hA159 := Ext.refl w147
  have hea160 := hE
  have hea161 := hA127
  have hea162 := hA138
  have hz163 := hE.size
  have hz164 := hA127.size
  have hz165 := hA138.size
  have hlt166 := lte (bl hb8) hn155
  have hlt167 := lte (bl hb145) hn155
  have hap168 : OB v124 n153 := own_newer ho131 (by omega)
  have hE := hE.trans hx157
  have hb8 := eb hx157 hb8
  have hA127 := hA127.trans hx157
  have ho131 := Stab.own _ _ _ _ _ _ _ _ ho131 hx157
  have hA138 := hA138.trans hx157
  have hb145 := eb hx157 hb145
  have hA159 := hA159.trans hx157
  have hb169 := hb156; clear hb156
  have hl170 : n153 < w154.heap.size := by omega
  refine oS rfl (Yk.storeC (i := 0) (v := .func (.func 47) #[] #[PQ n132 0]) (vr (PQ n153 0) rfl) (vr (.func (.func 47) #[] #[PQ n132 0]) rfl) hb169 (Nat.le_of_ble_eq_true rfl) wr6_isz89 rfl rfl fun w171 hb172 hg173 hs174 => ?_)
  have hE := row_fresh hE hg173 (Nat.le_trans hz163 (by omega))
  have hb8 := kb hg173 hb8 (by omega)
  have hA127 := row_fresh hA127 hg173 (Nat.le_trans hz164 (by omega))
  have ho131 := own_kept ho131 hg173 hap168
  have hA138 := row_fresh hA138 hg173 (Nat.le_trans hz165 (by omega))
  have hb145 := kb hg173 hb145 (by omega)
  have hA159 := row_fresh hA159 hg173 (Nat.le_trans (Nat.le_refl _) (by omega))
  clear hb169
  have hb169 := hb172; clear hb172
  have hl175 := bl hb169
  refine oZ (tN (hK152 _ _ (sk fun K176 hK176 => (wt (oS rfl (Yk.mkFunc (vs := #[PQ n153 0, PQ n132 0]) (by simp only [List.map_toArray, List.map_cons, List.map_nil]; exact congrArg List.toArray (list2 (vr (PQ n153 0) rfl) (vr (PQ n132 0) rfl))) (oA rfl (oZ (tN (hK176 _ _ (sk fun K177 hK177 => (wt (oS rfl (Yk.cell1 wr6_ty89 rfl (vr (PQ n153 0) rfl) (cellAt hb169 (show _ = some (.func (.func 47) #[] #[PQ n132 0] : Value) from rfl)) (oS rfl (Yk.fieldAt wr6_fo29_1 (vr (PQ n2 0) rfl) (oS rfl (Yk.cell1 wr6_ty3 rfl (vr (PQ n2 1) rfl) (cellAt hb8 (show (msgC x)[1]? = some (.int .i64 (x.1.session : Int) : Value) from msg_g1 x)) (oS rfl (Yk.clo wr6_pl47 (caps := #[PQ n132 0]) (vr (.func (.func 47) #[] #[PQ n132 0]) rfl) #[.int .i64 (x.1.session : Int), PQ n132 0] (by simp only [List.map_toArray, List.map_cons, List.map_nil, List.append_toArray, List.cons_append, List.nil_append]; exact congrArg List.toArray (list2 (vr (.int .i64 (x.1.session : Int)) rfl) rfl)) ((enc1_any w _ hE n132 (by omega) v124 ([(x.1.kind : UInt8)]) hb145 (RB.ofOwn ho131) (by simp only [List.length_append, List.length_cons, List.length_nil]; omega) x.1.session (by omega) (by omega)).mono ?_)))))))))))))))))))))
  rintro e w182 ⟨v178, rfl, hb179, ho180, hg181⟩
  refine ⟨_, rfl, ?_⟩
  have hap183 : OB v178 n2 := own_older ho180 (bl hb8)
  have hap184 : OB v178 n132 := own_older ho180 (bl hb145)
  have hap185 : OB v178 n153 := own_older ho180 (bl hb169)
  have ho180 := ownsRow_base ho180 hE.size
  have hE := row_fresh hE hg181 (Nat.le_trans hz141 (by omega))
  have hb8 := kb hg181 hb8 (by omega)
  have hA127 := row_fresh hA127 hg181 (Nat.le_trans hz142 (by omega))
  clear ho131
  have hA138 := row_fresh hA138 hg181 (Nat.le_trans (Nat.le_refl _) (by omega))
  clear hb145
  clear hA159
  have hb169 := kb hg181 hb169 (by omega)
  have hb145 := hb179; clear hb179
  have hl186 := bl hb145
  refine oZ (tN (hK177 _ _ (sk fun K187 hK187 => ?_)))
  have hA188 := Ext.refl w182
  have hea189 := hE
  have hea190 := hA127
  have hea191 := hA138
  have hz192 := hE.size
  have hz193 := hA127.size
  have hz194 := hA138.size
  have hlt195 : n2 < w182.heap.size := (bl hb8)
  have hlt196 : n153 < w182.heap.size := (bl hb169)
  have hlt197 : n132 < w182.heap.size := (bl hb145)
  have hnw198 : ∀ g, w182.heap.size ≤ g → OB v178 g := fun g hg => own_newer ho180 hg
  refine wpF_draw_end 5 _ [fun x w' => ∃ b, x = .map (some b) ∧ MapF B8 partsV (fun _ : UInt8 => True) w' b kindsG, Is (PQ n2 0), Is (B8 (x.1.kind)), Is (.agg (partsC (⟨true, false, false, false, false, false, false, false⟩ : Parts)).toArray), fun x w' => ∃ g, x = PQ g 0 ∧ w'.heap[g]? = some (.cells (partsC (⟨false, false, false, false, false, false, false, false⟩ : Parts)).toArray 92 (0, 0)) ∧ w182.heap.size ≤ g] (by kernel_rfl) [23, 24, 25, 26, 7] (by kernel_rfl) (by kernel_rfl) (by kernel_rfl) rfl rfl rfl ⟨(fun _ _ _ ⟨b, h1, h2⟩ k => ⟨b, h1, MapF.keep h2 k⟩), Stab.is _, Stab.is _, Stab.is _, (fun _ _ _ ⟨g, h1, h2, h3⟩ k => ⟨g, h1, eb k h2, h3⟩), trivial⟩ ?hs4007 ?hQ4007
  case hs4007 =>
   refine ⟨?_, ?_, ?_, ?_, ?_, ?_, trivial⟩
   ·refine stepFL (stepN rfl fun σ w1 hC h => (Yk.callA0 wr6_pl50  ((kinds_any _).mono ?_)))
    rintro e w2 ⟨b, rfl, hmk, hx, hom⟩
    exact ⟨_, rfl, hx, ⟨b, rfl, hmk⟩⟩
   ·refine stepFL (stepN rfl fun σ w1 hC h => ?_)
    have e1 : σ 1 = PQ n2 0 := (eqo (h 1 (by decide))).trans rfl
    exact Yk.fieldAt wr6_fo29_0 e1 ⟨Ext.refl _, rfl⟩
   ·refine stepFL (stepN rfl fun σ w1 hC h => ?_)
    have e24 := eqo (h 24 (by decide))
    exact Yk.cell1 wr6_ty5 rfl e24 (cellAt (eb hC hb8) (show (msgC x)[0]? = some (B8 (x.1.kind) : Value) from msg_g0 x)) ⟨Ext.refl _, rfl⟩
   ·refine stepFL (stepN rfl fun σ w1 hC h => ?_)
    have e23 : (fun x w' => ∃ b, x = .map (some b) ∧ MapF B8 partsV (fun _ : UInt8 => True) w' b kindsG) (σ 23) w1 := h 23 (by decide)
    have e25 := eqo (h 25 (by decide))
    obtain ⟨b6, k6, m6⟩ := (show ∃ b, σ 23 = .map (some b) ∧ MapF B8 partsV (fun _ : UInt8 => True) w1 b kindsG from e23)
    exact Yk.lookMS (ek := B8) (ev := partsV) (D := fun _ : UInt8 => True) u8Law u8_ok (fun _ _ => b8_inj) wr6_ty93 (z := partsV dParts) zeroParts k6 e25 m6 trivial hK ⟨Ext.refl _, rfl⟩
   ·refine stepFL (stepN rfl fun σ w1 hC h => ?_)
    exact Yk.alloc (cs := (partsC (⟨false, false, false, false, false, false, false, false⟩ : Parts)).toArray) wr6_al92 fun g w2 hn hb hx hs => ⟨hx, g, rfl, hb, Nat.le_trans (show Ext w182 w1 from hC).size (Nat.le_of_eq hn)⟩
   ·exact trivial
  intro ρ199 w200 hx201 he hf
  obtain ⟨-, -, -, k26, k7, -⟩ := hf
  obtain ⟨T0, T1, T2, T3, T4, T5, T6, -⟩ := he.hold [(0, _), (1, PQ n2 0), (2, (Value.slice none 0 0)), (3, NI 0), (4, PQ n132 0), (5, PQ n153 0), (6, .func (.func 49) #[] #[PQ n153 0, PQ n132 0])] ⟨T0, rfl, rfl, rfl, rfl, rfl, rfl, trivial⟩ rfl
  clear he
  have hE := hE.trans hx201
  have hb8 := eb hx201 hb8
  have hA138 := hA138.trans hx201
  have hb169 := eb hx201 hb169
  have hb145 := eb hx201 hb145
  have ho180 := Stab.own _ _ _ _ _ _ _ _ ho180 hx201
  have hA188 := hA188.trans hx201
  have T26 : ρ199 26 = .agg (partsC (⟨true, false, false, false, false, false, false, false⟩ : Parts)).toArray := k26
  have k7 : (fun x w' => ∃ g, x = PQ g 0 ∧ w'.heap[g]? = some (.cells (partsC (⟨false, false, false, false, false, false, false, false⟩ : Parts)).toArray 92 (0, 0)) ∧ w182.heap.size ≤ g) (ρ199 7) w200 := k7
  obtain ⟨v202, T7⟩ : ∃ v, ρ199 7 = v := ⟨_, rfl⟩
  rw [T7] at k7
  have hk203 := k7; clear k7
  obtain ⟨n204, rfl, hb205, hn206⟩ := hk203
  have hl207 := bl hb205
  have hap208 : OB v178 n204 := hnw198 _ hn206
  clear k26
  refine (Yk.storeAll T7 T26 hb205 (by simp only [List.size_toArray, parts_len]) (st_isz (parts_len _) wr6_isz92) (parts_one (x := (⟨true, false, false, false, false, false, false, false⟩ : Parts))) fun w209 hb210 hg211 hs212 => ?_)
  have hE := row_fresh hE hg211 (Nat.le_trans hz192 (by omega))
  have hb8 := kb hg211 hb8 (by omega)
  have hA138 := row_fresh hA138 hg211 (Nat.le_trans hz194 (by omega))
  have hb169 := kb hg211 hb169 (by omega)
  have hb145 := kb hg211 hb145 (by omega)
  have ho180 := own_kept ho180 hg211 hap208
  have hA188 := row_fresh hA188 hg211 (Nat.le_trans (Nat.le_refl _) (by omega))
  clear hb205
  have hb205 : w209.heap[n204]? = some (.cells (partsC (⟨true, false, false, false, false, false, false, false⟩ : Parts)).toArray 92 (0, 0)) := hb210; clear hb210
  have hl213 := bl hb205
  refine tN (hK187 _ _ (sk fun K214 hK214 => (sk fun K215 hK215 => (wt (oS rfl (Yk.fieldAt wr6_fo92_0 T7 (oS rfl (Yk.cell1 wr6_ty4 rfl (vr (PQ n204 0) rfl) (cellAt hb205 (show (partsC (⟨true, false, false, false, false, false, false, false⟩ : Parts))[0]? = some (.bool (true) : Value) from parts_g0 (⟨true, false, false, false, false, false, false, false⟩ : Parts))) (oZ (tN (hK215 _ _ (wpF_true (vr (.bool (true)) rfl) (sk fun K216 hK216 => (wt (oS rfl (Yk.cell1 wr6_ty89 rfl T5 (cellAt hb169 (show _ = some (.func (.func 47) #[] #[PQ n132 0] : Value) from rfl)) (oS rfl (Yk.fieldAt wr6_fo29_2 T1 (oS rfl (Yk.cell1 wr6_ty22 rfl (vr (PQ n2 2) rfl) (cellAt hb8 (show (msgC x)[2]? = some (x.2.refs : Value) from msg_g2 x)) (oS rfl (Yk.lenRG wr6_ty22 (RG.of (hmr.keep hE) (vr x.2.refs rfl)) (oS rfl (Yk.clo wr6_pl47 (caps := #[PQ n132 0]) (vr (.func (.func 47) #[] #[PQ n132 0]) rfl) #[NI ((x.1.refs).length), PQ n132 0] (by simp only [List.map_toArray, List.map_cons, List.map_nil, List.append_toArray, List.cons_append, List.nil_append]; exact congrArg List.toArray (list2 (vr (NI ((x.1.refs).length)) rfl) rfl)) ?_))))))))))))))))))))))))
  refine (enc1_any w _ hE n132 (by omega) v178 (([(x.1.kind : UInt8)] : List UInt8) ++ Lib.uvarint x.1.session.toNat) hb145 (RB.ofOwn ho180) (by simp only [List.length_append, List.length_cons, List.length_nil]; omega) (((x.1.refs).length : Nat) : Int) (by omega) (by omega)).mono ?_
  rintro e w221 ⟨v217, rfl, hb218, ho219, hg220⟩
  refine ⟨_, rfl, ?_⟩
  have hap222 : OB v217 n2 := own_older ho219 (bl hb8)
  have hap223 : OB v217 n153 := own_older ho219 (bl hb169)
  have hap224 : OB v217 n132 := own_older ho219 (bl hb145)
  have hap225 : OB v217 n204 := own_older ho219 (bl hb205)
  have ho219 := ownsRow_base ho219 hE.size
  have hE := row_fresh hE hg220 (Nat.le_trans hz141 (by omega))
  have hb8 := kb hg220 hb8 (by omega)
  have hA138 := row_fresh hA138 hg220 (Nat.le_trans (Nat.le_refl _) (by omega))
  have hb169 := kb hg220 hb169 (by omega)
  clear hb145
  clear ho180
  clear hA188
  have hb205 := kb hg220 hb205 (by omega)
  have hb145 := hb218; clear hb218
  have hl226 := bl hb145
  refine oZ (tN (hK216 _ _ (sk fun K227 hK227 => (wt (oS rfl (Yk.fieldAt wr6_fo29_2 T1 (oS rfl (Yk.cell1 wr6_ty22 rfl (vr (PQ n2 2) rfl) (cellAt hb8 (show (msgC x)[2]? = some (x.2.refs : Value) from msg_g2 x)) (oS rfl (Yk.lenRG wr6_ty22 (RG.of (hmr.keep hE) (vr x.2.refs rfl)) (oM rfl (oL_ [(0, .agg (msgC x).toArray), (1, PQ n2 0), (2, (Value.slice none 0 0)), (3, NI 0), (4, PQ n132 0), (5, PQ n153 0), (6, .func (.func 49) #[] #[PQ n153 0, PQ n132 0]), (7, PQ n204 0), (28, .bool (true)), (35, x.2.refs), (36, NI ((x.1.refs).length)), (37, NI 0)] ⟨T0, T1, T2, T3, T4, T5, T6, T7, rfl, rfl, rfl, rfl, trivial⟩ fun ρ228 ⟨T0, T1, T2, T3, T4, T5, T6, T7, T28, T35, T36, T37, _⟩ => (tN (hK227 _ _ (wpF_block (wpF_loop (fun (ρ : Slots) (wz : World) => ∃ i : Nat, ∃ vb1 : Value, ρ 0 = (.agg (msgC x).toArray : Value) ∧ ρ 1 = (PQ n2 0 : Value) ∧ ρ 2 = ((Value.slice none 0 0) : Value) ∧ ρ 3 = (NI 0 : Value) ∧ ρ 4 = (PQ n132 0 : Value) ∧ ρ 5 = (PQ n153 0 : Value) ∧ ρ 6 = (.func (.func 49) #[] #[PQ n153 0, PQ n132 0] : Value) ∧ ρ 7 = (PQ n204 0 : Value) ∧ ρ 28 = (.bool (true) : Value) ∧ ρ 35 = (x.2.refs : Value) ∧ ρ 36 = (NI ((x.1.refs).length) : Value) ∧ ρ 37 = (NI i : Value) ∧ Ext w wz ∧ wz.heap[n2]? = some (.cells (msgC x).toArray 29 (0, 0)) ∧ wz.heap[n153]? = some (.cells ([.func (.func 47) #[] #[PQ n132 0]]).toArray 89 (0, 0)) ∧ wz.heap[n204]? = some (.cells (partsC (⟨true, false, false, false, false, false, false, false⟩ : Parts)).toArray 92 (0, 0)) ∧ wz.heap[n132]? = some (.cells ([vb1]).toArray 26 (0, 0)) ∧ wz.ownsRow w.heap.size 5 1 vb1 (((([(x.1.kind : UInt8)] : List UInt8) ++ Lib.uvarint x.1.session.toNat : List UInt8) ++ Lib.uvarint ((x.1.refs).length) : List UInt8) ++ (x.1.refs.take i).flatMap updB : List UInt8).length (Lib.byteCells (((([(x.1.kind : UInt8)] : List UInt8) ++ Lib.uvarint x.1.session.toNat : List UInt8) ++ Lib.uvarint ((x.1.refs).length) : List UInt8) ++ (x.1.refs.take i).flatMap updB)) ∧ (i ≤ x.1.refs.length) ∧ (OB vb1 n2) ∧ (OB vb1 n153) ∧ (OB vb1 n204) ∧ (OB vb1 n132) ∧ True) (fun ρ _ => x.1.refs.length - (intOf (ρ 37)).toNat) ⟨0, v217, T0, T1, T2, T3, T4, T5, T6, T7, T28, T35, T36, T37, hE, hb8, hb169, hb205, hb145, own_eq ho219 (by simp), Nat.zero_le _, hap222, hap223, hap225, hap224, trivial⟩ ?_))))))))))))))))
  clear hA138
  clear hb145
  clear ho219
  clear hE hb8 hb169 hb205
  rintro ρ229 w230 ⟨i, vb1, T0, T1, T2, T3, T4, T5, T6, T7, T28, T35, T36, T37, hE, hb8, hb169, hb205, hb1, ho1, hi, hap_n2, hap_n153, hap_n204, hap_n132, -⟩
  have q37 := T37
  have hgl := (bl hb1)
  refine sk fun K231 hK231 => (wt (oS rfl (Yk.eqI (a := (i : Nat)) (b := ((x.1.refs).length : Nat)) T37 T36 (k_lss _ _ _ _) (oZ (tN (hK231 _ _ (sk fun K232 hK232 => ?_)))))))
  refine wpF_cond ((i) < ((x.1.refs).length)) (vr (.bool (decide ((i) < ((x.1.refs).length)))) rfl) (fun hc2 => ?_) (fun hc2 => ?_)
  ·have hlt : i < x.1.refs.length := hc2
   have hul := hr2 _ (getD_mem dUpd hlt)
   have hLl := updsB_len (l := x.1.refs.take i) (fun u hu => hr2 u (List.mem_of_mem_take hu))
   rw [List.length_take] at hLl
   have huu := uvarint_len9 (n := (x.1.refs.getD i dUpd).name.length) (by omega)
   have htu := textB_le (s := (x.1.refs.getD i dUpd).name) (by omega)
   have hnu : (x.1.refs.getD i dUpd).new.1.length = 32 := (x.1.refs.getD i dUpd).new.2
   refine wpF_skip (tN (hK232 _ _ (sk fun K233 hK233 => (wpF_block (sk fun K234 hK234 => (wt ?_))))))
   have hl237 : (updC ((x.1.refs).getD (i) dUpd)).length = 66 := (RG.elem (hmr.keep hE) dUpd (by omega))
   refine oS rfl (Yk.atRG wr6_ty22 wr6_szg67 (by decide) dUpd (RG.of (hmr.keep hE) T35) T37 (by omega) fun v235 hp236 => (oS rfl (Yk.loadPR (PR.of hp236 (vr v235 rfl)) (wr6_ty67).choose_spec rfl (by rw [upd_len]; exact wr6_isz67) (oS rfl (Yk.alloc (cs := (updC (⟨0, [], zid, zid⟩ : Upd)).toArray) wr6_al67 fun n238 w239 hn240 hb241 hx242 hs243 => ?_)))))
   have hA244 := Ext.refl w230
   have hea245 := hE
   have hz246 := hE.size
   have hlt247 := lte (bl hb8) hn240
   have hlt248 := lte (bl hb169) hn240
   have hlt249 := lte (bl hb205) hn240
   have hlt250 := lte (bl hb1) hn240
   have hap251 : OB vb1 n238 := own_newer ho1 (by omega)
   have hE := hE.trans hx242
   have hb8 := eb hx242 hb8
   have hb169 := eb hx242 hb169
   have hb205 := eb hx242 hb205
   have hb1 := eb hx242 hb1
   have ho1 := Stab.own _ _ _ _ _ _ _ _ ho1 hx242
   have hA244 := hA244.trans hx242
   have hb252 := hb241; clear hb241
   have hl253 : n238 < w239.heap.size := by omega
   refine oS rfl (Yk.storeAll (vr (PQ n238 0) rfl) (vr (.agg (updC ((x.1.refs).getD (i) dUpd)).toArray) rfl) hb252 (by simp only [List.size_toArray, upd_len]) (st_isz (upd_len _) wr6_isz67) (upd_one (x := ((x.1.refs).getD (i) dUpd))) fun w254 hb255 hg256 hs257 => ?_)
   have hE := row_fresh hE hg256 (Nat.le_trans hz246 (by omega))
   have hb8 := kb hg256 hb8 (by omega)
   have hb169 := kb hg256 hb169 (by omega)
   have hb205 := kb hg256 hb205 (by omega)
   have hb1 := kb hg256 hb1 (by omega)
   have ho1 := own_kept ho1 hg256 hap251
   have hA244 := row_fresh hA244 hg256 (Nat.le_trans (Nat.le_refl _) (by omega))
   clear hb252
   have hb252 : w254.heap[n238]? = some (.cells (updC ((x.1.refs).getD (i) dUpd)).toArray 67 (0, 0)) := hb255; clear hb255
   have hl258 := bl hb252
   refine oZ ?_
   clear hp236
   refine tN (hK234 _ _ ?_)
   have hx259 : Ext w254 (World.drew w254) := (Below.refl _ _).drew
   have hE := hE.trans hx259
   have hb8 := eb hx259 hb8
   have hb169 := eb hx259 hb169
   have hb205 := eb hx259 hb205
   have hb1 := eb hx259 hb1
   have ho1 := Stab.own _ _ _ _ _ _ _ _ ho1 hx259
   have hA244 := hA244.trans hx259
   have hb252 := eb hx259 hb252
   refine wpF_float [(0, 41, vb1), (5, 46, PQ n238 1), (6, 47, St ((((x.1.refs).getD (i) dUpd)).name)), (8, 49, PQ n238 34), (9, 50, AB ((((x.1.refs).getD (i) dUpd)).new.1))] [1, 2, 3, 4, 7, 10, 11] (fun wz => Ext w wz ∧ wz.heap[n2]? = some (.cells (msgC x).toArray 29 (0, 0)) ∧ wz.heap[n153]? = some (.cells ([.func (.func 47) #[] #[PQ n132 0]]).toArray 89 (0, 0)) ∧ wz.heap[n204]? = some (.cells (partsC (⟨true, false, false, false, false, false, false, false⟩ : Parts)).toArray 92 (0, 0)) ∧ wz.heap[n132]? = some (.cells ([vb1]).toArray 26 (0, 0)) ∧ wz.heap[n238]? = some (.cells (updC ((x.1.refs).getD (i) dUpd)).toArray 67 (0, 0)) ∧ True) (by kernel_rfl) (by kernel_rfl) (by kernel_rfl) ⟨hE, hb8, hb169, hb205, hb1, hb252, trivial⟩ ⟨fun w260 ⟨hE, hb8, hb169, hb205, hb1, hb252, _⟩ => Yk.cell1 wr6_ty26 rfl T4 (cellAt hb1 (show _ = some (vb1 : Value) from rfl)) ⟨rfl, rfl⟩, fun w260 ⟨hE, hb8, hb169, hb205, hb1, hb252, _⟩ => Yk.fieldAt wr6_fo67_1 (vr (PQ n238 0) rfl) ⟨rfl, rfl⟩, fun w260 ⟨hE, hb8, hb169, hb205, hb1, hb252, _⟩ => Yk.cell1 wr6_ty9 rfl (vr (PQ n238 1) rfl) (cellAt hb252 (show (updC ((x.1.refs).getD (i) dUpd))[1]? = some (St ((((x.1.refs).getD (i) dUpd)).name) : Value) from upd_g1 ((x.1.refs).getD (i) dUpd))) ⟨rfl, rfl⟩, fun w260 ⟨hE, hb8, hb169, hb205, hb1, hb252, _⟩ => Yk.fieldAt wr6_fo67_3 (vr (PQ n238 0) rfl) ⟨rfl, rfl⟩, fun w260 ⟨hE, hb8, hb169, hb205, hb1, hb252, _⟩ => Yk.loadPR (PR.blk hb252 (upd_m3 ((x.1.refs).getD (i) dUpd)) (upd_n3 ((x.1.refs).getD (i) dUpd)) (vr (PQ n238 34) rfl)) wr6_ty25 rfl (sizeId_of (((x.1.refs).getD (i) dUpd)).new.2) ⟨rfl, rfl⟩, trivial⟩ (chF_step rfl (Yk.fieldAt wr6_fo67_0 (vr (PQ n238 0) rfl) ?_))
   refine ⟨.inr ⟨hE, hb8, hb169, hb205, hb1, hb252, trivial⟩, ?_⟩
   refine chF_step rfl (Yk.cell1 wr6_ty5 rfl (vr (PQ n238 0) rfl) (cellAt hb252 (show (updC ((x.1.refs).getD (i) dUpd))[0]? = some (B8 ((((x.1.refs).getD (i) dUpd)).kind) : Value) from upd_g0 ((x.1.refs).getD (i) dUpd))) ?_)
   refine ⟨.inr ⟨hE, hb8, hb169, hb205, hb1, hb252, trivial⟩, ?_⟩
   refine chF_step rfl (Yk.lit1 (b := (((x.1.refs).getD (i) dUpd)).kind) wr6_l1_26 (vr (B8 ((((x.1.refs).getD (i) dUpd)).kind)) rfl) fun v261 w262 hN263 => ?_)
   have hA264 := Ext.refl (World.drew w254)
   have hea265 := hE
   have hea266 := hA244
   have hz267 : w.heap.size ≤ (World.drew w254).heap.size := hE.size
   have hz268 : w230.heap.size ≤ (World.drew w254).heap.size := hA244.size
   have hap269 : OB v261 n2 := own_older hN263.own (bl hb8)
   have hap270 : OB v261 n153 := own_older hN263.own (bl hb169)
   have hap271 : OB v261 n204 := own_older hN263.own (bl hb205)
   have hap272 : OB v261 n132 := own_older hN263.own (bl hb1)
   have hap273 : OB v261 n238 := own_older hN263.own (bl hb252)
   have hap274 : ApartV vb1 v261 := apartv_new ho1 hN263.own
   have hap275 : ApartV v261 vb1 := apartv_new' ho1 hN263.own
   have hE := hE.trans hN263.ext
   have hb8 := eb hN263.ext hb8
   have hb169 := eb hN263.ext hb169
   have hb205 := eb hN263.ext hb205
   have hb1 := eb hN263.ext hb1
   have ho1 := Stab.own _ _ _ _ _ _ _ _ ho1 hN263.ext
   have hA244 := hA244.trans hN263.ext
   have hb252 := eb hN263.ext hb252
   have hA264 := hA264.trans hN263.ext
   have ho276 := hN263.own; clear hN263
   refine ⟨.inr ⟨hE, hb8, hb169, hb205, hb1, hb252, trivial⟩, ?_⟩
   refine chF_step rfl (Yk.appendRB _ _ w.heap.size (.int .u8 0) wr6_ty26 wr6_inf5 rfl wr6_ty26 (((([(x.1.kind : UInt8)] : List UInt8) ++ Lib.uvarint x.1.session.toNat : List UInt8) ++ Lib.uvarint ((x.1.refs).length) : List UInt8) ++ (x.1.refs.take i).flatMap updB) ([((((x.1.refs).getD (i) dUpd)).kind : UInt8)]) (own_of ho1 (vr vb1 rfl)) (RB.of (RB.ofOwn ho276) (vr v261 rfl)) (by simp only [List.length_append, List.length_cons, List.length_nil]; omega) hE.size fun v277 w278 ho279 hg280 => ?_)
   have hg280 : Grew w262 w278 vb1 v277 := hg280
   have hap281 : OB v277 n2 := apart_grew hg280 hap_n2 (bl hb8)
   have hap282 : OB v277 n153 := apart_grew hg280 hap_n153 (bl hb169)
   have hap283 : OB v277 n204 := apart_grew hg280 hap_n204 (bl hb205)
   have hap284 : OB v277 n132 := apart_grew hg280 hap_n132 (bl hb1)
   have hap285 : OB v277 n238 := apart_grew hg280 hap251 (bl hb252)
   have hap286 : ApartV v277 v261 := apartv_grew hg280 hap274 ho276
   have hap287 : ApartV v261 v277 := fun k h1 h2 => hap286 k h2 h1
   have hE := ext_grew hE hg280 ho1 (Nat.le_refl _)
   have hb8 := blk_grew hb8 hg280 hap_n2
   have hb169 := blk_grew hb169 hg280 hap_n153
   have hb205 := blk_grew hb205 hg280 hap_n204
   have hb1 := blk_grew hb1 hg280 hap_n132
   clear ho1
   clear hA244
   have hb252 := blk_grew hb252 hg280 hap251
   clear hA264
   have ho276 := own_grew ho276 hg280 hap274
   refine ⟨.inr ⟨hE, hb8, hb169, hb205, hb1, hb252, trivial⟩, ?_⟩
   refine chF_step rfl (Yk.callA2 wr6_pl52 (vr v277 rfl) (vr (St ((((x.1.refs).getD (i) dUpd)).name)) rfl) ((putTextL _ v277 (((([(x.1.kind : UInt8)] : List UInt8) ++ Lib.uvarint x.1.session.toNat : List UInt8) ++ Lib.uvarint ((x.1.refs).length) : List UInt8) ++ (x.1.refs.take i).flatMap updB ++ [((((x.1.refs).getD (i) dUpd)).kind : UInt8)]) (RB.ofOwn ho279) ((((x.1.refs).getD (i) dUpd)).name) (by simp only [List.length_append, List.length_cons, List.length_nil]; omega)).mono ?_))
   rintro e w290 ⟨v288, rfl, hN289⟩
   refine ⟨_, rfl, ?_⟩
   have hz291 := hE.size
   have hA292 := Ext.refl w278
   have hea293 := hE
   have hz294 := hE.size
   have hap295 : OB v288 n2 := own_older hN289.own (bl hb8)
   have hap296 : OB v288 n153 := own_older hN289.own (bl hb169)
   have hap297 : OB v288 n204 := own_older hN289.own (bl hb205)
   have hap298 : OB v288 n132 := own_older hN289.own (bl hb1)
   have hap299 : OB v288 n238 := own_older hN289.own (bl hb252)
   have hap300 : ApartV v261 v288 := apartv_new ho276 hN289.own
   have hap301 : ApartV v288 v261 := apartv_new' ho276 hN289.own
   have hap302 : ApartV v277 v288 := apartv_new ho279 hN289.own
   have hap303 : ApartV v288 v277 := apartv_new' ho279 hN289.own
   have hE := hE.trans hN289.ext
   have hb8 := eb hN289.ext hb8
   have hb169 := eb hN289.ext hb169
   have hb205 := eb hN289.ext hb205
   have hb1 := eb hN289.ext hb1
   have hb252 := eb hN289.ext hb252
   have ho276 := Stab.own _ _ _ _ _ _ _ _ ho276 hN289.ext
   have ho279 := Stab.own _ _ _ _ _ _ _ _ ho279 hN289.ext
   have hA292 := hA292.trans hN289.ext
   have ho304 := hN289.own; clear hN289
   have ho304 := ownsRow_base ho304 hz291
   refine ⟨.inr ⟨hE, hb8, hb169, hb205, hb1, hb252, trivial⟩, ?_⟩
   refine chF_step rfl (Yk.callA2 wr6_pl51 (vr v288 rfl) (vr (AB ((((x.1.refs).getD (i) dUpd)).new.1)) rfl) ((putId_any _ v288 ((((([(x.1.kind : UInt8)] : List UInt8) ++ Lib.uvarint x.1.session.toNat : List UInt8) ++ Lib.uvarint ((x.1.refs).length) : List UInt8) ++ (x.1.refs.take i).flatMap updB ++ [((((x.1.refs).getD (i) dUpd)).kind : UInt8)] : List UInt8) ++ textB ((((x.1.refs).getD (i) dUpd)).name)) (RB.ofOwn ho304) (by simp only [List.length_append, List.length_cons, List.length_nil]; omega) ((((x.1.refs).getD (i) dUpd)).new)).mono ?_))
   rintro e w307 ⟨v305, rfl, hN306⟩
   refine ⟨_, rfl, ?_⟩
   have hz308 := hE.size
   have hA309 := Ext.refl w290
   have hea310 := hE
   have hea311 := hA292
   have hz312 := hE.size
   have hz313 := hA292.size
   have hap314 : OB v305 n2 := own_older hN306.own (bl hb8)
   have hap315 : OB v305 n153 := own_older hN306.own (bl hb169)
   have hap316 : OB v305 n204 := own_older hN306.own (bl hb205)
   have hap317 : OB v305 n132 := own_older hN306.own (bl hb1)
   have hap318 : OB v305 n238 := own_older hN306.own (bl hb252)
   have hap319 : ApartV v261 v305 := apartv_new ho276 hN306.own
   have hap320 : ApartV v305 v261 := apartv_new' ho276 hN306.own
   have hap321 : ApartV v277 v305 := apartv_new ho279 hN306.own
   have hap322 : ApartV v305 v277 := apartv_new' ho279 hN306.own
   have hap323 : ApartV v288 v305 := apartv_new ho304 hN306.own
   have hap324 : ApartV v305 v288 := apartv_new' ho304 hN306.own
   have hE := hE.trans hN306.ext
   have hb8 := eb hN306.ext hb8
   have hb169 := eb hN306.ext hb169
   have hb205 := eb hN306.ext hb205
   have hb1 := eb hN306.ext hb1
   have hb252 := eb hN306.ext hb252
   have ho276 := Stab.own _ _ _ _ _ _ _ _ ho276 hN306.ext
   have ho279 := Stab.own _ _ _ _ _ _ _ _ ho279 hN306.ext
   have ho304 := Stab.own _ _ _ _ _ _ _ _ ho304 hN306.ext
   have hA309 := hA309.trans hN306.ext
   have ho325 := hN306.own; clear hN306
   have ho325 := ownsRow_base ho325 hz308
   refine ⟨.inr ⟨hE, hb8, hb169, hb205, hb1, hb252, trivial⟩, ?_⟩
   refine chF_step rfl (Yk.storeC (i := 0) (v := v305) T4 (vr v305 rfl) hb1 (Nat.le_of_ble_eq_true rfl) wr6_isz26 (own_one ho325).1 (own_one ho325).2 fun w326 hb327 hg328 hs329 => ?_)
   have hE := row_fresh hE hg328 (Nat.le_trans hz141 (by omega))
   have hb8 := kb hg328 hb8 (by omega)
   have hb169 := kb hg328 hb169 (by omega)
   have hb205 := kb hg328 hb205 (by omega)
   clear hb1
   have hb252 := kb hg328 hb252 (by omega)
   have ho276 := own_kept ho276 hg328 hap272
   have ho279 := own_kept ho279 hg328 hap284
   have ho304 := own_kept ho304 hg328 hap298
   have ho325 := own_kept ho325 hg328 hap317
   have hb1 := hb327; clear hb327
   have hl330 := bl hb1
   refine ⟨.inl rfl, ?_⟩
   refine chF_nil (bN (tN (hK233 _ _ (wt (oS rfl (Yk.bin (xv := NI i) (yv := NI 1) T37 rfl rfl (i64_add _ _ _ (by omega)) (oM rfl (oL_ [(0, .agg (msgC x).toArray), (1, PQ n2 0), (2, (Value.slice none 0 0)), (3, NI 0), (4, PQ n132 0), (5, PQ n153 0), (6, .func (.func 49) #[] #[PQ n153 0, PQ n132 0]), (7, PQ n204 0), (9, PQ n238 0), (28, .bool (true)), (35, x.2.refs), (36, NI ((x.1.refs).length)), (37, NI ((i) + (1)))] ⟨T0, T1, T2, T3, T4, T5, T6, T7, rfl, T28, T35, T36, rfl, trivial⟩ fun ρ331 ⟨T0, T1, T2, T3, T4, T5, T6, T7, T9, T28, T35, T36, T37, _⟩ => ?_))))))))
   clear ho276
   clear ho279
   clear ho304
   refine tN (And.intro ⟨i + 1, v305, T0, T1, T2, T3, T4, T5, T6, T7, T28, T35, T36, T37, hE, hb8, hb169, hb205, hb1, own_eq (ownsRow_base ho325 (by omega)) (by rw [upds_snoc hlt]; simp only [updB, List.append_assoc]), by omega, hap314, hap315, hap316, hap317, trivial⟩ ?_)
   show x.1.refs.length - (intOf (ρ331 37)).toNat < x.1.refs.length - (intOf (ρ229 37)).toNat
   rw [T37, q37]
   simp only [intOf, Int.toNat_natCast]; omega
  have hie : i = x.1.refs.length := by omega
  have hLl := updsB_len hr2
  refine wpF_exit (thenF_exit (thenF_exit (inBlockF_hit (tN (hK214 _ _ (sk fun K332 hK332 => (sk fun K333 hK333 => (wt (oS rfl (Yk.fieldAt wr6_fo92_1 T7 (oS rfl (Yk.cell1 wr6_ty4 rfl (vr (PQ n204 1) rfl) (cellAt hb205 (show (partsC (⟨true, false, false, false, false, false, false, false⟩ : Parts))[1]? = some (.bool (false) : Value) from parts_g1 (⟨true, false, false, false, false, false, false, false⟩ : Parts))) (oZ (tN (hK333 _ _ (wpF_false (vr (.bool (false)) rfl) (wpF_skip (tN (hK332 _ _ (sk fun K334 hK334 => (sk fun K335 hK335 => (wt (oS rfl (Yk.fieldAt wr6_fo92_2 T7 ?_))))))))))))))))))))))))
  refine oS rfl (Yk.cell1 wr6_ty4 rfl (vr (PQ n204 2) rfl) (cellAt hb205 (show (partsC (⟨true, false, false, false, false, false, false, false⟩ : Parts))[2]? = some (.bool (false) : Value) from parts_g2 (⟨true, false, false, false, false, false, false, false⟩ : Parts))) (oZ (tN (hK335 _ _ (wpF_false (vr (.bool (false)) rfl) (wpF_skip (tN (hK334 _ _ (sk fun K336 hK336 => (sk fun K337 hK337 => (wt (oS rfl (Yk.fieldAt wr6_fo92_3 T7 (oS rfl (Yk.cell1 wr6_ty4 rfl (vr (PQ n204 3) rfl) (cellAt hb205 (show (partsC (⟨true, false, false, false, false, false, false, false⟩ : Parts))[3]? = some (.bool (false) : Value) from parts_g3 (⟨true, false, false, false, false, false, false, false⟩ : Parts))) (oZ (tN (hK337 _ _ (wpF_false (vr (.bool (false)) rfl) (wpF_skip (tN (hK336 _ _ ?_))))))))))))))))))))))
  refine sk fun K338 hK338 => (sk fun K339 hK339 => (wt (oS rfl (Yk.fieldAt wr6_fo92_4 T7 (oS rfl (Yk.cell1 wr6_ty4 rfl (vr (PQ n204 4) rfl) (cellAt hb205 (show (partsC (⟨true, false, false, false, false, false, false, false⟩ : Parts))[4]? = some (.bool (false) : Value) from parts_g4 (⟨true, false, false, false, false, false, false, false⟩ : Parts))) (oZ (tN (hK339 _ _ (wpF_false (vr (.bool (false)) rfl) (wpF_skip (tN (hK338 _ _ (sk fun K340 hK340 => (sk fun K341 hK341 => (wt (oS rfl (Yk.fieldAt wr6_fo92_5 T7 (oS rfl (Yk.cell1 wr6_ty4 rfl (vr (PQ n204 5) rfl) (cellAt hb205 (show (partsC (⟨true, false, false, false, false, false, false, false⟩ : Parts))[5]? = some (.bool (false) : Value) from parts_g5 (⟨true, false, false, false, false, false, false, false⟩ : Parts))) (oZ ?_)))))))))))))))))))))
  refine tN (hK341 _ _ (wpF_false (vr (.bool (false)) rfl) (wpF_skip (tN (hK340 _ _ (sk fun K342 hK342 => (sk fun K343 hK343 => (wt (oS rfl (Yk.fieldAt wr6_fo92_6 T7 (oS rfl (Yk.cell1 wr6_ty4 rfl (vr (PQ n204 6) rfl) (cellAt hb205 (show (partsC (⟨true, false, false, false, false, false, false, false⟩ : Parts))[6]? = some (.bool (false) : Value) from parts_g6 (⟨true, false, false, false, false, false, false, false⟩ : Parts))) (oZ (tN (hK343 _ _ (wpF_false (vr (.bool (false)) rfl) (wpF_skip (tN (hK342 _ _ (sk fun K344 hK344 => (sk fun K345 hK345 => ?_)))))))))))))))))))))
  refine wt (oS rfl (Yk.fieldAt wr6_fo92_7 T7 (oS rfl (Yk.cell1 wr6_ty4 rfl (vr (PQ n204 7) rfl) (cellAt hb205 (show (partsC (⟨true, false, false, false, false, false, false, false⟩ : Parts))[7]? = some (.bool (false) : Value) from parts_g7 (⟨true, false, false, false, false, false, false, false⟩ : Parts))) (oZ (tN (hK345 _ _ (wpF_false (vr (.bool (false)) rfl) (wpF_skip (tN (hK344 _ _ (sk fun K346 hK346 => (wt (oS rfl (Yk.cell1 wr6_ty26 rfl T4 (cellAt hb1 (show _ = some (vb1 : Value) from rfl)) (oA rfl (oA rfl (oZ (tN (hK346 _ _ (wpF_ret ?_)))))))))))))))))))))
  refine postF_ret (fn := Tryd.f16) _ rfl [vb1, NI 0] (.tuple #[vb1, NI 0]) rfl ⟨rfl, rfl, trivial⟩ ?_
  have hen : ((([(x.1.kind : UInt8)] : List UInt8) ++ Lib.uvarint x.1.session.toNat : List UInt8) ++ Lib.uvarint ((x.1.refs).length) : List UInt8) ++ (x.1.refs.take i).flatMap updB = encB x.1 := by unfold encB tailM; rw [hk]; simp [List.append_assoc, hie]
  exact ⟨vb1, by rw [hR]; rfl, by rw [hR, if_pos rfl, ← hen]; exact RB.ofOwn ho1, hE⟩
 ·refine wpF_skip (tN (hK10 _ _ (sk fun K347 hK347 => (wt (oS rfl (Yk.fieldAt wr6_fo29_0 (vr (PQ n2 0) rfl) (oS rfl (Yk.cell1 wr6_ty5 rfl (vr (PQ n2 0) rfl) (cellAt hb8 (show (msgC x)[0]? = some (B8 (x.1.kind) : Value) from msg_g0 x)) (oS rfl (Yk.lit1 (b := x.1.kind) wr6_l1_26 (vr (B8 (x.1.kind)) rfl) fun v348 w349 hN350 => ?_))))))))))
  have hA351 := Ext.refl w13
  have hea352 := hE
  have hz353 := hE.size
  have hap354 : OB v348 n2 := own_older hN350.own (bl hb8)
  have hE := hE.trans hN350.ext
  have hb8 := eb hN350.ext hb8
  have hA351 := hA351.trans hN350.ext
  have ho355 := hN350.own; clear hN350
  refine oS rfl (Yk.alloc (cs := ([(Value.slice none 0 0)]).toArray) wr6_al26 fun n356 w357 hn358 hb359 hx360 hs361 => ?_)
  have hA362 := Ext.refl w349
  have hea363 := hE
  have hea364 := hA351
  have hz365 := hE.size
  have hz366 := hA351.size
  have hlt367 := lte (bl hb8) hn358
  have hap368 : OB v348 n356 := own_newer ho355 (by omega)
  have hE := hE.trans hx360
  have hb8 := eb hx360 hb8
  have hA351 := hA351.trans hx360
  have ho355 := Stab.own _ _ _ _ _ _ _ _ ho355 hx360
  have hA362 := hA362.trans hx360
  have hb369 := hb359; clear hb359
  have hl370 : n356 < w357.heap.size := by omega
  refine oS rfl (Yk.storeC (i := 0) (v := v348) (vr (PQ n356 0) rfl) (vr v348 rfl) hb369 (Nat.le_of_ble_eq_true rfl) wr6_isz26 (own_one ho355).1 (own_one ho355).2 fun w371 hb372 hg373 hs374 => ?_)
  have hE := row_fresh hE hg373 (Nat.le_trans hz365 (by omega))
  have hb8 := kb hg373 hb8 (by omega)
  have hA351 := row_fresh hA351 hg373 (Nat.le_trans hz366 (by omega))
  have ho355 := own_kept ho355 hg373 hap368
  have hA362 := row_fresh hA362 hg373 (Nat.le_trans (Nat.le_refl _) (by omega))
  clear hb369
  have hb369 := hb372; clear hb372
  have hl375 := bl hb369
  refine oZ (tN (hK347 _ _ (sk fun K376 hK376 => (wt (oS rfl (Yk.mkFunc (vs := #[PQ n356 0]) (by simp only [List.map_toArray, List.map_cons, List.map_nil]; exact congrArg List.toArray (list1 (vr (PQ n356 0) rfl))) (oS rfl (Yk.alloc (cs := ([Value.nilFunc]).toArray) wr6_al89 fun n377 w378 hn379 hb380 hx381 hs382 => ?_))))))))
  have hA383 := Ext.refl w371
  have hea384 := hE
  have hea385 := hA351
  have hea386 := hA362
  have hz387 := hE.size
  have hz388 := hA351.size
  have hz389 := hA362.size
  have hlt390 := lte (bl hb8) hn379
  have hlt391 := lte (bl hb369) hn379
  have hap392 : OB v348 n377 := own_newer ho355 (by omega)
  have hE := hE.trans hx381
  have hb8 := eb hx381 hb8
  have hA351 := hA351.trans hx381
  have ho355 := Stab.own _ _ _ _ _ _ _ _ ho355 hx381
  have hA362 := hA362.trans hx381
  have hb369 := eb hx381 hb369
  have hA383 := hA383.trans hx381
  have hb393 := hb380; clear hb380
  have hl394 : n377 < w378.heap.size := by omega
  refine oS rfl (Yk.storeC (i := 0) (v := .func (.func 47) #[] #[PQ n356 0]) (vr (PQ n377 0) rfl) (vr (.func (.func 47) #[] #[PQ n356 0]) rfl) hb393 (Nat.le_of_ble_eq_true rfl) wr6_isz89 rfl rfl fun w395 hb396 hg397 hs398 => ?_)
  have hE := row_fresh hE hg397 (Nat.le_trans hz387 (by omega))
  have hb8 := kb hg397 hb8 (by omega)
  have hA351 := row_fresh hA351 hg397 (Nat.le_trans hz388 (by omega))
  have ho355 := own_kept ho355 hg397 hap392
  have hA362 := row_fresh hA362 hg397 (Nat.le_trans hz389 (by omega))
  have hb369 := kb hg397 hb369 (by omega)
  have hA383 := row_fresh hA383 hg397 (Nat.le_trans (Nat.le_refl _) (by omega))
  clear hb393
  have hb393 := hb396; clear hb396
  have hl399 := bl hb393
  refine oZ (tN (hK376 _ _ (sk fun K400 hK400 => (wt (oS rfl (Yk.mkFunc (vs := #[PQ n377 0, PQ n356 0]) (by simp only [List.map_toArray, List.map_cons, List.map_nil]; exact congrArg List.toArray (list2 (vr (PQ n377 0) rfl) (vr (PQ n356 0) rfl))) (oA rfl (oZ (tN (hK400 _ _ (sk fun K401 hK401 => (wt (oS rfl (Yk.cell1 wr6_ty89 rfl (vr (PQ n377 0) rfl) (cellAt hb393 (show _ = some (.func (.func 47) #[] #[PQ n356 0] : Value) from rfl)) (oS rfl (Yk.fieldAt wr6_fo29_1 (vr (PQ n2 0) rfl) (oS rfl (Yk.cell1 wr6_ty3 rfl (vr (PQ n2 1) rfl) (cellAt hb8 (show (msgC x)[1]? = some (.int .i64 (x.1.session : Int) : Value) from msg_g1 x)) (oS rfl (Yk.clo wr6_pl47 (caps := #[PQ n356 0]) (vr (.func (.func 47) #[] #[PQ n356 0]) rfl) #[.int .i64 (x.1.session : Int), PQ n356 0] (by simp only [List.map_toArray, List.map_cons, List.map_nil, List.append_toArray, List.cons_append, List.nil_append]; exact congrArg List.toArray (list2 (vr (.int .i64 (x.1.session : Int)) rfl) rfl)) ((enc1_any w _ hE n356 (by omega) v348 ([(x.1.kind : UInt8)]) hb369 (RB.ofOwn ho355) (by simp only [List.length_append, List.length_cons, List.length_nil]; omega) x.1.session (by omega) (by omega)).mono ?_)))))))))))))))))))))
  rintro e w406 ⟨v402, rfl, hb403, ho404, hg405⟩
  refine ⟨_, rfl, ?_⟩
  have hap407 : OB v402 n2 := own_older ho404 (bl hb8)
  have hap408 : OB v402 n356 := own_older ho404 (bl hb369)
  have hap409 : OB v402 n377 := own_older ho404 (bl hb393)
  have ho404 := ownsRow_base ho404 hE.size
  have hE := row_fresh hE hg405 (Nat.le_trans hz365 (by omega))
  have hb8 := kb hg405 hb8 (by omega)
  have hA351 := row_fresh hA351 hg405 (Nat.le_trans hz366 (by omega))
  clear ho355
  have hA362 := row_fresh hA362 hg405 (Nat.le_trans (Nat.le_refl _) (by omega))
  clear hb369
  clear hA383
  have hb393 := kb hg405 hb393 (by omega)
  have hb369 := hb403; clear hb403
  have hl410 := bl hb369
  refine oZ (tN (hK401 _ _ (sk fun K411 hK411 => ?_)))
  have hA412 := Ext.refl w406
  have hea413 := hE
  have hea414 := hA351
  have hea415 := hA362
  have hz416 := hE.size
  have hz417 := hA351.size
  have hz418 := hA362.size
  have hlt419 : n2 < w406.heap.size := (bl hb8)
  have hlt420 : n377 < w406.heap.size := (bl hb393)
  have hlt421 : n356 < w406.heap.size := (bl hb369)
  have hnw422 : ∀ g, w406.heap.size ≤ g → OB v402 g := fun g hg => own_newer ho404 hg
  refine wpF_draw_end 5 _ [fun x w' => ∃ b, x = .map (some b) ∧ MapF B8 partsV (fun _ : UInt8 => True) w' b kindsG, Is (PQ n2 0), Is (B8 (x.1.kind)), Is (.agg (partsC (⟨false, true, false, false, false, false, false, false⟩ : Parts)).toArray), fun x w' => ∃ g, x = PQ g 0 ∧ w'.heap[g]? = some (.cells (partsC (⟨false, false, false, false, false, false, false, false⟩ : Parts)).toArray 92 (0, 0)) ∧ w406.heap.size ≤ g] (by kernel_rfl) [23, 24, 25, 26, 7] (by kernel_rfl) (by kernel_rfl) (by kernel_rfl) rfl rfl rfl ⟨(fun _ _ _ ⟨b, h1, h2⟩ k => ⟨b, h1, MapF.keep h2 k⟩), Stab.is _, Stab.is _, Stab.is _, (fun _ _ _ ⟨g, h1, h2, h3⟩ k => ⟨g, h1, eb k h2, h3⟩), trivial⟩ ?hs5007 ?hQ5007
  case hs5007 =>
   refine ⟨?_, ?_, ?_, ?_, ?_, ?_, trivial⟩
   ·refine stepFL (stepN rfl fun σ w1 hC h => (Yk.callA0 wr6_pl50  ((kinds_any _).mono ?_)))
    rintro e w2 ⟨b, rfl, hmk, hx, hom⟩
    exact ⟨_, rfl, hx, ⟨b, rfl, hmk⟩⟩
   ·refine stepFL (stepN rfl fun σ w1 hC h => ?_)
    have e1 : σ 1 = PQ n2 0 := (eqo (h 1 (by decide))).trans rfl
    exact Yk.fieldAt wr6_fo29_0 e1 ⟨Ext.refl _, rfl⟩
   ·refine stepFL (stepN rfl fun σ w1 hC h => ?_)
    have e24 := eqo (h 24 (by decide))
    exact Yk.cell1 wr6_ty5 rfl e24 (cellAt (eb hC hb8) (show (msgC x)[0]? = some (B8 (x.1.kind) : Value) from msg_g0 x)) ⟨Ext.refl _, rfl⟩
   ·refine stepFL (stepN rfl fun σ w1 hC h => ?_)
    have e23 : (fun x w' => ∃ b, x = .map (some b) ∧ MapF B8 partsV (fun _ : UInt8 => True) w' b kindsG) (σ 23) w1 := h 23 (by decide)
    have e25 := eqo (h 25 (by decide))
    obtain ⟨b6, k6, m6⟩ := (show ∃ b, σ 23 = .map (some b) ∧ MapF B8 partsV (fun _ : UInt8 => True) w1 b kindsG from e23)
    exact Yk.lookMS (ek := B8) (ev := partsV) (D := fun _ : UInt8 => True) u8Law u8_ok (fun _ _ => b8_inj) wr6_ty93 (z := partsV dParts) zeroParts k6 e25 m6 trivial hK ⟨Ext.refl _, rfl⟩
   ·refine stepFL (stepN rfl fun σ w1 hC h => ?_)
    exact Yk.alloc (cs := (partsC (⟨false, false, false, false, false, false, false, false⟩ : Parts)).toArray) wr6_al92 fun g w2 hn hb hx hs => ⟨hx, g, rfl, hb, Nat.le_trans (show Ext w406 w1 from hC).size (Nat.le_of_eq hn)⟩
   ·exact trivial
  intro ρ423 w424 hx425 he hf
  obtain ⟨-, -, -, k26, k7, -⟩ := hf
  obtain ⟨T0, T1, T2, T3, T4, T5, T6, -⟩ := he.hold [(0, _), (1, PQ n2 0), (2, (Value.slice none 0 0)), (3, NI 0), (4, PQ n356 0), (5, PQ n377 0), (6, .func (.func 49) #[] #[PQ n377 0, PQ n356 0])] ⟨T0, rfl, rfl, rfl, rfl, rfl, rfl, trivial⟩ rfl
  clear he
  have hE := hE.trans hx425
  have hb8 := eb hx425 hb8
  have hA362 := hA362.trans hx425
  have hb393 := eb hx425 hb393
  have hb369 := eb hx425 hb369
  have ho404 := Stab.own _ _ _ _ _ _ _ _ ho404 hx425
  have hA412 := hA412.trans hx425
  have T26 : ρ423 26 = .agg (partsC (⟨false, true, false, false, false, false, false, false⟩ : Parts)).toArray := k26
  have k7 : (fun x w' => ∃ g, x = PQ g 0 ∧ w'.heap[g]? = some (.cells (partsC (⟨false, false, false, false, false, false, false, false⟩ : Parts)).toArray 92 (0, 0)) ∧ w406.heap.size ≤ g) (ρ423 7) w424 := k7
  obtain ⟨v426, T7⟩ : ∃ v, ρ423 7 = v := ⟨_, rfl⟩
  rw [T7] at k7
  have hk427 := k7; clear k7
  obtain ⟨n428, rfl, hb429, hn430⟩ := hk427
  have hl431 := bl hb429
  have hap432 : OB v402 n428 := hnw422 _ hn430
  clear k26
  refine (Yk.storeAll T7 T26 hb429 (by simp only [List.size_toArray, parts_len]) (st_isz (parts_len _) wr6_isz92) (parts_one (x := (⟨false, true, false, false, false, false, false, false⟩ : Parts))) fun w433 hb434 hg435 hs436 => ?_)
  have hE := row_fresh hE hg435 (Nat.le_trans hz416 (by omega))
  have hb8 := kb hg435 hb8 (by omega)
  have hA362 := row_fresh hA362 hg435 (Nat.le_trans hz418 (by omega))
  have hb393 := kb hg435 hb393 (by omega)
  have hb369 := kb hg435 hb369 (by omega)
  have ho404 := own_kept ho404 hg435 hap432
  have hA412 := row_fresh hA412 hg435 (Nat.le_trans (Nat.le_refl _) (by omega))
  clear hb429
  have hb429 : w433.heap[n428]? = some (.cells (partsC (⟨false, true, false, false, false, false, false, false⟩ : Parts)).toArray 92 (0, 0)) := hb434; clear hb434
  have hl437 := bl hb429
  refine tN (hK411 _ _ (sk fun K438 hK438 => (sk fun K439 hK439 => (wt (oS rfl (Yk.fieldAt wr6_fo92_0 T7 (oS rfl (Yk.cell1 wr6_ty4 rfl (vr (PQ n428 0) rfl) (cellAt hb429 (show (partsC (⟨false, true, false, false, false, false, false, false⟩ : Parts))[0]? = some (.bool (false) : Value) from parts_g0 (⟨false, true, false, false, false, false, false, false⟩ : Parts))) (oZ (tN (hK439 _ _ (wpF_false (vr (.bool (false)) rfl) (wpF_skip (tN (hK438 _ _ (sk fun K440 hK440 => (sk fun K441 hK441 => (wt (oS rfl (Yk.fieldAt wr6_fo92_1 T7 (oS rfl (Yk.cell1 wr6_ty4 rfl (vr (PQ n428 1) rfl) (cellAt hb429 (show (partsC (⟨false, true, false, false, false, false, false, false⟩ : Parts))[1]? = some (.bool (true) : Value) from parts_g1 (⟨false, true, false, false, false, false, false, false⟩ : Parts))) ?_))))))))))))))))))))))
  refine oZ (tN (hK441 _ _ (wpF_true (vr (.bool (true)) rfl) (sk fun K442 hK442 => (wt (oM rfl (oS rfl (Yk.fieldAt wr6_fo29_3 T1 (oS rfl (Yk.cell1 wr6_ty23 rfl (vr (PQ n2 3) rfl) (cellAt hb8 (show (msgC x)[3]? = some (x.2.wants : Value) from msg_g3 x)) (oS rfl (Yk.clo wr6_pl49 (caps := #[PQ n377 0, PQ n356 0]) T6 #[x.2.wants, PQ n377 0, PQ n356 0] (by simp only [List.map_toArray, List.map_cons, List.map_nil, List.append_toArray, List.cons_append, List.nil_append]; exact congrArg List.toArray (list3 (vr x.2.wants rfl) rfl rfl)) ((enc2_any w _ hE n356 n377 (by omega) (by omega) (by omega) v402 (([(x.1.kind : UInt8)] : List UInt8) ++ Lib.uvarint x.1.session.toNat) hb369 (RB.ofOwn ho404) hb393 _ x.1.wants hm.wants (by omega) (by simp only [List.length_append, List.length_cons, List.length_nil]; omega)).mono ?_)))))))))))))
  rintro e w448 ⟨v443, rfl, hb444, ho445, hap446, hg447⟩
  refine ⟨_, rfl, ?_⟩
  have hap449 : OB v443 n2 := own_older ho445 (bl hb8)
  have hap450 : OB v443 n377 := own_older ho445 (bl hb393)
  have hap451 : OB v443 n428 := own_older ho445 (bl hb429)
  have ho445 := ownsRow_base ho445 hE.size
  have hidlq452 := idsB_len (RG.lens hm.wants) (by omega)
  have hE := row_fresh hE hg447 (Nat.le_trans hz365 (by omega))
  have hb8 := kb hg447 hb8 (by omega)
  have hA362 := row_fresh hA362 hg447 (Nat.le_trans (Nat.le_refl _) (by omega))
  have hb393 := kb hg447 hb393 (by omega)
  clear hb369
  clear ho404
  clear hA412
  have hb429 := kb hg447 hb429 (by omega)
  have hb369 := hb444; clear hb444
  have hl453 := bl hb369
  refine oZ (tN (hK442 _ _ (wt (oM rfl (oS rfl (Yk.fieldAt wr6_fo29_4 T1 (oS rfl (Yk.cell1 wr6_ty23 rfl (vr (PQ n2 4) rfl) (cellAt hb8 (show (msgC x)[4]? = some (x.2.haves : Value) from msg_g4 x)) (oS rfl (Yk.clo wr6_pl49 (caps := #[PQ n377 0, PQ n356 0]) T6 #[x.2.haves, PQ n377 0, PQ n356 0] (by simp only [List.map_toArray, List.map_cons, List.map_nil, List.append_toArray, List.cons_append, List.nil_append]; exact congrArg List.toArray (list3 (vr x.2.haves rfl) rfl rfl)) ((enc2_any w _ hE n356 n377 (by omega) (by omega) (by omega) v443 ((([(x.1.kind : UInt8)] : List UInt8) ++ Lib.uvarint x.1.session.toNat : List UInt8) ++ idsB x.1.wants) hb369 (RB.ofOwn ho445) hb393 _ x.1.haves hm.haves (by omega) (by simp only [List.length_append, List.length_cons, List.length_nil]; omega)).mono ?_)))))))))))
  rintro e w459 ⟨v454, rfl, hb455, ho456, hap457, hg458⟩
  refine ⟨_, rfl, ?_⟩
  have hap460 : OB v454 n2 := own_older ho456 (bl hb8)
  have hap461 : OB v454 n377 := own_older ho456 (bl hb393)
  have hap462 : OB v454 n428 := own_older ho456 (bl hb429)
  have ho456 := ownsRow_base ho456 hE.size
  have hidlq463 := idsB_len (RG.lens hm.haves) (by omega)
  have hE := row_fresh hE hg458 (Nat.le_trans hz365 (by omega))
  have hb8 := kb hg458 hb8 (by omega)
  have hA362 := row_fresh hA362 hg458 (Nat.le_trans (Nat.le_refl _) (by omega))
  have hb393 := kb hg458 hb393 (by omega)
  have hb429 := kb hg458 hb429 (by omega)
  clear hb369
  clear ho445
  have hb369 := hb455; clear hb455
  have hl464 := bl hb369
  refine oZ (tN (hK440 _ _ (sk fun K465 hK465 => (sk fun K466 hK466 => (wt (oS rfl (Yk.fieldAt wr6_fo92_2 T7 (oS rfl (Yk.cell1 wr6_ty4 rfl (vr (PQ n428 2) rfl) (cellAt hb429 (show (partsC (⟨false, true, false, false, false, false, false, false⟩ : Parts))[2]? = some (.bool (false) : Value) from parts_g2 (⟨false, true, false, false, false, false, false, false⟩ : Parts))) (oZ (tN (hK466 _ _ (wpF_false (vr (.bool (false)) rfl) (wpF_skip (tN (hK465 _ _ (sk fun K467 hK467 => (sk fun K468 hK468 => (wt (oS rfl (Yk.fieldAt wr6_fo92_3 T7 ?_)))))))))))))))))))))
  refine oS rfl (Yk.cell1 wr6_ty4 rfl (vr (PQ n428 3) rfl) (cellAt hb429 (show (partsC (⟨false, true, false, false, false, false, false, false⟩ : Parts))[3]? = some (.bool (false) : Value) from parts_g3 (⟨false, true, false, false, false, false, false, false⟩ : Parts))) (oZ (tN (hK468 _ _ (wpF_false (vr (.bool (false)) rfl) (wpF_skip (tN (hK467 _ _ (sk fun K469 hK469 => (sk fun K470 hK470 => (wt (oS rfl (Yk.fieldAt wr6_fo92_4 T7 (oS rfl (Yk.cell1 wr6_ty4 rfl (vr (PQ n428 4) rfl) (cellAt hb429 (show (partsC (⟨false, true, false, false, false, false, false, false⟩ : Parts))[4]? = some (.bool (false) : Value) from parts_g4 (⟨false, true, false, false, false, false, false, false⟩ : Parts))) (oZ (tN (hK470 _ _ (wpF_false (vr (.bool (false)) rfl) (wpF_skip (tN (hK469 _ _ ?_))))))))))))))))))))))
  refine sk fun K471 hK471 => (sk fun K472 hK472 => (wt (oS rfl (Yk.fieldAt wr6_fo92_5 T7 (oS rfl (Yk.cell1 wr6_ty4 rfl (vr (PQ n428 5) rfl) (cellAt hb429 (show (partsC (⟨false, true, false, false, false, false, false, false⟩ : Parts))[5]? = some (.bool (false) : Value) from parts_g5 (⟨false, true, false, false, false, false, false, false⟩ : Parts))) (oZ (tN (hK472 _ _ (wpF_false (vr (.bool (false)) rfl) (wpF_skip (tN (hK471 _ _ (sk fun K473 hK473 => (sk fun K474 hK474 => (wt (oS rfl (Yk.fieldAt wr6_fo92_6 T7 (oS rfl (Yk.cell1 wr6_ty4 rfl (vr (PQ n428 6) rfl) (cellAt hb429 (show (partsC (⟨false, true, false, false, false, false, false, false⟩ : Parts))[6]? = some (.bool (false) : Value) from parts_g6 (⟨false, true, false, false, false, false, false, false⟩ : Parts))) (oZ ?_)))))))))))))))))))))
  refine tN (hK474 _ _ (wpF_false (vr (.bool (false)) rfl) (wpF_skip (tN (hK473 _ _ (sk fun K475 hK475 => (sk fun K476 hK476 => (wt (oS rfl (Yk.fieldAt wr6_fo92_7 T7 (oS rfl (Yk.cell1 wr6_ty4 rfl (vr (PQ n428 7) rfl) (cellAt hb429 (show (partsC (⟨false, true, false, false, false, false, false, false⟩ : Parts))[7]? = some (.bool (false) : Value) from parts_g7 (⟨false, true, false, false, false, false, false, false⟩ : Parts))) (oZ (tN (hK476 _ _ (wpF_false (vr (.bool (false)) rfl) (wpF_skip (tN (hK475 _ _ (sk fun K477 hK477 => (wt ?_)))))))))))))))))))))
  refine oS rfl (Yk.cell1 wr6_ty26 rfl T4 (cellAt hb369 (show _ = some (v454 : Value) from rfl)) (oA rfl (oA rfl (oZ (tN (hK477 _ _ (wpF_ret (postF_ret (fn := Tryd.f16) _ rfl [v454, NI 0] (.tuple #[v454, NI 0]) rfl ⟨rfl, rfl, trivial⟩ ?_))))))))
  have hen : ((([(x.1.kind : UInt8)] : List UInt8) ++ Lib.uvarint x.1.session.toNat : List UInt8) ++ idsB x.1.wants : List UInt8) ++ idsB x.1.haves = encB x.1 := by unfold encB tailM; rw [hk]; simp [List.append_assoc]
  exact ⟨v454, by rw [hR]; rfl, by rw [hR, if_pos rfl, ← hen]; exact RB.ofOwn ho456, hE⟩
 ·refine wpF_skip (tN (hK10 _ _ (sk fun K478 hK478 => (wt (oS rfl (Yk.fieldAt wr6_fo29_0 (vr (PQ n2 0) rfl) (oS rfl (Yk.cell1 wr6_ty5 rfl (vr (PQ n2 0) rfl) (cellAt hb8 (show (msgC x)[0]? = some (B8 (x.1.kind) : Value) from msg_g0 x)) (oS rfl (Yk.lit1 (b := x.1.kind) wr6_l1_26 (vr (B8 (x.1.kind)) rfl) fun v479 w480 hN481 => ?_))))))))))
  have hA482 := Ext.refl w13
  have hea483 := hE
  have hz484 := hE.size
  have hap485 : OB v479 n2 := own_older hN481.own (bl hb8)
  have hE := hE.trans hN481.ext
  have hb8 := eb hN481.ext hb8
  have hA482 := hA482.trans hN481.ext
  have ho486 := hN481.own; clear hN481
  refine oS rfl (Yk.alloc (cs := ([(Value.slice none 0 0)]).toArray) wr6_al26 fun n487 w488 hn489 hb490 hx491 hs492 => ?_)
  have hA493 := Ext.refl w480
  have hea494 := hE
  have hea495 := hA482
  have hz496 := hE.size
  have hz497 := hA482.size
  have hlt498 := lte (bl hb8) hn489
  have hap499 : OB v479 n487 := own_newer ho486 (by omega)
  have hE := hE.trans hx491
  have hb8 := eb hx491 hb8
  have hA482 := hA482.trans hx491
  have ho486 := Stab.own _ _ _ _ _ _ _ _ ho486 hx491
  have hA493 := hA493.trans hx491
  have hb500 := hb490; clear hb490
  have hl501 : n487 < w488.heap.size := by omega
  refine oS rfl (Yk.storeC (i := 0) (v := v479) (vr (PQ n487 0) rfl) (vr v479 rfl) hb500 (Nat.le_of_ble_eq_true rfl) wr6_isz26 (own_one ho486).1 (own_one ho486).2 fun w502 hb503 hg504 hs505 => ?_)
  have hE := row_fresh hE hg504 (Nat.le_trans hz496 (by omega))
  have hb8 := kb hg504 hb8 (by omega)
  have hA482 := row_fresh hA482 hg504 (Nat.le_trans hz497 (by omega))
  have ho486 := own_kept ho486 hg504 hap499
  have hA493 := row_fresh hA493 hg504 (Nat.le_trans (Nat.le_refl _) (by omega))
  clear hb500
  have hb500 := hb503; clear hb503
  have hl506 := bl hb500
  refine oZ (tN (hK478 _ _ (sk fun K507 hK507 => (wt (oS rfl (Yk.mkFunc (vs := #[PQ n487 0]) (by simp only [List.map_toArray, List.map_cons, List.map_nil]; exact congrArg List.toArray (list1 (vr (PQ n487 0) rfl))) (oS rfl (Yk.alloc (cs := ([Value.nilFunc]).toArray) wr6_al89 fun n508 w509 hn510 hb511 hx512 hs513 => ?_))))))))
  have hA514 := Ext.refl w502
  have hea515 := hE
  have hea516 := hA482
  have hea517 := hA493
  have hz518 := hE.size
  have hz519 := hA482.size
  have hz520 := hA493.size
  have hlt521 := lte (bl hb8) hn510
  have hlt522 := lte (bl hb500) hn510
  have hap523 : OB v479 n508 := own_newer ho486 (by omega)
  have hE := hE.trans hx512
  have hb8 := eb hx512 hb8
  have hA482 := hA482.trans hx512
  have ho486 := Stab.own _ _ _ _ _ _ _ _ ho486 hx512
  have hA493 := hA493.trans hx512
  have hb500 := eb hx512 hb500
  have hA514 := hA514.trans hx512
  have hb524 := hb511; clear hb511
  have hl525 : n508 < w509.heap.size := by omega
  refine oS rfl (Yk.storeC (i := 0) (v := .func (.func 47) #[] #[PQ n487 0]) (vr (PQ n508 0) rfl) (vr (.func (.func 47) #[] #[PQ n487 0]) rfl) hb524 (Nat.le_of_ble_eq_true rfl) wr6_isz89 rfl rfl fun w526 hb527 hg528 hs529 => ?_)
  have hE := row_fresh hE hg528 (Nat.le_trans hz518 (by omega))
  have hb8 := kb hg528 hb8 (by omega)
  have hA482 := row_fresh hA482 hg528 (Nat.le_trans hz519 (by omega))
  have ho486 := own_kept ho486 hg528 hap523
  have hA493 := row_fresh hA493 hg528 (Nat.le_trans hz520 (by omega))
  have hb500 := kb hg528 hb500 (by omega)
  have hA514 := row_fresh hA514 hg528 (Nat.le_trans (Nat.le_refl _) (by omega))
  clear hb524
  have hb524 := hb527; clear hb527
  have hl530 := bl hb524
  refine oZ (tN (hK507 _ _ (sk fun K531 hK531 => (wt (oS rfl (Yk.mkFunc (vs := #[PQ n508 0, PQ n487 0]) (by simp only [List.map_toArray, List.map_cons, List.map_nil]; exact congrArg List.toArray (list2 (vr (PQ n508 0) rfl) (vr (PQ n487 0) rfl))) (oA rfl (oZ (tN (hK531 _ _ (sk fun K532 hK532 => (wt (oS rfl (Yk.cell1 wr6_ty89 rfl (vr (PQ n508 0) rfl) (cellAt hb524 (show _ = some (.func (.func 47) #[] #[PQ n487 0] : Value) from rfl)) (oS rfl (Yk.fieldAt wr6_fo29_1 (vr (PQ n2 0) rfl) (oS rfl (Yk.cell1 wr6_ty3 rfl (vr (PQ n2 1) rfl) (cellAt hb8 (show (msgC x)[1]? = some (.int .i64 (x.1.session : Int) : Value) from msg_g1 x)) (oS rfl (Yk.clo wr6_pl47 (caps := #[PQ n487 0]) (vr (.func (.func 47) #[] #[PQ n487 0]) rfl) #[.int .i64 (x.1.session : Int), PQ n487 0] (by simp only [List.map_toArray, List.map_cons, List.map_nil, List.append_toArray, List.cons_append, List.nil_append]; exact congrArg List.toArray (list2 (vr (.int .i64 (x.1.session : Int)) rfl) rfl)) ((enc1_any w _ hE n487 (by omega) v479 ([(x.1.kind : UInt8)]) hb500 (RB.ofOwn ho486) (by simp only [List.length_append, List.length_cons, List.length_nil]; omega) x.1.session (by omega) (by omega)).mono ?_)))))))))))))))))))))
  rintro e w537 ⟨v533, rfl, hb534, ho535, hg536⟩
  refine ⟨_, rfl, ?_⟩
  have hap538 : OB v533 n2 := own_older ho535 (bl hb8)
  have hap539 : OB v533 n487 := own_older ho535 (bl hb500)
  have hap540 : OB v533 n508 := own_older ho535 (bl hb524)
  have ho535 := ownsRow_base ho535 hE.size
  have hE := row_fresh hE hg536 (Nat.le_trans hz496 (by omega))
  have hb8 := kb hg536 hb8 (by omega)
  have hA482 := row_fresh hA482 hg536 (Nat.le_trans hz497 (by omega))
  clear ho486
  have hA493 := row_fresh hA493 hg536 (Nat.le_trans (Nat.le_refl _) (by omega))
  clear hb500
  clear hA514
  have hb524 := kb hg536 hb524 (by omega)
  have hb500 := hb534; clear hb534
  have hl541 := bl hb500
  refine oZ (tN (hK532 _ _ (sk fun K542 hK542 => ?_)))
  have hA543 := Ext.refl w537
  have hea544 := hE
  have hea545 := hA482
  have hea546 := hA493
  have hz547 := hE.size
  have hz548 := hA482.size
  have hz549 := hA493.size
  have hlt550 : n2 < w537.heap.size := (bl hb8)
  have hlt551 : n508 < w537.heap.size := (bl hb524)
  have hlt552 : n487 < w537.heap.size := (bl hb500)
  have hnw553 : ∀ g, w537.heap.size ≤ g → OB v533 g := fun g hg => own_newer ho535 hg
  refine wpF_draw_end 5 _ [fun x w' => ∃ b, x = .map (some b) ∧ MapF B8 partsV (fun _ : UInt8 => True) w' b kindsG, Is (PQ n2 0), Is (B8 (x.1.kind)), Is (.agg (partsC (⟨false, false, true, false, true, false, false, false⟩ : Parts)).toArray), fun x w' => ∃ g, x = PQ g 0 ∧ w'.heap[g]? = some (.cells (partsC (⟨false, false, false, false, false, false, false, false⟩ : Parts)).toArray 92 (0, 0)) ∧ w537.heap.size ≤ g] (by kernel_rfl) [23, 24, 25, 26, 7] (by kernel_rfl) (by kernel_rfl) (by kernel_rfl) rfl rfl rfl ⟨(fun _ _ _ ⟨b, h1, h2⟩ k => ⟨b, h1, MapF.keep h2 k⟩), Stab.is _, Stab.is _, Stab.is _, (fun _ _ _ ⟨g, h1, h2, h3⟩ k => ⟨g, h1, eb k h2, h3⟩), trivial⟩ ?hs6007 ?hQ6007
  case hs6007 =>
   refine ⟨?_, ?_, ?_, ?_, ?_, ?_, trivial⟩
   ·refine stepFL (stepN rfl fun σ w1 hC h => (Yk.callA0 wr6_pl50  ((kinds_any _).mono ?_)))
    rintro e w2 ⟨b, rfl, hmk, hx, hom⟩
    exact ⟨_, rfl, hx, ⟨b, rfl, hmk⟩⟩
   ·refine stepFL (stepN rfl fun σ w1 hC h => ?_)
    have e1 : σ 1 = PQ n2 0 := (eqo (h 1 (by decide))).trans rfl
    exact Yk.fieldAt wr6_fo29_0 e1 ⟨Ext.refl _, rfl⟩
   ·refine stepFL (stepN rfl fun σ w1 hC h => ?_)
    have e24 := eqo (h 24 (by decide))
    exact Yk.cell1 wr6_ty5 rfl e24 (cellAt (eb hC hb8) (show (msgC x)[0]? = some (B8 (x.1.kind) : Value) from msg_g0 x)) ⟨Ext.refl _, rfl⟩
   ·refine stepFL (stepN rfl fun σ w1 hC h => ?_)
    have e23 : (fun x w' => ∃ b, x = .map (some b) ∧ MapF B8 partsV (fun _ : UInt8 => True) w' b kindsG) (σ 23) w1 := h 23 (by decide)
    have e25 := eqo (h 25 (by decide))
    obtain ⟨b6, k6, m6⟩ := (show ∃ b, σ 23 = .map (some b) ∧ MapF B8 partsV (fun _ : UInt8 => True) w1 b kindsG from e23)
    exact Yk.lookMS (ek := B8) (ev := partsV) (D := fun _ : UInt8 => True) u8Law u8_ok (fun _ _ => b8_inj) wr6_ty93 (z := partsV dParts) zeroParts k6 e25 m6 trivial hK ⟨Ext.refl _, rfl⟩
   ·refine stepFL (stepN rfl fun σ w1 hC h => ?_)
    exact Yk.alloc (cs := (partsC (⟨false, false, false, false, false, false, false, false⟩ : Parts)).toArray) wr6_al92 fun g w2 hn hb hx hs => ⟨hx, g, rfl, hb, Nat.le_trans (show Ext w537 w1 from hC).size (Nat.le_of_eq hn)⟩
   ·exact trivial
  intro ρ554 w555 hx556 he hf
  obtain ⟨-, -, -, k26, k7, -⟩ := hf
  obtain ⟨T0, T1, T2, T3, T4, T5, T6, -⟩ := he.hold [(0, _), (1, PQ n2 0), (2, (Value.slice none 0 0)), (3, NI 0), (4, PQ n487 0), (5, PQ n508 0), (6, .func (.func 49) #[] #[PQ n508 0, PQ n487 0])] ⟨T0, rfl, rfl, rfl, rfl, rfl, rfl, trivial⟩ rfl
  clear he
  have hE := hE.trans hx556
  have hb8 := eb hx556 hb8
  have hA493 := hA493.trans hx556
  have hb524 := eb hx556 hb524
  have hb500 := eb hx556 hb500
  have ho535 := Stab.own _ _ _ _ _ _ _ _ ho535 hx556
  have hA543 := hA543.trans hx556
  have T26 : ρ554 26 = .agg (partsC (⟨false, false, true, false, true, false, false, false⟩ : Parts)).toArray := k26
  have k7 : (fun x w' => ∃ g, x = PQ g 0 ∧ w'.heap[g]? = some (.cells (partsC (⟨false, false, false, false, false, false, false, false⟩ : Parts)).toArray 92 (0, 0)) ∧ w537.heap.size ≤ g) (ρ554 7) w555 := k7
  obtain ⟨v557, T7⟩ : ∃ v, ρ554 7 = v := ⟨_, rfl⟩
  rw [T7] at k7
  have hk558 := k7; clear k7
  obtain ⟨n559, rfl, hb560, hn561⟩ := hk558
  have hl562 := bl hb560
  have hap563 : OB v533 n559 := hnw553 _ hn561
  clear k26
  refine (Yk.storeAll T7 T26 hb560 (by simp only [List.size_toArray, parts_len]) (st_isz (parts_len _) wr6_isz92) (parts_one (x := (⟨false, false, true, false, true, false, false, false⟩ : Parts))) fun w564 hb565 hg566 hs567 => ?_)
  have hE := row_fresh hE hg566 (Nat.le_trans hz547 (by omega))
  have hb8 := kb hg566 hb8 (by omega)
  have hA493 := row_fresh hA493 hg566 (Nat.le_trans hz549 (by omega))
  have hb524 := kb hg566 hb524 (by omega)
  have hb500 := kb hg566 hb500 (by omega)
  have ho535 := own_kept ho535 hg566 hap563
  have hA543 := row_fresh hA543 hg566 (Nat.le_trans (Nat.le_refl _) (by omega))
  clear hb560
  have hb560 : w564.heap[n559]? = some (.cells (partsC (⟨false, false, true, false, true, false, false, false⟩ : Parts)).toArray 92 (0, 0)) := hb565; clear hb565
  have hl568 := bl hb560
  refine tN (hK542 _ _ (sk fun K569 hK569 => (sk fun K570 hK570 => (wt (oS rfl (Yk.fieldAt wr6_fo92_0 T7 (oS rfl (Yk.cell1 wr6_ty4 rfl (vr (PQ n559 0) rfl) (cellAt hb560 (show (partsC (⟨false, false, true, false, true, false, false, false⟩ : Parts))[0]? = some (.bool (false) : Value) from parts_g0 (⟨false, false, true, false, true, false, false, false⟩ : Parts))) (oZ (tN (hK570 _ _ (wpF_false (vr (.bool (false)) rfl) (wpF_skip (tN (hK569 _ _ (sk fun K571 hK571 => (sk fun K572 hK572 => (wt (oS rfl (Yk.fieldAt wr6_fo92_1 T7 (oS rfl (Yk.cell1 wr6_ty4 rfl (vr (PQ n559 1) rfl) (cellAt hb560 (show (partsC (⟨false, false, true, false, true, false, false, false⟩ : Parts))[1]? = some (.bool (false) : Value) from parts_g1 (⟨false, false, true, false, true, false, false, false⟩ : Parts))) ?_))))))))))))))))))))))
  refine oZ (tN (hK572 _ _ (wpF_false (vr (.bool (false)) rfl) (wpF_skip (tN (hK571 _ _ (sk fun K573 hK573 => (sk fun K574 hK574 => (wt (oS rfl (Yk.fieldAt wr6_fo92_2 T7 (oS rfl (Yk.cell1 wr6_ty4 rfl (vr (PQ n559 2) rfl) (cellAt hb560 (show (partsC (⟨false, false, true, false, true, false, false, false⟩ : Parts))[2]? = some (.bool (true) : Value) from parts_g2 (⟨false, false, true, false, true, false, false, false⟩ : Parts))) (oZ (tN (hK574 _ _ (wpF_true (vr (.bool (true)) rfl) (wt (oS rfl (Yk.cell1 wr6_ty89 rfl T5 (cellAt hb524 (show _ = some (.func (.func 47) #[] #[PQ n487 0] : Value) from rfl)) (oS rfl (Yk.fieldAt wr6_fo29_5 T1 ?_))))))))))))))))))))))
  refine oS rfl (Yk.cell1 wr6_ty3 rfl (vr (PQ n2 5) rfl) (cellAt hb8 (show (msgC x)[5]? = some (.int .i64 (x.1.size : Int) : Value) from msg_g5 x)) (oS rfl (Yk.clo wr6_pl47 (caps := #[PQ n487 0]) (vr (.func (.func 47) #[] #[PQ n487 0]) rfl) #[.int .i64 (x.1.size : Int), PQ n487 0] (by simp only [List.map_toArray, List.map_cons, List.map_nil, List.append_toArray, List.cons_append, List.nil_append]; exact congrArg List.toArray (list2 (vr (.int .i64 (x.1.size : Int)) rfl) rfl)) ((enc1_any w _ hE n487 (by omega) v533 (([(x.1.kind : UInt8)] : List UInt8) ++ Lib.uvarint x.1.session.toNat) hb500 (RB.ofOwn ho535) (by simp only [List.length_append, List.length_cons, List.length_nil]; omega) x.1.size (by omega) (by omega)).mono ?_))))
  rintro e w579 ⟨v575, rfl, hb576, ho577, hg578⟩
  refine ⟨_, rfl, ?_⟩
  have hap580 : OB v575 n2 := own_older ho577 (bl hb8)
  have hap581 : OB v575 n508 := own_older ho577 (bl hb524)
  have hap582 : OB v575 n487 := own_older ho577 (bl hb500)
  have hap583 : OB v575 n559 := own_older ho577 (bl hb560)
  have ho577 := ownsRow_base ho577 hE.size
  have hE := row_fresh hE hg578 (Nat.le_trans hz496 (by omega))
  have hb8 := kb hg578 hb8 (by omega)
  have hA493 := row_fresh hA493 hg578 (Nat.le_trans (Nat.le_refl _) (by omega))
  have hb524 := kb hg578 hb524 (by omega)
  clear hb500
  clear ho535
  clear hA543
  have hb560 := kb hg578 hb560 (by omega)
  have hb500 := hb576; clear hb576
  have hl584 := bl hb500
  refine oZ (tN (hK573 _ _ (sk fun K585 hK585 => (sk fun K586 hK586 => (wt (oS rfl (Yk.fieldAt wr6_fo92_3 T7 (oS rfl (Yk.cell1 wr6_ty4 rfl (vr (PQ n559 3) rfl) (cellAt hb560 (show (partsC (⟨false, false, true, false, true, false, false, false⟩ : Parts))[3]? = some (.bool (false) : Value) from parts_g3 (⟨false, false, true, false, true, false, false, false⟩ : Parts))) (oZ (tN (hK586 _ _ (wpF_false (vr (.bool (false)) rfl) (wpF_skip (tN (hK585 _ _ (sk fun K587 hK587 => (sk fun K588 hK588 => (wt (oS rfl (Yk.fieldAt wr6_fo92_4 T7 ?_)))))))))))))))))))))
  refine oS rfl (Yk.cell1 wr6_ty4 rfl (vr (PQ n559 4) rfl) (cellAt hb560 (show (partsC (⟨false, false, true, false, true, false, false, false⟩ : Parts))[4]? = some (.bool (true) : Value) from parts_g4 (⟨false, false, true, false, true, false, false, false⟩ : Parts))) (oZ (tN (hK588 _ _ (wpF_true (vr (.bool (true)) rfl) (wt (oS rfl (Yk.cell1 wr6_ty26 rfl T4 (cellAt hb500 (show _ = some (v575 : Value) from rfl)) (oS rfl (Yk.fieldAt wr6_fo29_7 T1 (oS rfl (Yk.loadPR (PR.blk hb8 (msg_m7 x) (msg_n7 x) (vr (PQ n2 7) rfl)) wr6_ty25 rfl (sizeId_of x.1.id.2) (oS rfl (Yk.callA2 wr6_pl51 (vr v575 rfl) (vr (AB x.1.id.1) rfl) ((putId_any _ v575 ((([(x.1.kind : UInt8)] : List UInt8) ++ Lib.uvarint x.1.session.toNat : List UInt8) ++ Lib.uvarint x.1.size.toNat) (RB.ofOwn ho577) (by simp only [List.length_append, List.length_cons, List.length_nil]; omega) x.1.id).mono ?_)))))))))))))))
  rintro e w591 ⟨v589, rfl, hN590⟩
  refine ⟨_, rfl, ?_⟩
  have hz592 := hE.size
  have hA593 := Ext.refl w579
  have hea594 := hE
  have hea595 := hA493
  have hz596 := hE.size
  have hz597 := hA493.size
  have hap598 : OB v589 n2 := own_older hN590.own (bl hb8)
  have hap599 : OB v589 n508 := own_older hN590.own (bl hb524)
  have hap600 : OB v589 n559 := own_older hN590.own (bl hb560)
  have hap601 : OB v589 n487 := own_older hN590.own (bl hb500)
  have hap602 : ApartV v575 v589 := apartv_new ho577 hN590.own
  have hap603 : ApartV v589 v575 := apartv_new' ho577 hN590.own
  have hE := hE.trans hN590.ext
  have hb8 := eb hN590.ext hb8
  have hA493 := hA493.trans hN590.ext
  have hb524 := eb hN590.ext hb524
  have hb560 := eb hN590.ext hb560
  have hb500 := eb hN590.ext hb500
  have ho577 := Stab.own _ _ _ _ _ _ _ _ ho577 hN590.ext
  have hA593 := hA593.trans hN590.ext
  have ho604 := hN590.own; clear hN590
  have ho604 := ownsRow_base ho604 hz592
  refine oS rfl (Yk.storeC (i := 0) (v := v589) T4 (vr v589 rfl) hb500 (Nat.le_of_ble_eq_true rfl) wr6_isz26 (own_one ho604).1 (own_one ho604).2 fun w605 hb606 hg607 hs608 => ?_)
  have hE := row_fresh hE hg607 (Nat.le_trans hz496 (by omega))
  have hb8 := kb hg607 hb8 (by omega)
  have hA493 := row_fresh hA493 hg607 (Nat.le_trans (Nat.le_refl _) (by omega))
  have hb524 := kb hg607 hb524 (by omega)
  have hb560 := kb hg607 hb560 (by omega)
  clear hb500
  have ho577 := own_kept ho577 hg607 hap582
  have ho604 := own_kept ho604 hg607 hap601
  have hb500 := hb606; clear hb606
  have hl609 := bl hb500
  refine oZ ?_
  clear ho577
  refine tN (hK587 _ _ (sk fun K610 hK610 => (sk fun K611 hK611 => (wt (oS rfl (Yk.fieldAt wr6_fo92_5 T7 (oS rfl (Yk.cell1 wr6_ty4 rfl (vr (PQ n559 5) rfl) (cellAt hb560 (show (partsC (⟨false, false, true, false, true, false, false, false⟩ : Parts))[5]? = some (.bool (false) : Value) from parts_g5 (⟨false, false, true, false, true, false, false, false⟩ : Parts))) (oZ (tN (hK611 _ _ (wpF_false (vr (.bool (false)) rfl) (wpF_skip (tN (hK610 _ _ (sk fun K612 hK612 => (sk fun K613 hK613 => (wt (oS rfl (Yk.fieldAt wr6_fo92_6 T7 (oS rfl (Yk.cell1 wr6_ty4 rfl (vr (PQ n559 6) rfl) (cellAt hb560 (show (partsC (⟨false, false, true, false, true, false, false, false⟩ : Parts))[6]? = some (.bool (false) : Value) from parts_g6 (⟨false, false, true, false, true, false, false, false⟩ : Parts))) ?_))))))))))))))))))))))
  refine oZ (tN (hK613 _ _ (wpF_false (vr (.bool (false)) rfl) (wpF_skip (tN (hK612 _ _ (sk fun K614 hK614 => (sk fun K615 hK615 => (wt (oS rfl (Yk.fieldAt wr6_fo92_7 T7 (oS rfl (Yk.cell1 wr6_ty4 rfl (vr (PQ n559 7) rfl) (cellAt hb560 (show (partsC (⟨false, false, true, false, true, false, false, false⟩ : Parts))[7]? = some (.bool (false) : Value) from parts_g7 (⟨false, false, true, false, true, false, false, false⟩ : Parts))) (oZ (tN (hK615 _ _ (wpF_false (vr (.bool (false)) rfl) (wpF_skip (tN (hK614 _ _ (sk fun K616 hK616 => ?_)))))))))))))))))))))
  refine wt (oS rfl (Yk.cell1 wr6_ty26 rfl T4 (cellAt hb500 (show _ = some (v589 : Value) from rfl)) (oA rfl (oA rfl (oZ (tN (hK616 _ _ (wpF_ret (postF_ret (fn := Tryd.f16) _ rfl [v589, NI 0] (.tuple #[v589, NI 0]) rfl ⟨rfl, rfl, trivial⟩ ?_)))))))))
  have hen : ((([(x.1.kind : UInt8)] : List UInt8) ++ Lib.uvarint x.1.session.toNat : List UInt8) ++ Lib.uvarint x.1.size.toNat : List UInt8) ++ x.1.id.1 = encB x.1 := by unfold encB tailM; rw [hk]; simp [List.append_assoc]
  exact ⟨v589, by rw [hR]; rfl, by rw [hR, if_pos rfl, ← hen]; exact RB.ofOwn ho604, hE⟩
 ·refine wpF_skip (tN (hK10 _ _ (sk fun K617 hK617 => (wt (oS rfl (Yk.fieldAt wr6_fo29_0 (vr (PQ n2 0) rfl) (oS rfl (Yk.cell1 wr6_ty5 rfl (vr (PQ n2 0) rfl) (cellAt hb8 (show (msgC x)[0]? = some (B8 (x.1.kind) : Value) from msg_g0 x)) (oS rfl (Yk.lit1 (b := x.1.kind) wr6_l1_26 (vr (B8 (x.1.kind)) rfl) fun v618 w619 hN620 => ?_))))))))))
  have hA621 := Ext.refl w13
  have hea622 := hE
  have hz623 := hE.size
  have hap624 : OB v618 n2 := own_older hN620.own (bl hb8)
  have hE := hE.trans hN620.ext
  have hb8 := eb hN620.ext hb8
  have hA621 := hA621.trans hN620.ext
  have ho625 := hN620.own; clear hN620
  refine oS rfl (Yk.alloc (cs := ([(Value.slice none 0 0)]).toArray) wr6_al26 fun n626 w627 hn628 hb629 hx630 hs631 => ?_)
  have hA632 := Ext.refl w619
  have hea633 := hE
  have hea634 := hA621
  have hz635 := hE.size
  have hz636 := hA621.size
  have hlt637 := lte (bl hb8) hn628
  have hap638 : OB v618 n626 := own_newer ho625 (by omega)
  have hE := hE.trans hx630
  have hb8 := eb hx630 hb8
  have hA621 := hA621.trans hx630
  have ho625 := Stab.own _ _ _ _ _ _ _ _ ho625 hx630
  have hA632 := hA632.trans hx630
  have hb639 := hb629; clear hb629
  have hl640 : n626 < w627.heap.size := by omega
  refine oS rfl (Yk.storeC (i := 0) (v := v618) (vr (PQ n626 0) rfl) (vr v618 rfl) hb639 (Nat.le_of_ble_eq_true rfl) wr6_isz26 (own_one ho625).1 (own_one ho625).2 fun w641 hb642 hg643 hs644 => ?_)
  have hE := row_fresh hE hg643 (Nat.le_trans hz635 (by omega))
  have hb8 := kb hg643 hb8 (by omega)
  have hA621 := row_fresh hA621 hg643 (Nat.le_trans hz636 (by omega))
  have ho625 := own_kept ho625 hg643 hap638
  have hA632 := row_fresh hA632 hg643 (Nat.le_trans (Nat.le_refl _) (by omega))
  clear hb639
  have hb639 := hb642; clear hb642
  have hl645 := bl hb639
  refine oZ (tN (hK617 _ _ (sk fun K646 hK646 => (wt (oS rfl (Yk.mkFunc (vs := #[PQ n626 0]) (by simp only [List.map_toArray, List.map_cons, List.map_nil]; exact congrArg List.toArray (list1 (vr (PQ n626 0) rfl))) (oS rfl (Yk.alloc (cs := ([Value.nilFunc]).toArray) wr6_al89 fun n647 w648 hn649 hb650 hx651 hs652 => ?_))))))))
  have hA653 := Ext.refl w641
  have hea654 := hE
  have hea655 := hA621
  have hea656 := hA632
  have hz657 := hE.size
  have hz658 := hA621.size
  have hz659 := hA632.size
  have hlt660 := lte (bl hb8) hn649
  have hlt661 := lte (bl hb639) hn649
  have hap662 : OB v618 n647 := own_newer ho625 (by omega)
  have hE := hE.trans hx651
  have hb8 := eb hx651 hb8
  have hA621 := hA621.trans hx651
  have ho625 := Stab.own _ _ _ _ _ _ _ _ ho625 hx651
  have hA632 := hA632.trans hx651
  have hb639 := eb hx651 hb639
  have hA653 := hA653.trans hx651
  have hb663 := hb650; clear hb650
  have hl664 : n647 < w648.heap.size := by omega
  refine oS rfl (Yk.storeC (i := 0) (v := .func (.func 47) #[] #[PQ n626 0]) (vr (PQ n647 0) rfl) (vr (.func (.func 47) #[] #[PQ n626 0]) rfl) hb663 (Nat.le_of_ble_eq_true rfl) wr6_isz89 rfl rfl fun w665 hb666 hg667 hs668 => ?_)
  have hE := row_fresh hE hg667 (Nat.le_trans hz657 (by omega))
  have hb8 := kb hg667 hb8 (by omega)
  have hA621 := row_fresh hA621 hg667 (Nat.le_trans hz658 (by omega))
  have ho625 := own_kept ho625 hg667 hap662
  have hA632 := row_fresh hA632 hg667 (Nat.le_trans hz659 (by omega))
  have hb639 := kb hg667 hb639 (by omega)
  have hA653 := row_fresh hA653 hg667 (Nat.le_trans (Nat.le_refl _) (by omega))
  clear hb663
  have hb663 := hb666; clear hb666
  have hl669 := bl hb663
  refine oZ (tN (hK646 _ _ (sk fun K670 hK670 => (wt (oS rfl (Yk.mkFunc (vs := #[PQ n647 0, PQ n626 0]) (by simp only [List.map_toArray, List.map_cons, List.map_nil]; exact congrArg List.toArray (list2 (vr (PQ n647 0) rfl) (vr (PQ n626 0) rfl))) (oA rfl (oZ (tN (hK670 _ _ (sk fun K671 hK671 => (wt (oS rfl (Yk.cell1 wr6_ty89 rfl (vr (PQ n647 0) rfl) (cellAt hb663 (show _ = some (.func (.func 47) #[] #[PQ n626 0] : Value) from rfl)) (oS rfl (Yk.fieldAt wr6_fo29_1 (vr (PQ n2 0) rfl) (oS rfl (Yk.cell1 wr6_ty3 rfl (vr (PQ n2 1) rfl) (cellAt hb8 (show (msgC x)[1]? = some (.int .i64 (x.1.session : Int) : Value) from msg_g1 x)) (oS rfl (Yk.clo wr6_pl47 (caps := #[PQ n626 0]) (vr (.func (.func 47) #[] #[PQ n626 0]) rfl) #[.int .i64 (x.1.session : Int), PQ n626 0] (by simp only [List.map_toArray, List.map_cons, List.map_nil, List.append_toArray, List.cons_append, List.nil_append]; exact congrArg List.toArray (list2 (vr (.int .i64 (x.1.session : Int)) rfl) rfl)) ((enc1_any w _ hE n626 (by omega) v618 ([(x.1.kind : UInt8)]) hb639 (RB.ofOwn ho625) (by simp only [List.length_append, List.length_cons, List.length_nil]; omega) x.1.session (by omega) (by omega)).mono ?_)))))))))))))))))))))
  rintro e w676 ⟨v672, rfl, hb673, ho674, hg675⟩
  refine ⟨_, rfl, ?_⟩
  have hap677 : OB v672 n2 := own_older ho674 (bl hb8)
  have hap678 : OB v672 n626 := own_older ho674 (bl hb639)
  have hap679 : OB v672 n647 := own_older ho674 (bl hb663)
  have ho674 := ownsRow_base ho674 hE.size
  have hE := row_fresh hE hg675 (Nat.le_trans hz635 (by omega))
  have hb8 := kb hg675 hb8 (by omega)
  have hA621 := row_fresh hA621 hg675 (Nat.le_trans hz636 (by omega))
  clear ho625
  have hA632 := row_fresh hA632 hg675 (Nat.le_trans (Nat.le_refl _) (by omega))
  clear hb639
  clear hA653
  have hb663 := kb hg675 hb663 (by omega)
  have hb639 := hb673; clear hb673
  have hl680 := bl hb639
  refine oZ (tN (hK671 _ _ (sk fun K681 hK681 => ?_)))
  have hA682 := Ext.refl w676
  have hea683 := hE
  have hea684 := hA621
  have hea685 := hA632
  have hz686 := hE.size
  have hz687 := hA621.size
  have hz688 := hA632.size
  have hlt689 : n2 < w676.heap.size := (bl hb8)
  have hlt690 : n647 < w676.heap.size := (bl hb663)
  have hlt691 : n626 < w676.heap.size := (bl hb639)
  have hnw692 : ∀ g, w676.heap.size ≤ g → OB v672 g := fun g hg => own_newer ho674 hg
  refine wpF_draw_end 5 _ [fun x w' => ∃ b, x = .map (some b) ∧ MapF B8 partsV (fun _ : UInt8 => True) w' b kindsG, Is (PQ n2 0), Is (B8 (x.1.kind)), Is (.agg (partsC (⟨false, false, false, true, false, false, false, false⟩ : Parts)).toArray), fun x w' => ∃ g, x = PQ g 0 ∧ w'.heap[g]? = some (.cells (partsC (⟨false, false, false, false, false, false, false, false⟩ : Parts)).toArray 92 (0, 0)) ∧ w676.heap.size ≤ g] (by kernel_rfl) [23, 24, 25, 26, 7] (by kernel_rfl) (by kernel_rfl) (by kernel_rfl) rfl rfl rfl ⟨(fun _ _ _ ⟨b, h1, h2⟩ k => ⟨b, h1, MapF.keep h2 k⟩), Stab.is _, Stab.is _, Stab.is _, (fun _ _ _ ⟨g, h1, h2, h3⟩ k => ⟨g, h1, eb k h2, h3⟩), trivial⟩ ?hs7007 ?hQ7007
  case hs7007 =>
   refine ⟨?_, ?_, ?_, ?_, ?_, ?_, trivial⟩
   ·refine stepFL (stepN rfl fun σ w1 hC h => (Yk.callA0 wr6_pl50  ((kinds_any _).mono ?_)))
    rintro e w2 ⟨b, rfl, hmk, hx, hom⟩
    exact ⟨_, rfl, hx, ⟨b, rfl, hmk⟩⟩
   ·refine stepFL (stepN rfl fun σ w1 hC h => ?_)
    have e1 : σ 1 = PQ n2 0 := (eqo (h 1 (by decide))).trans rfl
    exact Yk.fieldAt wr6_fo29_0 e1 ⟨Ext.refl _, rfl⟩
   ·refine stepFL (stepN rfl fun σ w1 hC h => ?_)
    have e24 := eqo (h 24 (by decide))
    exact Yk.cell1 wr6_ty5 rfl e24 (cellAt (eb hC hb8) (show (msgC x)[0]? = some (B8 (x.1.kind) : Value) from msg_g0 x)) ⟨Ext.refl _, rfl⟩
   ·refine stepFL (stepN rfl fun σ w1 hC h => ?_)
    have e23 : (fun x w' => ∃ b, x = .map (some b) ∧ MapF B8 partsV (fun _ : UInt8 => True) w' b kindsG) (σ 23) w1 := h 23 (by decide)
    have e25 := eqo (h 25 (by decide))
    obtain ⟨b6, k6, m6⟩ := (show ∃ b, σ 23 = .map (some b) ∧ MapF B8 partsV (fun _ : UInt8 => True) w1 b kindsG from e23)
    exact Yk.lookMS (ek := B8) (ev := partsV) (D := fun _ : UInt8 => True) u8Law u8_ok (fun _ _ => b8_inj) wr6_ty93 (z := partsV dParts) zeroParts k6 e25 m6 trivial hK ⟨Ext.refl _, rfl⟩
   ·refine stepFL (stepN rfl fun σ w1 hC h => ?_)
    exact Yk.alloc (cs := (partsC (⟨false, false, false, false, false, false, false, false⟩ : Parts)).toArray) wr6_al92 fun g w2 hn hb hx hs => ⟨hx, g, rfl, hb, Nat.le_trans (show Ext w676 w1 from hC).size (Nat.le_of_eq hn)⟩
   ·exact trivial
  intro ρ693 w694 hx695 he hf
  obtain ⟨-, -, -, k26, k7, -⟩ := hf
  obtain ⟨T0, T1, T2, T3, T4, T5, T6, -⟩ := he.hold [(0, _), (1, PQ n2 0), (2, (Value.slice none 0 0)), (3, NI 0), (4, PQ n626 0), (5, PQ n647 0), (6, .func (.func 49) #[] #[PQ n647 0, PQ n626 0])] ⟨T0, rfl, rfl, rfl, rfl, rfl, rfl, trivial⟩ rfl
  clear he
  have hE := hE.trans hx695
  have hb8 := eb hx695 hb8
  have hA632 := hA632.trans hx695
  have hb663 := eb hx695 hb663
  have hb639 := eb hx695 hb639
  have ho674 := Stab.own _ _ _ _ _ _ _ _ ho674 hx695
  have hA682 := hA682.trans hx695
  have T26 : ρ693 26 = .agg (partsC (⟨false, false, false, true, false, false, false, false⟩ : Parts)).toArray := k26
  have k7 : (fun x w' => ∃ g, x = PQ g 0 ∧ w'.heap[g]? = some (.cells (partsC (⟨false, false, false, false, false, false, false, false⟩ : Parts)).toArray 92 (0, 0)) ∧ w676.heap.size ≤ g) (ρ693 7) w694 := k7
  obtain ⟨v696, T7⟩ : ∃ v, ρ693 7 = v := ⟨_, rfl⟩
  rw [T7] at k7
  have hk697 := k7; clear k7
  obtain ⟨n698, rfl, hb699, hn700⟩ := hk697
  have hl701 := bl hb699
  have hap702 : OB v672 n698 := hnw692 _ hn700
  clear k26
  refine (Yk.storeAll T7 T26 hb699 (by simp only [List.size_toArray, parts_len]) (st_isz (parts_len _) wr6_isz92) (parts_one (x := (⟨false, false, false, true, false, false, false, false⟩ : Parts))) fun w703 hb704 hg705 hs706 => ?_)
  have hE := row_fresh hE hg705 (Nat.le_trans hz686 (by omega))
  have hb8 := kb hg705 hb8 (by omega)
  have hA632 := row_fresh hA632 hg705 (Nat.le_trans hz688 (by omega))
  have hb663 := kb hg705 hb663 (by omega)
  have hb639 := kb hg705 hb639 (by omega)
  have ho674 := own_kept ho674 hg705 hap702
  have hA682 := row_fresh hA682 hg705 (Nat.le_trans (Nat.le_refl _) (by omega))
  clear hb699
  have hb699 : w703.heap[n698]? = some (.cells (partsC (⟨false, false, false, true, false, false, false, false⟩ : Parts)).toArray 92 (0, 0)) := hb704; clear hb704
  have hl707 := bl hb699
  refine tN (hK681 _ _ (sk fun K708 hK708 => (sk fun K709 hK709 => (wt (oS rfl (Yk.fieldAt wr6_fo92_0 T7 (oS rfl (Yk.cell1 wr6_ty4 rfl (vr (PQ n698 0) rfl) (cellAt hb699 (show (partsC (⟨false, false, false, true, false, false, false, false⟩ : Parts))[0]? = some (.bool (false) : Value) from parts_g0 (⟨false, false, false, true, false, false, false, false⟩ : Parts))) (oZ (tN (hK709 _ _ (wpF_false (vr (.bool (false)) rfl) (wpF_skip (tN (hK708 _ _ (sk fun K710 hK710 => (sk fun K711 hK711 => (wt (oS rfl (Yk.fieldAt wr6_fo92_1 T7 (oS rfl (Yk.cell1 wr6_ty4 rfl (vr (PQ n698 1) rfl) (cellAt hb699 (show (partsC (⟨false, false, false, true, false, false, false, false⟩ : Parts))[1]? = some (.bool (false) : Value) from parts_g1 (⟨false, false, false, true, false, false, false, false⟩ : Parts))) ?_))))))))))))))))))))))
  refine oZ (tN (hK711 _ _ (wpF_false (vr (.bool (false)) rfl) (wpF_skip (tN (hK710 _ _ (sk fun K712 hK712 => (sk fun K713 hK713 => (wt (oS rfl (Yk.fieldAt wr6_fo92_2 T7 (oS rfl (Yk.cell1 wr6_ty4 rfl (vr (PQ n698 2) rfl) (cellAt hb699 (show (partsC (⟨false, false, false, true, false, false, false, false⟩ : Parts))[2]? = some (.bool (false) : Value) from parts_g2 (⟨false, false, false, true, false, false, false, false⟩ : Parts))) (oZ (tN (hK713 _ _ (wpF_false (vr (.bool (false)) rfl) (wpF_skip (tN (hK712 _ _ (sk fun K714 hK714 => ?_)))))))))))))))))))))
  refine sk fun K715 hK715 => (wt (oS rfl (Yk.fieldAt wr6_fo92_3 T7 (oS rfl (Yk.cell1 wr6_ty4 rfl (vr (PQ n698 3) rfl) (cellAt hb699 (show (partsC (⟨false, false, false, true, false, false, false, false⟩ : Parts))[3]? = some (.bool (true) : Value) from parts_g3 (⟨false, false, false, true, false, false, false, false⟩ : Parts))) (oZ (tN (hK715 _ _ (wpF_true (vr (.bool (true)) rfl) (wt (oS rfl (Yk.cell1 wr6_ty89 rfl T5 (cellAt hb663 (show _ = some (.func (.func 47) #[] #[PQ n626 0] : Value) from rfl)) (oS rfl (Yk.fieldAt wr6_fo29_6 T1 (oS rfl (Yk.cell1 wr6_ty3 rfl (vr (PQ n2 6) rfl) (cellAt hb8 (show (msgC x)[6]? = some (.int .i64 (x.1.at_ : Int) : Value) from msg_g6 x)) (oS rfl (Yk.clo wr6_pl47 (caps := #[PQ n626 0]) (vr (.func (.func 47) #[] #[PQ n626 0]) rfl) #[.int .i64 (x.1.at_ : Int), PQ n626 0] (by simp only [List.map_toArray, List.map_cons, List.map_nil, List.append_toArray, List.cons_append, List.nil_append]; exact congrArg List.toArray (list2 (vr (.int .i64 (x.1.at_ : Int)) rfl) rfl)) ((enc1_any w _ hE n626 (by omega) v672 (([(x.1.kind : UInt8)] : List UInt8) ++ Lib.uvarint x.1.session.toNat) hb639 (RB.ofOwn ho674) (by simp only [List.length_append, List.length_cons, List.length_nil]; omega) x.1.at_ (by omega) (by omega)).mono ?_)))))))))))))))))))
  rintro e w720 ⟨v716, rfl, hb717, ho718, hg719⟩
  refine ⟨_, rfl, ?_⟩
  have hap721 : OB v716 n2 := own_older ho718 (bl hb8)
  have hap722 : OB v716 n647 := own_older ho718 (bl hb663)
  have hap723 : OB v716 n626 := own_older ho718 (bl hb639)
  have hap724 : OB v716 n698 := own_older ho718 (bl hb699)
  have ho718 := ownsRow_base ho718 hE.size
  have hE := row_fresh hE hg719 (Nat.le_trans hz635 (by omega))
  have hb8 := kb hg719 hb8 (by omega)
  have hA632 := row_fresh hA632 hg719 (Nat.le_trans (Nat.le_refl _) (by omega))
  have hb663 := kb hg719 hb663 (by omega)
  clear hb639
  clear ho674
  clear hA682
  have hb699 := kb hg719 hb699 (by omega)
  have hb639 := hb717; clear hb717
  have hl725 := bl hb639
  refine oZ (tN (hK714 _ _ (sk fun K726 hK726 => (sk fun K727 hK727 => (wt (oS rfl (Yk.fieldAt wr6_fo92_4 T7 (oS rfl (Yk.cell1 wr6_ty4 rfl (vr (PQ n698 4) rfl) (cellAt hb699 (show (partsC (⟨false, false, false, true, false, false, false, false⟩ : Parts))[4]? = some (.bool (false) : Value) from parts_g4 (⟨false, false, false, true, false, false, false, false⟩ : Parts))) (oZ (tN (hK727 _ _ (wpF_false (vr (.bool (false)) rfl) (wpF_skip (tN (hK726 _ _ (sk fun K728 hK728 => (sk fun K729 hK729 => (wt (oS rfl (Yk.fieldAt wr6_fo92_5 T7 ?_)))))))))))))))))))))
  refine oS rfl (Yk.cell1 wr6_ty4 rfl (vr (PQ n698 5) rfl) (cellAt hb699 (show (partsC (⟨false, false, false, true, false, false, false, false⟩ : Parts))[5]? = some (.bool (false) : Value) from parts_g5 (⟨false, false, false, true, false, false, false, false⟩ : Parts))) (oZ (tN (hK729 _ _ (wpF_false (vr (.bool (false)) rfl) (wpF_skip (tN (hK728 _ _ (sk fun K730 hK730 => (sk fun K731 hK731 => (wt (oS rfl (Yk.fieldAt wr6_fo92_6 T7 (oS rfl (Yk.cell1 wr6_ty4 rfl (vr (PQ n698 6) rfl) (cellAt hb699 (show (partsC (⟨false, false, false, true, false, false, false, false⟩ : Parts))[6]? = some (.bool (false) : Value) from parts_g6 (⟨false, false, false, true, false, false, false, false⟩ : Parts))) (oZ (tN (hK731 _ _ (wpF_false (vr (.bool (false)) rfl) (wpF_skip (tN (hK730 _ _ ?_))))))))))))))))))))))
  refine sk fun K732 hK732 => (sk fun K733 hK733 => (wt (oS rfl (Yk.fieldAt wr6_fo92_7 T7 (oS rfl (Yk.cell1 wr6_ty4 rfl (vr (PQ n698 7) rfl) (cellAt hb699 (show (partsC (⟨false, false, false, true, false, false, false, false⟩ : Parts))[7]? = some (.bool (false) : Value) from parts_g7 (⟨false, false, false, true, false, false, false, false⟩ : Parts))) (oZ (tN (hK733 _ _ (wpF_false (vr (.bool (false)) rfl) (wpF_skip (tN (hK732 _ _ (sk fun K734 hK734 => (wt (oS rfl (Yk.cell1 wr6_ty26 rfl T4 (cellAt hb639 (show _ = some (v716 : Value) from rfl)) (oA rfl (oA rfl (oZ ?_))))))))))))))))))))
  refine tN (hK734 _ _ (wpF_ret (postF_ret (fn := Tryd.f16) _ rfl [v716, NI 0] (.tuple #[v716, NI 0]) rfl ⟨rfl, rfl, trivial⟩ ?_)))
  have hen : (([(x.1.kind : UInt8)] : List UInt8) ++ Lib.uvarint x.1.session.toNat : List UInt8) ++ Lib.uvarint x.1.at_.toNat = encB x.1 := by unfold encB tailM; rw [hk]; simp [List.append_assoc]
  exact ⟨v716, by rw [hR]; rfl, by rw [hR, if_pos rfl, ← hen]; exact RB.ofOwn ho718, hE⟩
 ·have hbl := hb1 rfl
  have htl := textB_le (s := x.1.bytes) (by omega)
  refine wpF_skip (tN (hK10 _ _ (sk fun K735 hK735 => (wt (oS rfl (Yk.fieldAt wr6_fo29_0 (vr (PQ n2 0) rfl) (oS rfl (Yk.cell1 wr6_ty5 rfl (vr (PQ n2 0) rfl) (cellAt hb8 (show (msgC x)[0]? = some (B8 (x.1.kind) : Value) from msg_g0 x)) (oS rfl (Yk.lit1 (b := x.1.kind) wr6_l1_26 (vr (B8 (x.1.kind)) rfl) fun v736 w737 hN738 => ?_))))))))))
  have hA739 := Ext.refl w13
  have hea740 := hE
  have hz741 := hE.size
  have hap742 : OB v736 n2 := own_older hN738.own (bl hb8)
  have hE := hE.trans hN738.ext
  have hb8 := eb hN738.ext hb8
  have hA739 := hA739.trans hN738.ext
  have ho743 := hN738.own; clear hN738
  refine oS rfl (Yk.alloc (cs := ([(Value.slice none 0 0)]).toArray) wr6_al26 fun n744 w745 hn746 hb747 hx748 hs749 => ?_)
  have hA750 := Ext.refl w737
  have hea751 := hE
  have hea752 := hA739
  have hz753 := hE.size
  have hz754 := hA739.size
  have hlt755 := lte (bl hb8) hn746
  have hap756 : OB v736 n744 := own_newer ho743 (by omega)
  have hE := hE.trans hx748
  have hb8 := eb hx748 hb8
  have hA739 := hA739.trans hx748
  have ho743 := Stab.own _ _ _ _ _ _ _ _ ho743 hx748
  have hA750 := hA750.trans hx748
  have hb757 := hb747; clear hb747
  have hl758 : n744 < w745.heap.size := by omega
  refine oS rfl (Yk.storeC (i := 0) (v := v736) (vr (PQ n744 0) rfl) (vr v736 rfl) hb757 (Nat.le_of_ble_eq_true rfl) wr6_isz26 (own_one ho743).1 (own_one ho743).2 fun w759 hb760 hg761 hs762 => ?_)
  have hE := row_fresh hE hg761 (Nat.le_trans hz753 (by omega))
  have hb8 := kb hg761 hb8 (by omega)
  have hA739 := row_fresh hA739 hg761 (Nat.le_trans hz754 (by omega))
  have ho743 := own_kept ho743 hg761 hap756
  have hA750 := row_fresh hA750 hg761 (Nat.le_trans (Nat.le_refl _) (by omega))
  clear hb757
  have hb757 := hb760; clear hb760
  have hl763 := bl hb757
  refine oZ (tN (hK735 _ _ (sk fun K764 hK764 => (wt (oS rfl (Yk.mkFunc (vs := #[PQ n744 0]) (by simp only [List.map_toArray, List.map_cons, List.map_nil]; exact congrArg List.toArray (list1 (vr (PQ n744 0) rfl))) (oS rfl (Yk.alloc (cs := ([Value.nilFunc]).toArray) wr6_al89 fun n765 w766 hn767 hb768 hx769 hs770 => ?_))))))))
  have hA771 := Ext.refl w759
  have hea772 := hE
  have hea773 := hA739
  have hea774 := hA750
  have hz775 := hE.size
  have hz776 := hA739.size
  have hz777 := hA750.size
  have hlt778 := lte (bl hb8) hn767
  have hlt779 := lte (bl hb757) hn767
  have hap780 : OB v736 n765 := own_newer ho743 (by omega)
  have hE := hE.trans hx769
  have hb8 := eb hx769 hb8
  have hA739 := hA739.trans hx769
  have ho743 := Stab.own _ _ _ _ _ _ _ _ ho743 hx769
  have hA750 := hA750.trans hx769
  have hb757 := eb hx769 hb757
  have hA771 := hA771.trans hx769
  have hb781 := hb768; clear hb768
  have hl782 : n765 < w766.heap.size := by omega
  refine oS rfl (Yk.storeC (i := 0) (v := .func (.func 47) #[] #[PQ n744 0]) (vr (PQ n765 0) rfl) (vr (.func (.func 47) #[] #[PQ n744 0]) rfl) hb781 (Nat.le_of_ble_eq_true rfl) wr6_isz89 rfl rfl fun w783 hb784 hg785 hs786 => ?_)
  have hE := row_fresh hE hg785 (Nat.le_trans hz775 (by omega))
  have hb8 := kb hg785 hb8 (by omega)
  have hA739 := row_fresh hA739 hg785 (Nat.le_trans hz776 (by omega))
  have ho743 := own_kept ho743 hg785 hap780
  have hA750 := row_fresh hA750 hg785 (Nat.le_trans hz777 (by omega))
  have hb757 := kb hg785 hb757 (by omega)
  have hA771 := row_fresh hA771 hg785 (Nat.le_trans (Nat.le_refl _) (by omega))
  clear hb781
  have hb781 := hb784; clear hb784
  have hl787 := bl hb781
  refine oZ (tN (hK764 _ _ (sk fun K788 hK788 => (wt (oS rfl (Yk.mkFunc (vs := #[PQ n765 0, PQ n744 0]) (by simp only [List.map_toArray, List.map_cons, List.map_nil]; exact congrArg List.toArray (list2 (vr (PQ n765 0) rfl) (vr (PQ n744 0) rfl))) (oA rfl (oZ (tN (hK788 _ _ (sk fun K789 hK789 => (wt (oS rfl (Yk.cell1 wr6_ty89 rfl (vr (PQ n765 0) rfl) (cellAt hb781 (show _ = some (.func (.func 47) #[] #[PQ n744 0] : Value) from rfl)) (oS rfl (Yk.fieldAt wr6_fo29_1 (vr (PQ n2 0) rfl) (oS rfl (Yk.cell1 wr6_ty3 rfl (vr (PQ n2 1) rfl) (cellAt hb8 (show (msgC x)[1]? = some (.int .i64 (x.1.session : Int) : Value) from msg_g1 x)) (oS rfl (Yk.clo wr6_pl47 (caps := #[PQ n744 0]) (vr (.func (.func 47) #[] #[PQ n744 0]) rfl) #[.int .i64 (x.1.session : Int), PQ n744 0] (by simp only [List.map_toArray, List.map_cons, List.map_nil, List.append_toArray, List.cons_append, List.nil_append]; exact congrArg List.toArray (list2 (vr (.int .i64 (x.1.session : Int)) rfl) rfl)) ((enc1_any w _ hE n744 (by omega) v736 ([(x.1.kind : UInt8)]) hb757 (RB.ofOwn ho743) (by simp only [List.length_append, List.length_cons, List.length_nil]; omega) x.1.session (by omega) (by omega)).mono ?_)))))))))))))))))))))
  rintro e w794 ⟨v790, rfl, hb791, ho792, hg793⟩
  refine ⟨_, rfl, ?_⟩
  have hap795 : OB v790 n2 := own_older ho792 (bl hb8)
  have hap796 : OB v790 n744 := own_older ho792 (bl hb757)
  have hap797 : OB v790 n765 := own_older ho792 (bl hb781)
  have ho792 := ownsRow_base ho792 hE.size
  have hE := row_fresh hE hg793 (Nat.le_trans hz753 (by omega))
  have hb8 := kb hg793 hb8 (by omega)
  have hA739 := row_fresh hA739 hg793 (Nat.le_trans hz754 (by omega))
  clear ho743
  have hA750 := row_fresh hA750 hg793 (Nat.le_trans (Nat.le_refl _) (by omega))
  clear hb757
  clear hA771
  have hb781 := kb hg793 hb781 (by omega)
  have hb757 := hb791; clear hb791
  have hl798 := bl hb757
  refine oZ (tN (hK789 _ _ (sk fun K799 hK799 => ?_)))
  have hA800 := Ext.refl w794
  have hea801 := hE
  have hea802 := hA739
  have hea803 := hA750
  have hz804 := hE.size
  have hz805 := hA739.size
  have hz806 := hA750.size
  have hlt807 : n2 < w794.heap.size := (bl hb8)
  have hlt808 : n765 < w794.heap.size := (bl hb781)
  have hlt809 : n744 < w794.heap.size := (bl hb757)
  have hnw810 : ∀ g, w794.heap.size ≤ g → OB v790 g := fun g hg => own_newer ho792 hg
  refine wpF_draw_end 5 _ [fun x w' => ∃ b, x = .map (some b) ∧ MapF B8 partsV (fun _ : UInt8 => True) w' b kindsG, Is (PQ n2 0), Is (B8 (x.1.kind)), Is (.agg (partsC (⟨false, false, false, true, false, true, false, false⟩ : Parts)).toArray), fun x w' => ∃ g, x = PQ g 0 ∧ w'.heap[g]? = some (.cells (partsC (⟨false, false, false, false, false, false, false, false⟩ : Parts)).toArray 92 (0, 0)) ∧ w794.heap.size ≤ g] (by kernel_rfl) [23, 24, 25, 26, 7] (by kernel_rfl) (by kernel_rfl) (by kernel_rfl) rfl rfl rfl ⟨(fun _ _ _ ⟨b, h1, h2⟩ k => ⟨b, h1, MapF.keep h2 k⟩), Stab.is _, Stab.is _, Stab.is _, (fun _ _ _ ⟨g, h1, h2, h3⟩ k => ⟨g, h1, eb k h2, h3⟩), trivial⟩ ?hs8007 ?hQ8007
  case hs8007 =>
   refine ⟨?_, ?_, ?_, ?_, ?_, ?_, trivial⟩
   ·refine stepFL (stepN rfl fun σ w1 hC h => (Yk.callA0 wr6_pl50  ((kinds_any _).mono ?_)))
    rintro e w2 ⟨b, rfl, hmk, hx, hom⟩
    exact ⟨_, rfl, hx, ⟨b, rfl, hmk⟩⟩
   ·refine stepFL (stepN rfl fun σ w1 hC h => ?_)
    have e1 : σ 1 = PQ n2 0 := (eqo (h 1 (by decide))).trans rfl
    exact Yk.fieldAt wr6_fo29_0 e1 ⟨Ext.refl _, rfl⟩
   ·refine stepFL (stepN rfl fun σ w1 hC h => ?_)
    have e24 := eqo (h 24 (by decide))
    exact Yk.cell1 wr6_ty5 rfl e24 (cellAt (eb hC hb8) (show (msgC x)[0]? = some (B8 (x.1.kind) : Value) from msg_g0 x)) ⟨Ext.refl _, rfl⟩
   ·refine stepFL (stepN rfl fun σ w1 hC h => ?_)
    have e23 : (fun x w' => ∃ b, x = .map (some b) ∧ MapF B8 partsV (fun _ : UInt8 => True) w' b kindsG) (σ 23) w1 := h 23 (by decide)
    have e25 := eqo (h 25 (by decide))
    obtain ⟨b6, k6, m6⟩ := (show ∃ b, σ 23 = .map (some b) ∧ MapF B8 partsV (fun _ : UInt8 => True) w1 b kindsG from e23)
    exact Yk.lookMS (ek := B8) (ev := partsV) (D := fun _ : UInt8 => True) u8Law u8_ok (fun _ _ => b8_inj) wr6_ty93 (z := partsV dParts) zeroParts k6 e25 m6 trivial hK ⟨Ext.refl _, rfl⟩
   ·refine stepFL (stepN rfl fun σ w1 hC h => ?_)
    exact Yk.alloc (cs := (partsC (⟨false, false, false, false, false, false, false, false⟩ : Parts)).toArray) wr6_al92 fun g w2 hn hb hx hs => ⟨hx, g, rfl, hb, Nat.le_trans (show Ext w794 w1 from hC).size (Nat.le_of_eq hn)⟩
   ·exact trivial
  intro ρ811 w812 hx813 he hf
  obtain ⟨-, -, -, k26, k7, -⟩ := hf
  obtain ⟨T0, T1, T2, T3, T4, T5, T6, -⟩ := he.hold [(0, _), (1, PQ n2 0), (2, (Value.slice none 0 0)), (3, NI 0), (4, PQ n744 0), (5, PQ n765 0), (6, .func (.func 49) #[] #[PQ n765 0, PQ n744 0])] ⟨T0, rfl, rfl, rfl, rfl, rfl, rfl, trivial⟩ rfl
  clear he
  have hE := hE.trans hx813
  have hb8 := eb hx813 hb8
  have hA750 := hA750.trans hx813
  have hb781 := eb hx813 hb781
  have hb757 := eb hx813 hb757
  have ho792 := Stab.own _ _ _ _ _ _ _ _ ho792 hx813
  have hA800 := hA800.trans hx813
  have T26 : ρ811 26 = .agg (partsC (⟨false, false, false, true, false, true, false, false⟩ : Parts)).toArray := k26
  have k7 : (fun x w' => ∃ g, x = PQ g 0 ∧ w'.heap[g]? = some (.cells (partsC (⟨false, false, false, false, false, false, false, false⟩ : Parts)).toArray 92 (0, 0)) ∧ w794.heap.size ≤ g) (ρ811 7) w812 := k7
  obtain ⟨v814, T7⟩ : ∃ v, ρ811 7 = v := ⟨_, rfl⟩
  rw [T7] at k7
  have hk815 := k7; clear k7
  obtain ⟨n816, rfl, hb817, hn818⟩ := hk815
  have hl819 := bl hb817
  have hap820 : OB v790 n816 := hnw810 _ hn818
  clear k26
  refine (Yk.storeAll T7 T26 hb817 (by simp only [List.size_toArray, parts_len]) (st_isz (parts_len _) wr6_isz92) (parts_one (x := (⟨false, false, false, true, false, true, false, false⟩ : Parts))) fun w821 hb822 hg823 hs824 => ?_)
  have hE := row_fresh hE hg823 (Nat.le_trans hz804 (by omega))
  have hb8 := kb hg823 hb8 (by omega)
  have hA750 := row_fresh hA750 hg823 (Nat.le_trans hz806 (by omega))
  have hb781 := kb hg823 hb781 (by omega)
  have hb757 := kb hg823 hb757 (by omega)
  have ho792 := own_kept ho792 hg823 hap820
  have hA800 := row_fresh hA800 hg823 (Nat.le_trans (Nat.le_refl _) (by omega))
  clear hb817
  have hb817 : w821.heap[n816]? = some (.cells (partsC (⟨false, false, false, true, false, true, false, false⟩ : Parts)).toArray 92 (0, 0)) := hb822; clear hb822
  have hl825 := bl hb817
  refine tN (hK799 _ _ (sk fun K826 hK826 => (sk fun K827 hK827 => (wt (oS rfl (Yk.fieldAt wr6_fo92_0 T7 (oS rfl (Yk.cell1 wr6_ty4 rfl (vr (PQ n816 0) rfl) (cellAt hb817 (show (partsC (⟨false, false, false, true, false, true, false, false⟩ : Parts))[0]? = some (.bool (false) : Value) from parts_g0 (⟨false, false, false, true, false, true, false, false⟩ : Parts))) (oZ (tN (hK827 _ _ (wpF_false (vr (.bool (false)) rfl) (wpF_skip (tN (hK826 _ _ (sk fun K828 hK828 => (sk fun K829 hK829 => (wt (oS rfl (Yk.fieldAt wr6_fo92_1 T7 (oS rfl (Yk.cell1 wr6_ty4 rfl (vr (PQ n816 1) rfl) (cellAt hb817 (show (partsC (⟨false, false, false, true, false, true, false, false⟩ : Parts))[1]? = some (.bool (false) : Value) from parts_g1 (⟨false, false, false, true, false, true, false, false⟩ : Parts))) ?_))))))))))))))))))))))
  refine oZ (tN (hK829 _ _ (wpF_false (vr (.bool (false)) rfl) (wpF_skip (tN (hK828 _ _ (sk fun K830 hK830 => (sk fun K831 hK831 => (wt (oS rfl (Yk.fieldAt wr6_fo92_2 T7 (oS rfl (Yk.cell1 wr6_ty4 rfl (vr (PQ n816 2) rfl) (cellAt hb817 (show (partsC (⟨false, false, false, true, false, true, false, false⟩ : Parts))[2]? = some (.bool (false) : Value) from parts_g2 (⟨false, false, false, true, false, true, false, false⟩ : Parts))) (oZ (tN (hK831 _ _ (wpF_false (vr (.bool (false)) rfl) (wpF_skip (tN (hK830 _ _ (sk fun K832 hK832 => ?_)))))))))))))))))))))
  refine sk fun K833 hK833 => (wt (oS rfl (Yk.fieldAt wr6_fo92_3 T7 (oS rfl (Yk.cell1 wr6_ty4 rfl (vr (PQ n816 3) rfl) (cellAt hb817 (show (partsC (⟨false, false, false, true, false, true, false, false⟩ : Parts))[3]? = some (.bool (true) : Value) from parts_g3 (⟨false, false, false, true, false, true, false, false⟩ : Parts))) (oZ (tN (hK833 _ _ (wpF_true (vr (.bool (true)) rfl) (wt (oS rfl (Yk.cell1 wr6_ty89 rfl T5 (cellAt hb781 (show _ = some (.func (.func 47) #[] #[PQ n744 0] : Value) from rfl)) (oS rfl (Yk.fieldAt wr6_fo29_6 T1 (oS rfl (Yk.cell1 wr6_ty3 rfl (vr (PQ n2 6) rfl) (cellAt hb8 (show (msgC x)[6]? = some (.int .i64 (x.1.at_ : Int) : Value) from msg_g6 x)) (oS rfl (Yk.clo wr6_pl47 (caps := #[PQ n744 0]) (vr (.func (.func 47) #[] #[PQ n744 0]) rfl) #[.int .i64 (x.1.at_ : Int), PQ n744 0] (by simp only [List.map_toArray, List.map_cons, List.map_nil, List.append_toArray, List.cons_append, List.nil_append]; exact congrArg List.toArray (list2 (vr (.int .i64 (x.1.at_ : Int)) rfl) rfl)) ((enc1_any w _ hE n744 (by omega) v790 (([(x.1.kind : UInt8)] : List UInt8) ++ Lib.uvarint x.1.session.toNat) hb757 (RB.ofOwn ho792) (by simp only [List.length_append, List.length_cons, List.length_nil]; omega) x.1.at_ (by omega) (by omega)).mono ?_)))))))))))))))))))
  rintro e w838 ⟨v834, rfl, hb835, ho836, hg837⟩
  refine ⟨_, rfl, ?_⟩
  have hap839 : OB v834 n2 := own_older ho836 (bl hb8)
  have hap840 : OB v834 n765 := own_older ho836 (bl hb781)
  have hap841 : OB v834 n744 := own_older ho836 (bl hb757)
  have hap842 : OB v834 n816 := own_older ho836 (bl hb817)
  have ho836 := ownsRow_base ho836 hE.size
  have hE := row_fresh hE hg837 (Nat.le_trans hz753 (by omega))
  have hb8 := kb hg837 hb8 (by omega)
  have hA750 := row_fresh hA750 hg837 (Nat.le_trans (Nat.le_refl _) (by omega))
  have hb781 := kb hg837 hb781 (by omega)
  clear hb757
  clear ho792
  clear hA800
  have hb817 := kb hg837 hb817 (by omega)
  have hb757 := hb835; clear hb835
  have hl843 := bl hb757
  refine oZ (tN (hK832 _ _ (sk fun K844 hK844 => (sk fun K845 hK845 => (wt (oS rfl (Yk.fieldAt wr6_fo92_4 T7 (oS rfl (Yk.cell1 wr6_ty4 rfl (vr (PQ n816 4) rfl) (cellAt hb817 (show (partsC (⟨false, false, false, true, false, true, false, false⟩ : Parts))[4]? = some (.bool (false) : Value) from parts_g4 (⟨false, false, false, true, false, true, false, false⟩ : Parts))) (oZ (tN (hK845 _ _ (wpF_false (vr (.bool (false)) rfl) (wpF_skip (tN (hK844 _ _ (sk fun K846 hK846 => (sk fun K847 hK847 => (wt (oS rfl (Yk.fieldAt wr6_fo92_5 T7 ?_)))))))))))))))))))))
  refine oS rfl (Yk.cell1 wr6_ty4 rfl (vr (PQ n816 5) rfl) (cellAt hb817 (show (partsC (⟨false, false, false, true, false, true, false, false⟩ : Parts))[5]? = some (.bool (true) : Value) from parts_g5 (⟨false, false, false, true, false, true, false, false⟩ : Parts))) (oZ (tN (hK847 _ _ (wpF_true (vr (.bool (true)) rfl) (wt (oS rfl (Yk.cell1 wr6_ty26 rfl T4 (cellAt hb757 (show _ = some (v834 : Value) from rfl)) (oS rfl (Yk.fieldAt wr6_fo29_8 T1 (oS rfl (Yk.cell1 wr6_ty26 rfl (vr (PQ n2 39) rfl) (cellAt hb8 (show (msgC x)[39]? = some (x.2.bytes : Value) from msg_g8 x)) (oS rfl (Yk.convRB wr6_ty26 wr6_ty5 wr6_ty9 (RB.of (hmb.keep hE) (vr x.2.bytes rfl)) (oS rfl (Yk.callA2 wr6_pl52 (vr v834 rfl) (vr (St (x.1.bytes)) rfl) ((putTextL _ v834 ((([(x.1.kind : UInt8)] : List UInt8) ++ Lib.uvarint x.1.session.toNat : List UInt8) ++ Lib.uvarint x.1.at_.toNat) (RB.ofOwn ho836) x.1.bytes (by simp only [List.length_append, List.length_cons, List.length_nil]; omega)).mono ?_)))))))))))))))))
  rintro e w850 ⟨v848, rfl, hN849⟩
  refine ⟨_, rfl, ?_⟩
  have hz851 := hE.size
  have hA852 := Ext.refl w838
  have hea853 := hE
  have hea854 := hA750
  have hz855 := hE.size
  have hz856 := hA750.size
  have hap857 : OB v848 n2 := own_older hN849.own (bl hb8)
  have hap858 : OB v848 n765 := own_older hN849.own (bl hb781)
  have hap859 : OB v848 n816 := own_older hN849.own (bl hb817)
  have hap860 : OB v848 n744 := own_older hN849.own (bl hb757)
  have hap861 : ApartV v834 v848 := apartv_new ho836 hN849.own
  have hap862 : ApartV v848 v834 := apartv_new' ho836 hN849.own
  have hE := hE.trans hN849.ext
  have hb8 := eb hN849.ext hb8
  have hA750 := hA750.trans hN849.ext
  have hb781 := eb hN849.ext hb781
  have hb817 := eb hN849.ext hb817
  have hb757 := eb hN849.ext hb757
  have ho836 := Stab.own _ _ _ _ _ _ _ _ ho836 hN849.ext
  have hA852 := hA852.trans hN849.ext
  have ho863 := hN849.own; clear hN849
  have ho863 := ownsRow_base ho863 hz851
  refine oS rfl (Yk.storeC (i := 0) (v := v848) T4 (vr v848 rfl) hb757 (Nat.le_of_ble_eq_true rfl) wr6_isz26 (own_one ho863).1 (own_one ho863).2 fun w864 hb865 hg866 hs867 => ?_)
  have hE := row_fresh hE hg866 (Nat.le_trans hz753 (by omega))
  have hb8 := kb hg866 hb8 (by omega)
  have hA750 := row_fresh hA750 hg866 (Nat.le_trans (Nat.le_refl _) (by omega))
  have hb781 := kb hg866 hb781 (by omega)
  have hb817 := kb hg866 hb817 (by omega)
  clear hb757
  have ho836 := own_kept ho836 hg866 hap841
  have ho863 := own_kept ho863 hg866 hap860
  have hb757 := hb865; clear hb865
  have hl868 := bl hb757
  refine oZ ?_
  clear ho836
  refine tN (hK846 _ _ (sk fun K869 hK869 => (sk fun K870 hK870 => (wt (oS rfl (Yk.fieldAt wr6_fo92_6 T7 (oS rfl (Yk.cell1 wr6_ty4 rfl (vr (PQ n816 6) rfl) (cellAt hb817 (show (partsC (⟨false, false, false, true, false, true, false, false⟩ : Parts))[6]? = some (.bool (false) : Value) from parts_g6 (⟨false, false, false, true, false, true, false, false⟩ : Parts))) (oZ (tN (hK870 _ _ (wpF_false (vr (.bool (false)) rfl) (wpF_skip (tN (hK869 _ _ (sk fun K871 hK871 => (sk fun K872 hK872 => (wt (oS rfl (Yk.fieldAt wr6_fo92_7 T7 (oS rfl (Yk.cell1 wr6_ty4 rfl (vr (PQ n816 7) rfl) (cellAt hb817 (show (partsC (⟨false, false, false, true, false, true, false, false⟩ : Parts))[7]? = some (.bool (false) : Value) from parts_g7 (⟨false, false, false, true, false, true, false, false⟩ : Parts))) ?_))))))))))))))))))))))
  refine oZ (tN (hK872 _ _ (wpF_false (vr (.bool (false)) rfl) (wpF_skip (tN (hK871 _ _ (sk fun K873 hK873 => (wt (oS rfl (Yk.cell1 wr6_ty26 rfl T4 (cellAt hb757 (show _ = some (v848 : Value) from rfl)) (oA rfl (oA rfl (oZ (tN (hK873 _ _ (wpF_ret (postF_ret (fn := Tryd.f16) _ rfl [v848, NI 0] (.tuple #[v848, NI 0]) rfl ⟨rfl, rfl, trivial⟩ ?_)))))))))))))))))
  have hen : ((([(x.1.kind : UInt8)] : List UInt8) ++ Lib.uvarint x.1.session.toNat : List UInt8) ++ Lib.uvarint x.1.at_.toNat : List UInt8) ++ textB x.1.bytes = encB x.1 := by unfold encB tailM; rw [hk]; simp [List.append_assoc]
  exact ⟨v848, by rw [hR]; rfl, by rw [hR, if_pos rfl, ← hen]; exact RB.ofOwn ho863, hE⟩
 ·have hnl := hn1 rfl
  have htl := textB_le (s := x.1.name) (by omega)
  refine wpF_skip (tN (hK10 _ _ (sk fun K874 hK874 => (wt (oS rfl (Yk.fieldAt wr6_fo29_0 (vr (PQ n2 0) rfl) (oS rfl (Yk.cell1 wr6_ty5 rfl (vr (PQ n2 0) rfl) (cellAt hb8 (show (msgC x)[0]? = some (B8 (x.1.kind) : Value) from msg_g0 x)) (oS rfl (Yk.lit1 (b := x.1.kind) wr6_l1_26 (vr (B8 (x.1.kind)) rfl) fun v875 w876 hN877 => ?_))))))))))
  have hA878 := Ext.refl w13
  have hea879 := hE
  have hz880 := hE.size
  have hap881 : OB v875 n2 := own_older hN877.own (bl hb8)
  have hE := hE.trans hN877.ext
  have hb8 := eb hN877.ext hb8
  have hA878 := hA878.trans hN877.ext
  have ho882 := hN877.own; clear hN877
  refine oS rfl (Yk.alloc (cs := ([(Value.slice none 0 0)]).toArray) wr6_al26 fun n883 w884 hn885 hb886 hx887 hs888 => ?_)
  have hA889 := Ext.refl w876
  have hea890 := hE
  have hea891 := hA878
  have hz892 := hE.size
  have hz893 := hA878.size
  have hlt894 := lte (bl hb8) hn885
  have hap895 : OB v875 n883 := own_newer ho882 (by omega)
  have hE := hE.trans hx887
  have hb8 := eb hx887 hb8
  have hA878 := hA878.trans hx887
  have ho882 := Stab.own _ _ _ _ _ _ _ _ ho882 hx887
  have hA889 := hA889.trans hx887
  have hb896 := hb886; clear hb886
  have hl897 : n883 < w884.heap.size := by omega
  refine oS rfl (Yk.storeC (i := 0) (v := v875) (vr (PQ n883 0) rfl) (vr v875 rfl) hb896 (Nat.le_of_ble_eq_true rfl) wr6_isz26 (own_one ho882).1 (own_one ho882).2 fun w898 hb899 hg900 hs901 => ?_)
  have hE := row_fresh hE hg900 (Nat.le_trans hz892 (by omega))
  have hb8 := kb hg900 hb8 (by omega)
  have hA878 := row_fresh hA878 hg900 (Nat.le_trans hz893 (by omega))
  have ho882 := own_kept ho882 hg900 hap895
  have hA889 := row_fresh hA889 hg900 (Nat.le_trans (Nat.le_refl _) (by omega))
  clear hb896
  have hb896 := hb899; clear hb899
  have hl902 := bl hb896
  refine oZ (tN (hK874 _ _ (sk fun K903 hK903 => (wt (oS rfl (Yk.mkFunc (vs := #[PQ n883 0]) (by simp only [List.map_toArray, List.map_cons, List.map_nil]; exact congrArg List.toArray (list1 (vr (PQ n883 0) rfl))) (oS rfl (Yk.alloc (cs := ([Value.nilFunc]).toArray) wr6_al89 fun n904 w905 hn906 hb907 hx908 hs909 => ?_))))))))
  have hA910 := Ext.refl w898
  have hea911 := hE
  have hea912 := hA878
  have hea913 := hA889
  have hz914 := hE.size
  have hz915 := hA878.size
  have hz916 := hA889.size
  have hlt917 := lte (bl hb8) hn906
  have hlt918 := lte (bl hb896) hn906
  have hap919 : OB v875 n904 := own_newer ho882 (by omega)
  have hE := hE.trans hx908
  have hb8 := eb hx908 hb8
  have hA878 := hA878.trans hx908
  have ho882 := Stab.own _ _ _ _ _ _ _ _ ho882 hx908
  have hA889 := hA889.trans hx908
  have hb896 := eb hx908 hb896
  have hA910 := hA910.trans hx908
  have hb920 := hb907; clear hb907
  have hl921 : n904 < w905.heap.size := by omega
  refine oS rfl (Yk.storeC (i := 0) (v := .func (.func 47) #[] #[PQ n883 0]) (vr (PQ n904 0) rfl) (vr (.func (.func 47) #[] #[PQ n883 0]) rfl) hb920 (Nat.le_of_ble_eq_true rfl) wr6_isz89 rfl rfl fun w922 hb923 hg924 hs925 => ?_)
  have hE := row_fresh hE hg924 (Nat.le_trans hz914 (by omega))
  have hb8 := kb hg924 hb8 (by omega)
  have hA878 := row_fresh hA878 hg924 (Nat.le_trans hz915 (by omega))
  have ho882 := own_kept ho882 hg924 hap919
  have hA889 := row_fresh hA889 hg924 (Nat.le_trans hz916 (by omega))
  have hb896 := kb hg924 hb896 (by omega)
  have hA910 := row_fresh hA910 hg924 (Nat.le_trans (Nat.le_refl _) (by omega))
  clear hb920
  have hb920 := hb923; clear hb923
  have hl926 := bl hb920
  refine oZ (tN (hK903 _ _ (sk fun K927 hK927 => (wt (oS rfl (Yk.mkFunc (vs := #[PQ n904 0, PQ n883 0]) (by simp only [List.map_toArray, List.map_cons, List.map_nil]; exact congrArg List.toArray (list2 (vr (PQ n904 0) rfl) (vr (PQ n883 0) rfl))) (oA rfl (oZ (tN (hK927 _ _ (sk fun K928 hK928 => (wt (oS rfl (Yk.cell1 wr6_ty89 rfl (vr (PQ n904 0) rfl) (cellAt hb920 (show _ = some (.func (.func 47) #[] #[PQ n883 0] : Value) from rfl)) (oS rfl (Yk.fieldAt wr6_fo29_1 (vr (PQ n2 0) rfl) (oS rfl (Yk.cell1 wr6_ty3 rfl (vr (PQ n2 1) rfl) (cellAt hb8 (show (msgC x)[1]? = some (.int .i64 (x.1.session : Int) : Value) from msg_g1 x)) (oS rfl (Yk.clo wr6_pl47 (caps := #[PQ n883 0]) (vr (.func (.func 47) #[] #[PQ n883 0]) rfl) #[.int .i64 (x.1.session : Int), PQ n883 0] (by simp only [List.map_toArray, List.map_cons, List.map_nil, List.append_toArray, List.cons_append, List.nil_append]; exact congrArg List.toArray (list2 (vr (.int .i64 (x.1.session : Int)) rfl) rfl)) ((enc1_any w _ hE n883 (by omega) v875 ([(x.1.kind : UInt8)]) hb896 (RB.ofOwn ho882) (by simp only [List.length_append, List.length_cons, List.length_nil]; omega) x.1.session (by omega) (by omega)).mono ?_)))))))))))))))))))))
  rintro e w933 ⟨v929, rfl, hb930, ho931, hg932⟩
  refine ⟨_, rfl, ?_⟩
  have hap934 : OB v929 n2 := own_older ho931 (bl hb8)
  have hap935 : OB v929 n883 := own_older ho931 (bl hb896)
  have hap936 : OB v929 n904 := own_older ho931 (bl hb920)
  have ho931 := ownsRow_base ho931 hE.size
  have hE := row_fresh hE hg932 (Nat.le_trans hz892 (by omega))
  have hb8 := kb hg932 hb8 (by omega)
  have hA878 := row_fresh hA878 hg932 (Nat.le_trans hz893 (by omega))
  clear ho882
  have hA889 := row_fresh hA889 hg932 (Nat.le_trans (Nat.le_refl _) (by omega))
  clear hb896
  clear hA910
  have hb920 := kb hg932 hb920 (by omega)
  have hb896 := hb930; clear hb930
  have hl937 := bl hb896
  refine oZ (tN (hK928 _ _ (sk fun K938 hK938 => ?_)))
  have hA939 := Ext.refl w933
  have hea940 := hE
  have hea941 := hA878
  have hea942 := hA889
  have hz943 := hE.size
  have hz944 := hA878.size
  have hz945 := hA889.size
  have hlt946 : n2 < w933.heap.size := (bl hb8)
  have hlt947 : n904 < w933.heap.size := (bl hb920)
  have hlt948 : n883 < w933.heap.size := (bl hb896)
  have hnw949 : ∀ g, w933.heap.size ≤ g → OB v929 g := fun g hg => own_newer ho931 hg
  refine wpF_draw_end 5 _ [fun x w' => ∃ b, x = .map (some b) ∧ MapF B8 partsV (fun _ : UInt8 => True) w' b kindsG, Is (PQ n2 0), Is (B8 (x.1.kind)), Is (.agg (partsC (⟨false, false, true, false, true, false, true, false⟩ : Parts)).toArray), fun x w' => ∃ g, x = PQ g 0 ∧ w'.heap[g]? = some (.cells (partsC (⟨false, false, false, false, false, false, false, false⟩ : Parts)).toArray 92 (0, 0)) ∧ w933.heap.size ≤ g] (by kernel_rfl) [23, 24, 25, 26, 7] (by kernel_rfl) (by kernel_rfl) (by kernel_rfl) rfl rfl rfl ⟨(fun _ _ _ ⟨b, h1, h2⟩ k => ⟨b, h1, MapF.keep h2 k⟩), Stab.is _, Stab.is _, Stab.is _, (fun _ _ _ ⟨g, h1, h2, h3⟩ k => ⟨g, h1, eb k h2, h3⟩), trivial⟩ ?hs9007 ?hQ9007
  case hs9007 =>
   refine ⟨?_, ?_, ?_, ?_, ?_, ?_, trivial⟩
   ·refine stepFL (stepN rfl fun σ w1 hC h => (Yk.callA0 wr6_pl50  ((kinds_any _).mono ?_)))
    rintro e w2 ⟨b, rfl, hmk, hx, hom⟩
    exact ⟨_, rfl, hx, ⟨b, rfl, hmk⟩⟩
   ·refine stepFL (stepN rfl fun σ w1 hC h => ?_)
    have e1 : σ 1 = PQ n2 0 := (eqo (h 1 (by decide))).trans rfl
    exact Yk.fieldAt wr6_fo29_0 e1 ⟨Ext.refl _, rfl⟩
   ·refine stepFL (stepN rfl fun σ w1 hC h => ?_)
    have e24 := eqo (h 24 (by decide))
    exact Yk.cell1 wr6_ty5 rfl e24 (cellAt (eb hC hb8) (show (msgC x)[0]? = some (B8 (x.1.kind) : Value) from msg_g0 x)) ⟨Ext.refl _, rfl⟩
   ·refine stepFL (stepN rfl fun σ w1 hC h => ?_)
    have e23 : (fun x w' => ∃ b, x = .map (some b) ∧ MapF B8 partsV (fun _ : UInt8 => True) w' b kindsG) (σ 23) w1 := h 23 (by decide)
    have e25 := eqo (h 25 (by decide))
    obtain ⟨b6, k6, m6⟩ := (show ∃ b, σ 23 = .map (some b) ∧ MapF B8 partsV (fun _ : UInt8 => True) w1 b kindsG from e23)
    exact Yk.lookMS (ek := B8) (ev := partsV) (D := fun _ : UInt8 => True) u8Law u8_ok (fun _ _ => b8_inj) wr6_ty93 (z := partsV dParts) zeroParts k6 e25 m6 trivial hK ⟨Ext.refl _, rfl⟩
   ·refine stepFL (stepN rfl fun σ w1 hC h => ?_)
    exact Yk.alloc (cs := (partsC (⟨false, false, false, false, false, false, false, false⟩ : Parts)).toArray) wr6_al92 fun g w2 hn hb hx hs => ⟨hx, g, rfl, hb, Nat.le_trans (show Ext w933 w1 from hC).size (Nat.le_of_eq hn)⟩
   ·exact trivial
  intro ρ950 w951 hx952 he hf
  obtain ⟨-, -, -, k26, k7, -⟩ := hf
  obtain ⟨T0, T1, T2, T3, T4, T5, T6, -⟩ := he.hold [(0, _), (1, PQ n2 0), (2, (Value.slice none 0 0)), (3, NI 0), (4, PQ n883 0), (5, PQ n904 0), (6, .func (.func 49) #[] #[PQ n904 0, PQ n883 0])] ⟨T0, rfl, rfl, rfl, rfl, rfl, rfl, trivial⟩ rfl
  clear he
  have hE := hE.trans hx952
  have hb8 := eb hx952 hb8
  have hA889 := hA889.trans hx952
  have hb920 := eb hx952 hb920
  have hb896 := eb hx952 hb896
  have ho931 := Stab.own _ _ _ _ _ _ _ _ ho931 hx952
  have hA939 := hA939.trans hx952
  have T26 : ρ950 26 = .agg (partsC (⟨false, false, true, false, true, false, true, false⟩ : Parts)).toArray := k26
  have k7 : (fun x w' => ∃ g, x = PQ g 0 ∧ w'.heap[g]? = some (.cells (partsC (⟨false, false, false, false, false, false, false, false⟩ : Parts)).toArray 92 (0, 0)) ∧ w933.heap.size ≤ g) (ρ950 7) w951 := k7
  obtain ⟨v953, T7⟩ : ∃ v, ρ950 7 = v := ⟨_, rfl⟩
  rw [T7] at k7
  have hk954 := k7; clear k7
  obtain ⟨n955, rfl, hb956, hn957⟩ := hk954
  have hl958 := bl hb956
  have hap959 : OB v929 n955 := hnw949 _ hn957
  clear k26
  refine (Yk.storeAll T7 T26 hb956 (by simp only [List.size_toArray, parts_len]) (st_isz (parts_len _) wr6_isz92) (parts_one (x := (⟨false, false, true, false, true, false, true, false⟩ : Parts))) fun w960 hb961 hg962 hs963 => ?_)
  have hE := row_fresh hE hg962 (Nat.le_trans hz943 (by omega))
  have hb8 := kb hg962 hb8 (by omega)
  have hA889 := row_fresh hA889 hg962 (Nat.le_trans hz945 (by omega))
  have hb920 := kb hg962 hb920 (by omega)
  have hb896 := kb hg962 hb896 (by omega)
  have ho931 := own_kept ho931 hg962 hap959
  have hA939 := row_fresh hA939 hg962 (Nat.le_trans (Nat.le_refl _) (by omega))
  clear hb956
  have hb956 : w960.heap[n955]? = some (.cells (partsC (⟨false, false, true, false, true, false, true, false⟩ : Parts)).toArray 92 (0, 0)) := hb961; clear hb961
  have hl964 := bl hb956
  refine tN (hK938 _ _ (sk fun K965 hK965 => (sk fun K966 hK966 => (wt (oS rfl (Yk.fieldAt wr6_fo92_0 T7 (oS rfl (Yk.cell1 wr6_ty4 rfl (vr (PQ n955 0) rfl) (cellAt hb956 (show (partsC (⟨false, false, true, false, true, false, true, false⟩ : Parts))[0]? = some (.bool (false) : Value) from parts_g0 (⟨false, false, true, false, true, false, true, false⟩ : Parts))) (oZ (tN (hK966 _ _ (wpF_false (vr (.bool (false)) rfl) (wpF_skip (tN (hK965 _ _ (sk fun K967 hK967 => (sk fun K968 hK968 => (wt (oS rfl (Yk.fieldAt wr6_fo92_1 T7 (oS rfl (Yk.cell1 wr6_ty4 rfl (vr (PQ n955 1) rfl) (cellAt hb956 (show (partsC (⟨false, false, true, false, true, false, true, false⟩ : Parts))[1]? = some (.bool (false) : Value) from parts_g1 (⟨false, false, true, false, true, false, true, false⟩ : Parts))) ?_))))))))))))))))))))))
  refine oZ (tN (hK968 _ _ (wpF_false (vr (.bool (false)) rfl) (wpF_skip (tN (hK967 _ _ (sk fun K969 hK969 => (sk fun K970 hK970 => (wt (oS rfl (Yk.fieldAt wr6_fo92_2 T7 (oS rfl (Yk.cell1 wr6_ty4 rfl (vr (PQ n955 2) rfl) (cellAt hb956 (show (partsC (⟨false, false, true, false, true, false, true, false⟩ : Parts))[2]? = some (.bool (true) : Value) from parts_g2 (⟨false, false, true, false, true, false, true, false⟩ : Parts))) (oZ (tN (hK970 _ _ (wpF_true (vr (.bool (true)) rfl) (wt (oS rfl (Yk.cell1 wr6_ty89 rfl T5 (cellAt hb920 (show _ = some (.func (.func 47) #[] #[PQ n883 0] : Value) from rfl)) (oS rfl (Yk.fieldAt wr6_fo29_5 T1 ?_))))))))))))))))))))))
  refine oS rfl (Yk.cell1 wr6_ty3 rfl (vr (PQ n2 5) rfl) (cellAt hb8 (show (msgC x)[5]? = some (.int .i64 (x.1.size : Int) : Value) from msg_g5 x)) (oS rfl (Yk.clo wr6_pl47 (caps := #[PQ n883 0]) (vr (.func (.func 47) #[] #[PQ n883 0]) rfl) #[.int .i64 (x.1.size : Int), PQ n883 0] (by simp only [List.map_toArray, List.map_cons, List.map_nil, List.append_toArray, List.cons_append, List.nil_append]; exact congrArg List.toArray (list2 (vr (.int .i64 (x.1.size : Int)) rfl) rfl)) ((enc1_any w _ hE n883 (by omega) v929 (([(x.1.kind : UInt8)] : List UInt8) ++ Lib.uvarint x.1.session.toNat) hb896 (RB.ofOwn ho931) (by simp only [List.length_append, List.length_cons, List.length_nil]; omega) x.1.size (by omega) (by omega)).mono ?_))))
  rintro e w975 ⟨v971, rfl, hb972, ho973, hg974⟩
  refine ⟨_, rfl, ?_⟩
  have hap976 : OB v971 n2 := own_older ho973 (bl hb8)
  have hap977 : OB v971 n904 := own_older ho973 (bl hb920)
  have hap978 : OB v971 n883 := own_older ho973 (bl hb896)
  have hap979 : OB v971 n955 := own_older ho973 (bl hb956)
  have ho973 := ownsRow_base ho973 hE.size
  have hE := row_fresh hE hg974 (Nat.le_trans hz892 (by omega))
  have hb8 := kb hg974 hb8 (by omega)
  have hA889 := row_fresh hA889 hg974 (Nat.le_trans (Nat.le_refl _) (by omega))
  have hb920 := kb hg974 hb920 (by omega)
  clear hb896
  clear ho931
  clear hA939
  have hb956 := kb hg974 hb956 (by omega)
  have hb896 := hb972; clear hb972
  have hl980 := bl hb896
  refine oZ (tN (hK969 _ _ (sk fun K981 hK981 => (sk fun K982 hK982 => (wt (oS rfl (Yk.fieldAt wr6_fo92_3 T7 (oS rfl (Yk.cell1 wr6_ty4 rfl (vr (PQ n955 3) rfl) (cellAt hb956 (show (partsC (⟨false, false, true, false, true, false, true, false⟩ : Parts))[3]? = some (.bool (false) : Value) from parts_g3 (⟨false, false, true, false, true, false, true, false⟩ : Parts))) (oZ (tN (hK982 _ _ (wpF_false (vr (.bool (false)) rfl) (wpF_skip (tN (hK981 _ _ (sk fun K983 hK983 => (sk fun K984 hK984 => (wt (oS rfl (Yk.fieldAt wr6_fo92_4 T7 ?_)))))))))))))))))))))
  refine oS rfl (Yk.cell1 wr6_ty4 rfl (vr (PQ n955 4) rfl) (cellAt hb956 (show (partsC (⟨false, false, true, false, true, false, true, false⟩ : Parts))[4]? = some (.bool (true) : Value) from parts_g4 (⟨false, false, true, false, true, false, true, false⟩ : Parts))) (oZ (tN (hK984 _ _ (wpF_true (vr (.bool (true)) rfl) (wt (oS rfl (Yk.cell1 wr6_ty26 rfl T4 (cellAt hb896 (show _ = some (v971 : Value) from rfl)) (oS rfl (Yk.fieldAt wr6_fo29_7 T1 (oS rfl (Yk.loadPR (PR.blk hb8 (msg_m7 x) (msg_n7 x) (vr (PQ n2 7) rfl)) wr6_ty25 rfl (sizeId_of x.1.id.2) (oS rfl (Yk.callA2 wr6_pl51 (vr v971 rfl) (vr (AB x.1.id.1) rfl) ((putId_any _ v971 ((([(x.1.kind : UInt8)] : List UInt8) ++ Lib.uvarint x.1.session.toNat : List UInt8) ++ Lib.uvarint x.1.size.toNat) (RB.ofOwn ho973) (by simp only [List.length_append, List.length_cons, List.length_nil]; omega) x.1.id).mono ?_)))))))))))))))
  rintro e w987 ⟨v985, rfl, hN986⟩
  refine ⟨_, rfl, ?_⟩
  have hz988 := hE.size
  have hA989 := Ext.refl w975
  have hea990 := hE
  have hea991 := hA889
  have hz992 := hE.size
  have hz993 := hA889.size
  have hap994 : OB v985 n2 := own_older hN986.own (bl hb8)
  have hap995 : OB v985 n904 := own_older hN986.own (bl hb920)
  have hap996 : OB v985 n955 := own_older hN986.own (bl hb956)
  have hap997 : OB v985 n883 := own_older hN986.own (bl hb896)
  have hap998 : ApartV v971 v985 := apartv_new ho973 hN986.own
  have hap999 : ApartV v985 v971 := apartv_new' ho973 hN986.own
  have hE := hE.trans hN986.ext
  have hb8 := eb hN986.ext hb8
  have hA889 := hA889.trans hN986.ext
  have hb920 := eb hN986.ext hb920
  have hb956 := eb hN986.ext hb956
  have hb896 := eb hN986.ext hb896
  have ho973 := Stab.own _ _ _ _ _ _ _ _ ho973 hN986.ext
  have hA989 := hA989.trans hN986.ext
  have ho1000 := hN986.own; clear hN986
  have ho1000 := ownsRow_base ho1000 hz988
  refine oS rfl (Yk.storeC (i := 0) (v := v985) T4 (vr v985 rfl) hb896 (Nat.le_of_ble_eq_true rfl) wr6_isz26 (own_one ho1000).1 (own_one ho1000).2 fun w1001 hb1002 hg1003 hs1004 => ?_)
  have hE := row_fresh hE hg1003 (Nat.le_trans hz892 (by omega))
  have hb8 := kb hg1003 hb8 (by omega)
  have hA889 := row_fresh hA889 hg1003 (Nat.le_trans (Nat.le_refl _) (by omega))
  have hb920 := kb hg1003 hb920 (by omega)
  have hb956 := kb hg1003 hb956 (by omega)
  clear hb896
  have ho973 := own_kept ho973 hg1003 hap978
  have ho1000 := own_kept ho1000 hg1003 hap997
  have hb896 := hb1002; clear hb1002
  have hl1005 := bl hb896
  refine oZ ?_
  clear ho973
  refine tN (hK983 _ _ (sk fun K1006 hK1006 => (sk fun K1007 hK1007 => (wt (oS rfl (Yk.fieldAt wr6_fo92_5 T7 (oS rfl (Yk.cell1 wr6_ty4 rfl (vr (PQ n955 5) rfl) (cellAt hb956 (show (partsC (⟨false, false, true, false, true, false, true, false⟩ : Parts))[5]? = some (.bool (false) : Value) from parts_g5 (⟨false, false, true, false, true, false, true, false⟩ : Parts))) (oZ (tN (hK1007 _ _ (wpF_false (vr (.bool (false)) rfl) (wpF_skip (tN (hK1006 _ _ (sk fun K1008 hK1008 => (sk fun K1009 hK1009 => (wt (oS rfl (Yk.fieldAt wr6_fo92_6 T7 (oS rfl (Yk.cell1 wr6_ty4 rfl (vr (PQ n955 6) rfl) (cellAt hb956 (show (partsC (⟨false, false, true, false, true, false, true, false⟩ : Parts))[6]? = some (.bool (true) : Value) from parts_g6 (⟨false, false, true, false, true, false, true, false⟩ : Parts))) ?_))))))))))))))))))))))
  refine oZ (tN (hK1009 _ _ (wpF_true (vr (.bool (true)) rfl) (sk fun K1010 hK1010 => ?_))))
  have hx1011 : Ext w1001 (World.drew w1001) := (Below.refl _ _).drew
  have hE := hE.trans hx1011
  have hb8 := eb hx1011 hb8
  have hA889 := hA889.trans hx1011
  have hb920 := eb hx1011 hb920
  have hb956 := eb hx1011 hb956
  have ho1000 := Stab.own _ _ _ _ _ _ _ _ ho1000 hx1011
  have hb896 := eb hx1011 hb896
  refine wpF_float [(0, 90, v985), (4, 94, PQ n2 41), (5, 95, AB x.1.old.1), (7, 97, PQ n2 73), (8, 98, AB x.1.new.1)] [1, 2, 3, 6, 9, 10] (fun wz => Ext w wz ∧ wz.heap[n2]? = some (.cells (msgC x).toArray 29 (0, 0)) ∧ wz.heap[n904]? = some (.cells ([.func (.func 47) #[] #[PQ n883 0]]).toArray 89 (0, 0)) ∧ wz.heap[n955]? = some (.cells (partsC (⟨false, false, true, false, true, false, true, false⟩ : Parts)).toArray 92 (0, 0)) ∧ wz.heap[n883]? = some (.cells ([v985]).toArray 26 (0, 0)) ∧ True) (by kernel_rfl) (by kernel_rfl) (by kernel_rfl) ⟨hE, hb8, hb920, hb956, hb896, trivial⟩ ⟨fun w1012 ⟨hE, hb8, hb920, hb956, hb896, _⟩ => Yk.cell1 wr6_ty26 rfl T4 (cellAt hb896 (show _ = some (v985 : Value) from rfl)) ⟨rfl, rfl⟩, fun w1012 ⟨hE, hb8, hb920, hb956, hb896, _⟩ => Yk.fieldAt wr6_fo29_10 T1 ⟨rfl, rfl⟩, fun w1012 ⟨hE, hb8, hb920, hb956, hb896, _⟩ => Yk.loadPR (PR.blk hb8 (msg_m10 x) (msg_n10 x) (vr (PQ n2 41) rfl)) wr6_ty25 rfl (sizeId_of x.1.old.2) ⟨rfl, rfl⟩, fun w1012 ⟨hE, hb8, hb920, hb956, hb896, _⟩ => Yk.fieldAt wr6_fo29_11 T1 ⟨rfl, rfl⟩, fun w1012 ⟨hE, hb8, hb920, hb956, hb896, _⟩ => Yk.loadPR (PR.blk hb8 (msg_m11 x) (msg_n11 x) (vr (PQ n2 73) rfl)) wr6_ty25 rfl (sizeId_of x.1.new.2) ⟨rfl, rfl⟩, trivial⟩ (chF_step rfl (Yk.fieldAt wr6_fo29_9 T1 ?_))
  refine ⟨.inr ⟨hE, hb8, hb920, hb956, hb896, trivial⟩, ?_⟩
  refine chF_step rfl (Yk.cell1 wr6_ty9 rfl (vr (PQ n2 40) rfl) (cellAt hb8 (show (msgC x)[40]? = some (St (x.1.name) : Value) from msg_g9 x)) ?_)
  refine ⟨.inr ⟨hE, hb8, hb920, hb956, hb896, trivial⟩, ?_⟩
  refine chF_step rfl (Yk.callA2 wr6_pl52 (vr v985 rfl) (vr (St (x.1.name)) rfl) ((putTextL _ v985 (((([(x.1.kind : UInt8)] : List UInt8) ++ Lib.uvarint x.1.session.toNat : List UInt8) ++ Lib.uvarint x.1.size.toNat : List UInt8) ++ x.1.id.1) (RB.ofOwn ho1000) x.1.name (by simp only [List.length_append, List.length_cons, List.length_nil]; omega)).mono ?_))
  rintro e w1015 ⟨v1013, rfl, hN1014⟩
  refine ⟨_, rfl, ?_⟩
  have hz1016 := hE.size
  have hA1017 := Ext.refl (World.drew w1001)
  have hea1018 := hE
  have hea1019 := hA889
  have hz1020 : w.heap.size ≤ (World.drew w1001).heap.size := hE.size
  have hz1021 : w876.heap.size ≤ (World.drew w1001).heap.size := hA889.size
  have hap1022 : OB v1013 n2 := own_older hN1014.own (bl hb8)
  have hap1023 : OB v1013 n904 := own_older hN1014.own (bl hb920)
  have hap1024 : OB v1013 n955 := own_older hN1014.own (bl hb956)
  have hap1025 : OB v1013 n883 := own_older hN1014.own (bl hb896)
  have hap1026 : ApartV v985 v1013 := apartv_new ho1000 hN1014.own
  have hap1027 : ApartV v1013 v985 := apartv_new' ho1000 hN1014.own
  have hE := hE.trans hN1014.ext
  have hb8 := eb hN1014.ext hb8
  have hA889 := hA889.trans hN1014.ext
  have hb920 := eb hN1014.ext hb920
  have hb956 := eb hN1014.ext hb956
  have ho1000 := Stab.own _ _ _ _ _ _ _ _ ho1000 hN1014.ext
  have hb896 := eb hN1014.ext hb896
  have hA1017 := hA1017.trans hN1014.ext
  have ho1028 := hN1014.own; clear hN1014
  have ho1028 := ownsRow_base ho1028 hz1016
  refine ⟨.inr ⟨hE, hb8, hb920, hb956, hb896, trivial⟩, ?_⟩
  refine chF_step rfl (Yk.callA2 wr6_pl51 (vr v1013 rfl) (vr (AB x.1.old.1) rfl) ((putId_any _ v1013 ((((([(x.1.kind : UInt8)] : List UInt8) ++ Lib.uvarint x.1.session.toNat : List UInt8) ++ Lib.uvarint x.1.size.toNat : List UInt8) ++ x.1.id.1 : List UInt8) ++ textB x.1.name) (RB.ofOwn ho1028) (by simp only [List.length_append, List.length_cons, List.length_nil]; omega) x.1.old).mono ?_))
  rintro e w1031 ⟨v1029, rfl, hN1030⟩
  refine ⟨_, rfl, ?_⟩
  have hz1032 := hE.size
  have hA1033 := Ext.refl w1015
  have hea1034 := hE
  have hea1035 := hA889
  have hea1036 := hA1017
  have hz1037 := hE.size
  have hz1038 := hA889.size
  have hz1039 : (World.drew w1001).heap.size ≤ w1015.heap.size := hA1017.size
  have hap1040 : OB v1029 n2 := own_older hN1030.own (bl hb8)
  have hap1041 : OB v1029 n904 := own_older hN1030.own (bl hb920)
  have hap1042 : OB v1029 n955 := own_older hN1030.own (bl hb956)
  have hap1043 : OB v1029 n883 := own_older hN1030.own (bl hb896)
  have hap1044 : ApartV v985 v1029 := apartv_new ho1000 hN1030.own
  have hap1045 : ApartV v1029 v985 := apartv_new' ho1000 hN1030.own
  have hap1046 : ApartV v1013 v1029 := apartv_new ho1028 hN1030.own
  have hap1047 : ApartV v1029 v1013 := apartv_new' ho1028 hN1030.own
  have hE := hE.trans hN1030.ext
  have hb8 := eb hN1030.ext hb8
  have hA889 := hA889.trans hN1030.ext
  have hb920 := eb hN1030.ext hb920
  have hb956 := eb hN1030.ext hb956
  have ho1000 := Stab.own _ _ _ _ _ _ _ _ ho1000 hN1030.ext
  have hb896 := eb hN1030.ext hb896
  have ho1028 := Stab.own _ _ _ _ _ _ _ _ ho1028 hN1030.ext
  have hA1033 := hA1033.trans hN1030.ext
  have ho1048 := hN1030.own; clear hN1030
  have ho1048 := ownsRow_base ho1048 hz1032
  refine ⟨.inr ⟨hE, hb8, hb920, hb956, hb896, trivial⟩, ?_⟩
  refine chF_step rfl (Yk.callA2 wr6_pl51 (vr v1029 rfl) (vr (AB x.1.new.1) rfl) ((putId_any _ v1029 (((((([(x.1.kind : UInt8)] : List UInt8) ++ Lib.uvarint x.1.session.toNat : List UInt8) ++ Lib.uvarint x.1.size.toNat : List UInt8) ++ x.1.id.1 : List UInt8) ++ textB x.1.name : List UInt8) ++ x.1.old.1) (RB.ofOwn ho1048) (by simp only [List.length_append, List.length_cons, List.length_nil]; omega) x.1.new).mono ?_))
  rintro e w1051 ⟨v1049, rfl, hN1050⟩
  refine ⟨_, rfl, ?_⟩
  have hz1052 := hE.size
  have hA1053 := Ext.refl w1031
  have hea1054 := hE
  have hea1055 := hA889
  have hea1056 := hA1033
  have hz1057 := hE.size
  have hz1058 := hA889.size
  have hz1059 := hA1033.size
  have hap1060 : OB v1049 n2 := own_older hN1050.own (bl hb8)
  have hap1061 : OB v1049 n904 := own_older hN1050.own (bl hb920)
  have hap1062 : OB v1049 n955 := own_older hN1050.own (bl hb956)
  have hap1063 : OB v1049 n883 := own_older hN1050.own (bl hb896)
  have hap1064 : ApartV v985 v1049 := apartv_new ho1000 hN1050.own
  have hap1065 : ApartV v1049 v985 := apartv_new' ho1000 hN1050.own
  have hap1066 : ApartV v1013 v1049 := apartv_new ho1028 hN1050.own
  have hap1067 : ApartV v1049 v1013 := apartv_new' ho1028 hN1050.own
  have hap1068 : ApartV v1029 v1049 := apartv_new ho1048 hN1050.own
  have hap1069 : ApartV v1049 v1029 := apartv_new' ho1048 hN1050.own
  have hE := hE.trans hN1050.ext
  have hb8 := eb hN1050.ext hb8
  have hA889 := hA889.trans hN1050.ext
  have hb920 := eb hN1050.ext hb920
  have hb956 := eb hN1050.ext hb956
  have ho1000 := Stab.own _ _ _ _ _ _ _ _ ho1000 hN1050.ext
  have hb896 := eb hN1050.ext hb896
  have ho1028 := Stab.own _ _ _ _ _ _ _ _ ho1028 hN1050.ext
  have ho1048 := Stab.own _ _ _ _ _ _ _ _ ho1048 hN1050.ext
  have hA1053 := hA1053.trans hN1050.ext
  have ho1070 := hN1050.own; clear hN1050
  have ho1070 := ownsRow_base ho1070 hz1052
  refine ⟨.inr ⟨hE, hb8, hb920, hb956, hb896, trivial⟩, ?_⟩
  refine chF_step rfl (Yk.storeC (i := 0) (v := v1049) T4 (vr v1049 rfl) hb896 (Nat.le_of_ble_eq_true rfl) wr6_isz26 (own_one ho1070).1 (own_one ho1070).2 fun w1071 hb1072 hg1073 hs1074 => ?_)
  have hE := row_fresh hE hg1073 (Nat.le_trans hz892 (by omega))
  have hb8 := kb hg1073 hb8 (by omega)
  have hA889 := row_fresh hA889 hg1073 (Nat.le_trans (Nat.le_refl _) (by omega))
  have hb920 := kb hg1073 hb920 (by omega)
  have hb956 := kb hg1073 hb956 (by omega)
  have ho1000 := own_kept ho1000 hg1073 hap997
  clear hb896
  have ho1028 := own_kept ho1028 hg1073 hap1025
  have ho1048 := own_kept ho1048 hg1073 hap1043
  have ho1070 := own_kept ho1070 hg1073 hap1063
  have hb896 := hb1072; clear hb1072
  have hl1075 := bl hb896
  refine ⟨.inl rfl, ?_⟩
  refine chF_nil ?_
  clear ho1000
  clear ho1028
  clear ho1048
  refine tN (hK1010 _ _ (sk fun K1076 hK1076 => (wt (oA rfl (oZ (tN (hK1076 _ _ (sk fun K1077 hK1077 => (sk fun K1078 hK1078 => (wt (oS rfl (Yk.fieldAt wr6_fo29_12 T1 (oS rfl (Yk.cell1 wr6_ty4 rfl (vr (PQ n2 105) rfl) (cellAt hb8 (show (msgC x)[105]? = some (.bool (x.1.force) : Value) from msg_g12 x)) (oZ (tN (hK1078 _ _ ?_)))))))))))))))))
  refine wpF_condB (x.1.force) (vr (.bool (x.1.force)) rfl) (fun hc9 => ?_) (fun hc9 => ?_)
  ·have hfc := hc9
   refine wt (oA rfl (oZ (tN (hK1077 _ _ (wt (oS rfl (Yk.cell1 wr6_ty26 rfl T4 (cellAt hb896 (show _ = some (v1049 : Value) from rfl)) (oM rfl (oS rfl (Yk.lit1 (b := 1) wr6_l1_26 (vr (B8 (1)) rfl) fun v1079 w1080 hN1081 => ?_))))))))))
   have hA1082 := Ext.refl w1071
   have hea1083 := hE
   have hea1084 := hA889
   have hz1085 := hE.size
   have hz1086 := hA889.size
   have hap1087 : OB v1079 n2 := own_older hN1081.own (bl hb8)
   have hap1088 : OB v1079 n904 := own_older hN1081.own (bl hb920)
   have hap1089 : OB v1079 n955 := own_older hN1081.own (bl hb956)
   have hap1090 : OB v1079 n883 := own_older hN1081.own (bl hb896)
   have hap1091 : ApartV v1049 v1079 := apartv_new ho1070 hN1081.own
   have hap1092 : ApartV v1079 v1049 := apartv_new' ho1070 hN1081.own
   have hE := hE.trans hN1081.ext
   have hb8 := eb hN1081.ext hb8
   have hA889 := hA889.trans hN1081.ext
   have hb920 := eb hN1081.ext hb920
   have hb956 := eb hN1081.ext hb956
   have ho1070 := Stab.own _ _ _ _ _ _ _ _ ho1070 hN1081.ext
   have hb896 := eb hN1081.ext hb896
   have hA1082 := hA1082.trans hN1081.ext
   have ho1093 := hN1081.own; clear hN1081
   refine oS rfl (Yk.appendRB _ _ w.heap.size (.int .u8 0) wr6_ty26 wr6_inf5 rfl wr6_ty26 ((((((([(x.1.kind : UInt8)] : List UInt8) ++ Lib.uvarint x.1.session.toNat : List UInt8) ++ Lib.uvarint x.1.size.toNat : List UInt8) ++ x.1.id.1 : List UInt8) ++ textB x.1.name : List UInt8) ++ x.1.old.1 : List UInt8) ++ x.1.new.1) ([(1 : UInt8)]) (own_of ho1070 (vr v1049 rfl)) (RB.of (RB.ofOwn ho1093) (vr v1079 rfl)) (by simp only [List.length_append, List.length_cons, List.length_nil]; omega) hE.size fun v1094 w1095 ho1096 hg1097 => ?_)
   have hg1097 : Grew w1080 w1095 v1049 v1094 := hg1097
   have hap1098 : OB v1094 n2 := apart_grew hg1097 hap1060 (bl hb8)
   have hap1099 : OB v1094 n904 := apart_grew hg1097 hap1061 (bl hb920)
   have hap1100 : OB v1094 n955 := apart_grew hg1097 hap1062 (bl hb956)
   have hap1101 : OB v1094 n883 := apart_grew hg1097 hap1063 (bl hb896)
   have hap1102 : ApartV v1094 v1079 := apartv_grew hg1097 hap1091 ho1093
   have hap1103 : ApartV v1079 v1094 := fun k h1 h2 => hap1102 k h2 h1
   have hE := ext_grew hE hg1097 ho1070 (Nat.le_refl _)
   have hb8 := blk_grew hb8 hg1097 hap1060
   clear hA889
   have hb920 := blk_grew hb920 hg1097 hap1061
   have hb956 := blk_grew hb956 hg1097 hap1062
   clear ho1070
   have hb896 := blk_grew hb896 hg1097 hap1063
   clear hA1082
   have ho1093 := own_grew ho1093 hg1097 hap1091
   refine oS rfl (Yk.storeC (i := 0) (v := v1094) T4 (vr v1094 rfl) hb896 (Nat.le_of_ble_eq_true rfl) wr6_isz26 (own_one ho1096).1 (own_one ho1096).2 fun w1104 hb1105 hg1106 hs1107 => ?_)
   have hE := row_fresh hE hg1106 (Nat.le_trans hz892 (by omega))
   have hb8 := kb hg1106 hb8 (by omega)
   have hb920 := kb hg1106 hb920 (by omega)
   have hb956 := kb hg1106 hb956 (by omega)
   clear hb896
   have ho1093 := own_kept ho1093 hg1106 hap1090
   have ho1096 := own_kept ho1096 hg1106 hap1101
   have hb896 := hb1105; clear hb1105
   have hl1108 := bl hb896
   refine oL_ [(0, .agg (msgC x).toArray), (1, PQ n2 0), (2, (Value.slice none 0 0)), (3, NI 0), (4, PQ n883 0), (5, PQ n904 0), (6, .func (.func 49) #[] #[PQ n904 0, PQ n883 0]), (7, PQ n955 0), (10, B8 (1)), (28, .bool (false)), (54, .bool (false)), (64, .bool (true)), (70, .bool (false)), (76, .bool (true)), (82, .bool (false)), (89, .bool (true))] ⟨T0, T1, T2, T3, T4, T5, T6, T7, rfl, rfl, rfl, rfl, rfl, rfl, rfl, rfl, trivial⟩ fun ρ1109 ⟨T0, T1, T2, T3, T4, T5, T6, T7, T10, T28, T54, T64, T70, T76, T82, T89, _⟩ => ?_
   clear ho1093
   refine tN (hK1008 _ _ (sk fun K1110 hK1110 => (sk fun K1111 hK1111 => (wt (oS rfl (Yk.fieldAt wr6_fo92_7 T7 (oS rfl (Yk.cell1 wr6_ty4 rfl (vr (PQ n955 7) rfl) (cellAt hb956 (show (partsC (⟨false, false, true, false, true, false, true, false⟩ : Parts))[7]? = some (.bool (false) : Value) from parts_g7 (⟨false, false, true, false, true, false, true, false⟩ : Parts))) (oZ (tN (hK1111 _ _ (wpF_false (vr (.bool (false)) rfl) (wpF_skip (tN (hK1110 _ _ (sk fun K1112 hK1112 => (wt (oS rfl (Yk.cell1 wr6_ty26 rfl T4 (cellAt hb896 (show _ = some (v1094 : Value) from rfl)) (oA rfl (oA rfl ?_)))))))))))))))))))))
   refine oZ (tN (hK1112 _ _ (wpF_ret (postF_ret (fn := Tryd.f16) _ rfl [v1094, NI 0] (.tuple #[v1094, NI 0]) rfl ⟨rfl, rfl, trivial⟩ ?_))))
   have hen : (((((([(x.1.kind : UInt8)] : List UInt8) ++ Lib.uvarint x.1.session.toNat : List UInt8) ++ Lib.uvarint x.1.size.toNat : List UInt8) ++ x.1.id.1 : List UInt8) ++ textB x.1.name : List UInt8) ++ x.1.old.1 : List UInt8) ++ x.1.new.1 ++ [(1 : UInt8)] = encB x.1 := by unfold encB tailM; rw [hk]; simp [List.append_assoc, forceB, hfc]
   exact ⟨v1094, by rw [hR]; rfl, by rw [hR, if_pos rfl, ← hen]; exact RB.ofOwn ho1096, hE⟩
  have hfc := hc9
  refine wpF_skip (tN (hK1077 _ _ (wt (oS rfl (Yk.cell1 wr6_ty26 rfl T4 (cellAt hb896 (show _ = some (v1049 : Value) from rfl)) (oM rfl (oS rfl (Yk.lit1 (b := 0) wr6_l1_26 (vr (B8 (0)) rfl) fun v1113 w1114 hN1115 => ?_))))))))
  have hA1116 := Ext.refl w1071
  have hea1117 := hE
  have hea1118 := hA889
  have hz1119 := hE.size
  have hz1120 := hA889.size
  have hap1121 : OB v1113 n2 := own_older hN1115.own (bl hb8)
  have hap1122 : OB v1113 n904 := own_older hN1115.own (bl hb920)
  have hap1123 : OB v1113 n955 := own_older hN1115.own (bl hb956)
  have hap1124 : OB v1113 n883 := own_older hN1115.own (bl hb896)
  have hap1125 : ApartV v1049 v1113 := apartv_new ho1070 hN1115.own
  have hap1126 : ApartV v1113 v1049 := apartv_new' ho1070 hN1115.own
  have hE := hE.trans hN1115.ext
  have hb8 := eb hN1115.ext hb8
  have hA889 := hA889.trans hN1115.ext
  have hb920 := eb hN1115.ext hb920
  have hb956 := eb hN1115.ext hb956
  have ho1070 := Stab.own _ _ _ _ _ _ _ _ ho1070 hN1115.ext
  have hb896 := eb hN1115.ext hb896
  have hA1116 := hA1116.trans hN1115.ext
  have ho1127 := hN1115.own; clear hN1115
  refine oS rfl (Yk.appendRB _ _ w.heap.size (.int .u8 0) wr6_ty26 wr6_inf5 rfl wr6_ty26 ((((((([(x.1.kind : UInt8)] : List UInt8) ++ Lib.uvarint x.1.session.toNat : List UInt8) ++ Lib.uvarint x.1.size.toNat : List UInt8) ++ x.1.id.1 : List UInt8) ++ textB x.1.name : List UInt8) ++ x.1.old.1 : List UInt8) ++ x.1.new.1) ([(0 : UInt8)]) (own_of ho1070 (vr v1049 rfl)) (RB.of (RB.ofOwn ho1127) (vr v1113 rfl)) (by simp only [List.length_append, List.length_cons, List.length_nil]; omega) hE.size fun v1128 w1129 ho1130 hg1131 => ?_)
  have hg1131 : Grew w1114 w1129 v1049 v1128 := hg1131
  have hap1132 : OB v1128 n2 := apart_grew hg1131 hap1060 (bl hb8)
  have hap1133 : OB v1128 n904 := apart_grew hg1131 hap1061 (bl hb920)
  have hap1134 : OB v1128 n955 := apart_grew hg1131 hap1062 (bl hb956)
  have hap1135 : OB v1128 n883 := apart_grew hg1131 hap1063 (bl hb896)
  have hap1136 : ApartV v1128 v1113 := apartv_grew hg1131 hap1125 ho1127
  have hap1137 : ApartV v1113 v1128 := fun k h1 h2 => hap1136 k h2 h1
  have hE := ext_grew hE hg1131 ho1070 (Nat.le_refl _)
  have hb8 := blk_grew hb8 hg1131 hap1060
  clear hA889
  have hb920 := blk_grew hb920 hg1131 hap1061
  have hb956 := blk_grew hb956 hg1131 hap1062
  clear ho1070
  have hb896 := blk_grew hb896 hg1131 hap1063
  clear hA1116
  have ho1127 := own_grew ho1127 hg1131 hap1125
  refine oS rfl (Yk.storeC (i := 0) (v := v1128) T4 (vr v1128 rfl) hb896 (Nat.le_of_ble_eq_true rfl) wr6_isz26 (own_one ho1130).1 (own_one ho1130).2 fun w1138 hb1139 hg1140 hs1141 => ?_)
  have hE := row_fresh hE hg1140 (Nat.le_trans hz892 (by omega))
  have hb8 := kb hg1140 hb8 (by omega)
  have hb920 := kb hg1140 hb920 (by omega)
  have hb956 := kb hg1140 hb956 (by omega)
  clear hb896
  have ho1127 := own_kept ho1127 hg1140 hap1124
  have ho1130 := own_kept ho1130 hg1140 hap1135
  have hb896 := hb1139; clear hb1139
  have hl1142 := bl hb896
  refine oL_ [(0, .agg (msgC x).toArray), (1, PQ n2 0), (2, (Value.slice none 0 0)), (3, NI 0), (4, PQ n883 0), (5, PQ n904 0), (6, .func (.func 49) #[] #[PQ n904 0, PQ n883 0]), (7, PQ n955 0), (10, B8 (0)), (28, .bool (false)), (54, .bool (false)), (64, .bool (true)), (70, .bool (false)), (76, .bool (true)), (82, .bool (false)), (89, .bool (true))] ⟨T0, T1, T2, T3, T4, T5, T6, T7, rfl, rfl, rfl, rfl, rfl, rfl, rfl, rfl, trivial⟩ fun ρ1143 ⟨T0, T1, T2, T3, T4, T5, T6, T7, T10, T28, T54, T64, T70, T76, T82, T89, _⟩ => ?_
  clear ho1127
  refine tN (hK1008 _ _ (sk fun K1144 hK1144 => (sk fun K1145 hK1145 => (wt (oS rfl (Yk.fieldAt wr6_fo92_7 T7 (oS rfl (Yk.cell1 wr6_ty4 rfl (vr (PQ n955 7) rfl) (cellAt hb956 (show (partsC (⟨false, false, true, false, true, false, true, false⟩ : Parts))[7]? = some (.bool (false) : Value) from parts_g7 (⟨false, false, true, false, true, false, true, false⟩ : Parts))) (oZ (tN (hK1145 _ _ (wpF_false (vr (.bool (false)) rfl) (wpF_skip (tN (hK1144 _ _ (sk fun K1146 hK1146 => (wt (oS rfl (Yk.cell1 wr6_ty26 rfl T4 (cellAt hb896 (show _ = some (v1128 : Value) from rfl)) (oA rfl (oA rfl ?_)))))))))))))))))))))
  refine oZ (tN (hK1146 _ _ (wpF_ret (postF_ret (fn := Tryd.f16) _ rfl [v1128, NI 0] (.tuple #[v1128, NI 0]) rfl ⟨rfl, rfl, trivial⟩ ?_))))
  have hen : (((((([(x.1.kind : UInt8)] : List UInt8) ++ Lib.uvarint x.1.session.toNat : List UInt8) ++ Lib.uvarint x.1.size.toNat : List UInt8) ++ x.1.id.1 : List UInt8) ++ textB x.1.name : List UInt8) ++ x.1.old.1 : List UInt8) ++ x.1.new.1 ++ [(0 : UInt8)] = encB x.1 := by unfold encB tailM; rw [hk]; simp [List.append_assoc, forceB, hfc]
  exact ⟨v1128, by rw [hR]; rfl, by rw [hR, if_pos rfl, ← hen]; exact RB.ofOwn ho1130, hE⟩
 refine wpF_skip (tN (hK10 _ _ (sk fun K1147 hK1147 => (wt (oS rfl (Yk.fieldAt wr6_fo29_0 (vr (PQ n2 0) rfl) (oS rfl (Yk.cell1 wr6_ty5 rfl (vr (PQ n2 0) rfl) (cellAt hb8 (show (msgC x)[0]? = some (B8 (x.1.kind) : Value) from msg_g0 x)) (oS rfl (Yk.lit1 (b := x.1.kind) wr6_l1_26 (vr (B8 (x.1.kind)) rfl) fun v1148 w1149 hN1150 => ?_))))))))))
 have hA1151 := Ext.refl w13
 have hea1152 := hE
 have hz1153 := hE.size
 have hap1154 : OB v1148 n2 := own_older hN1150.own (bl hb8)
 have hE := hE.trans hN1150.ext
 have hb8 := eb hN1150.ext hb8
 have hA1151 := hA1151.trans hN1150.ext
 have ho1155 := hN1150.own; clear hN1150
 refine oS rfl (Yk.alloc (cs := ([(Value.slice none 0 0)]).toArray) wr6_al26 fun n1156 w1157 hn1158 hb1159 hx1160 hs1161 => ?_)
 have hA1162 := Ext.refl w1149
 have hea1163 := hE
 have hea1164 := hA1151
 have hz1165 := hE.size
 have hz1166 := hA1151.size
 have hlt1167 := lte (bl hb8) hn1158
 have hap1168 : OB v1148 n1156 := own_newer ho1155 (by omega)
 have hE := hE.trans hx1160
 have hb8 := eb hx1160 hb8
 have hA1151 := hA1151.trans hx1160
 have ho1155 := Stab.own _ _ _ _ _ _ _ _ ho1155 hx1160
 have hA1162 := hA1162.trans hx1160
 have hb1169 := hb1159; clear hb1159
 have hl1170 : n1156 < w1157.heap.size := by omega
 refine oS rfl (Yk.storeC (i := 0) (v := v1148) (vr (PQ n1156 0) rfl) (vr v1148 rfl) hb1169 (Nat.le_of_ble_eq_true rfl) wr6_isz26 (own_one ho1155).1 (own_one ho1155).2 fun w1171 hb1172 hg1173 hs1174 => ?_)
 have hE := row_fresh hE hg1173 (Nat.le_trans hz1165 (by omega))
 have hb8 := kb hg1173 hb8 (by omega)
 have hA1151 := row_fresh hA1151 hg1173 (Nat.le_trans hz1166 (by omega))
 have ho1155 := own_kept ho1155 hg1173 hap1168
 have hA1162 := row_fresh hA1162 hg1173 (Nat.le_trans (Nat.le_refl _) (by omega))
 clear hb1169
 have hb1169 := hb1172; clear hb1172
 have hl1175 := bl hb1169
 refine oZ (tN (hK1147 _ _ (sk fun K1176 hK1176 => (wt (oS rfl (Yk.mkFunc (vs := #[PQ n1156 0]) (by simp only [List.map_toArray, List.map_cons, List.map_nil]; exact congrArg List.toArray (list1 (vr (PQ n1156 0) rfl))) (oS rfl (Yk.alloc (cs := ([Value.nilFunc]).toArray) wr6_al89 fun n1177 w1178 hn1179 hb1180 hx1181 hs1182 => ?_))))))))
 have hA1183 := Ext.refl w1171
 have hea1184 := hE
 have hea1185 := hA1151
 have hea1186 := hA1162
 have hz1187 := hE.size
 have hz1188 := hA1151.size
 have hz1189 := hA1162.size
 have hlt1190 := lte (bl hb8) hn1179
 have hlt1191 := lte (bl hb1169) hn1179
 have hap1192 : OB v1148 n1177 := own_newer ho1155 (by omega)
 have hE := hE.trans hx1181
 have hb8 := eb hx1181 hb8
 have hA1151 := hA1151.trans hx1181
 have ho1155 := Stab.own _ _ _ _ _ _ _ _ ho1155 hx1181
 have hA1162 := hA1162.trans hx1181
 have hb1169 := eb hx1181 hb1169
 have hA1183 := hA1183.trans hx1181
 have hb1193 := hb1180; clear hb1180
 have hl1194 : n1177 < w1178.heap.size := by omega
 refine oS rfl (Yk.storeC (i := 0) (v := .func (.func 47) #[] #[PQ n1156 0]) (vr (PQ n1177 0) rfl) (vr (.func (.func 47) #[] #[PQ n1156 0]) rfl) hb1193 (Nat.le_of_ble_eq_true rfl) wr6_isz89 rfl rfl fun w1195 hb1196 hg1197 hs1198 => ?_)
 have hE := row_fresh hE hg1197 (Nat.le_trans hz1187 (by omega))
 have hb8 := kb hg1197 hb8 (by omega)
 have hA1151 := row_fresh hA1151 hg1197 (Nat.le_trans hz1188 (by omega))
 have ho1155 := own_kept ho1155 hg1197 hap1192
 have hA1162 := row_fresh hA1162 hg1197 (Nat.le_trans hz1189 (by omega))
 have hb1169 := kb hg1197 hb1169 (by omega)
 have hA1183 := row_fresh hA1183 hg1197 (Nat.le_trans (Nat.le_refl _) (by omega))
 clear hb1193
 have hb1193 := hb1196; clear hb1196
 have hl1199 := bl hb1193
 refine oZ (tN (hK1176 _ _ (sk fun K1200 hK1200 => (wt (oS rfl (Yk.mkFunc (vs := #[PQ n1177 0, PQ n1156 0]) (by simp only [List.map_toArray, List.map_cons, List.map_nil]; exact congrArg List.toArray (list2 (vr (PQ n1177 0) rfl) (vr (PQ n1156 0) rfl))) (oA rfl (oZ (tN (hK1200 _ _ (sk fun K1201 hK1201 => (wt (oS rfl (Yk.cell1 wr6_ty89 rfl (vr (PQ n1177 0) rfl) (cellAt hb1193 (show _ = some (.func (.func 47) #[] #[PQ n1156 0] : Value) from rfl)) (oS rfl (Yk.fieldAt wr6_fo29_1 (vr (PQ n2 0) rfl) (oS rfl (Yk.cell1 wr6_ty3 rfl (vr (PQ n2 1) rfl) (cellAt hb8 (show (msgC x)[1]? = some (.int .i64 (x.1.session : Int) : Value) from msg_g1 x)) (oS rfl (Yk.clo wr6_pl47 (caps := #[PQ n1156 0]) (vr (.func (.func 47) #[] #[PQ n1156 0]) rfl) #[.int .i64 (x.1.session : Int), PQ n1156 0] (by simp only [List.map_toArray, List.map_cons, List.map_nil, List.append_toArray, List.cons_append, List.nil_append]; exact congrArg List.toArray (list2 (vr (.int .i64 (x.1.session : Int)) rfl) rfl)) ((enc1_any w _ hE n1156 (by omega) v1148 ([(x.1.kind : UInt8)]) hb1169 (RB.ofOwn ho1155) (by simp only [List.length_append, List.length_cons, List.length_nil]; omega) x.1.session (by omega) (by omega)).mono ?_)))))))))))))))))))))
 rintro e w1206 ⟨v1202, rfl, hb1203, ho1204, hg1205⟩
 refine ⟨_, rfl, ?_⟩
 have hap1207 : OB v1202 n2 := own_older ho1204 (bl hb8)
 have hap1208 : OB v1202 n1156 := own_older ho1204 (bl hb1169)
 have hap1209 : OB v1202 n1177 := own_older ho1204 (bl hb1193)
 have ho1204 := ownsRow_base ho1204 hE.size
 have hE := row_fresh hE hg1205 (Nat.le_trans hz1165 (by omega))
 have hb8 := kb hg1205 hb8 (by omega)
 have hA1151 := row_fresh hA1151 hg1205 (Nat.le_trans hz1166 (by omega))
 clear ho1155
 have hA1162 := row_fresh hA1162 hg1205 (Nat.le_trans (Nat.le_refl _) (by omega))
 clear hb1169
 clear hA1183
 have hb1193 := kb hg1205 hb1193 (by omega)
 have hb1169 := hb1203; clear hb1203
 have hl1210 := bl hb1169
 refine oZ (tN (hK1201 _ _ (sk fun K1211 hK1211 => ?_)))
 have hA1212 := Ext.refl w1206
 have hea1213 := hE
 have hea1214 := hA1151
 have hea1215 := hA1162
 have hz1216 := hE.size
 have hz1217 := hA1151.size
 have hz1218 := hA1162.size
 have hlt1219 : n2 < w1206.heap.size := (bl hb8)
 have hlt1220 : n1177 < w1206.heap.size := (bl hb1193)
 have hlt1221 : n1156 < w1206.heap.size := (bl hb1169)
 have hnw1222 : ∀ g, w1206.heap.size ≤ g → OB v1202 g := fun g hg => own_newer ho1204 hg
 refine wpF_draw_end 5 _ [fun x w' => ∃ b, x = .map (some b) ∧ MapF B8 partsV (fun _ : UInt8 => True) w' b kindsG, Is (PQ n2 0), Is (B8 (x.1.kind)), Is (.agg (partsC (⟨false, false, false, false, false, false, false, true⟩ : Parts)).toArray), fun x w' => ∃ g, x = PQ g 0 ∧ w'.heap[g]? = some (.cells (partsC (⟨false, false, false, false, false, false, false, false⟩ : Parts)).toArray 92 (0, 0)) ∧ w1206.heap.size ≤ g] (by kernel_rfl) [23, 24, 25, 26, 7] (by kernel_rfl) (by kernel_rfl) (by kernel_rfl) rfl rfl rfl ⟨(fun _ _ _ ⟨b, h1, h2⟩ k => ⟨b, h1, MapF.keep h2 k⟩), Stab.is _, Stab.is _, Stab.is _, (fun _ _ _ ⟨g, h1, h2, h3⟩ k => ⟨g, h1, eb k h2, h3⟩), trivial⟩ ?hs10007 ?hQ10007
 case hs10007 =>
  refine ⟨?_, ?_, ?_, ?_, ?_, ?_, trivial⟩
  ·refine stepFL (stepN rfl fun σ w1 hC h => (Yk.callA0 wr6_pl50  ((kinds_any _).mono ?_)))
   rintro e w2 ⟨b, rfl, hmk, hx, hom⟩
   exact ⟨_, rfl, hx, ⟨b, rfl, hmk⟩⟩
  ·refine stepFL (stepN rfl fun σ w1 hC h => ?_)
   have e1 : σ 1 = PQ n2 0 := (eqo (h 1 (by decide))).trans rfl
   exact Yk.fieldAt wr6_fo29_0 e1 ⟨Ext.refl _, rfl⟩
  ·refine stepFL (stepN rfl fun σ w1 hC h => ?_)
   have e24 := eqo (h 24 (by decide))
   exact Yk.cell1 wr6_ty5 rfl e24 (cellAt (eb hC hb8) (show (msgC x)[0]? = some (B8 (x.1.kind) : Value) from msg_g0 x)) ⟨Ext.refl _, rfl⟩
  ·refine stepFL (stepN rfl fun σ w1 hC h => ?_)
   have e23 : (fun x w' => ∃ b, x = .map (some b) ∧ MapF B8 partsV (fun _ : UInt8 => True) w' b kindsG) (σ 23) w1 := h 23 (by decide)
   have e25 := eqo (h 25 (by decide))
   obtain ⟨b6, k6, m6⟩ := (show ∃ b, σ 23 = .map (some b) ∧ MapF B8 partsV (fun _ : UInt8 => True) w1 b kindsG from e23)
   exact Yk.lookMS (ek := B8) (ev := partsV) (D := fun _ : UInt8 => True) u8Law u8_ok (fun _ _ => b8_inj) wr6_ty93 (z := partsV dParts) zeroParts k6 e25 m6 trivial hK ⟨Ext.refl _, rfl⟩
  ·refine stepFL (stepN rfl fun σ w1 hC h => ?_)
   exact Yk.alloc (cs := (partsC (⟨false, false, false, false, false, false, false, false⟩ : Parts)).toArray) wr6_al92 fun g w2 hn hb hx hs => ⟨hx, g, rfl, hb, Nat.le_trans (show Ext w1206 w1 from hC).size (Nat.le_of_eq hn)⟩
  ·exact trivial
 intro ρ1223 w1224 hx1225 he hf
 obtain ⟨-, -, -, k26, k7, -⟩ := hf
 obtain ⟨T0, T1, T2, T3, T4, T5, T6, -⟩ := he.hold [(0, _), (1, PQ n2 0), (2, (Value.slice none 0 0)), (3, NI 0), (4, PQ n1156 0), (5, PQ n1177 0), (6, .func (.func 49) #[] #[PQ n1177 0, PQ n1156 0])] ⟨T0, rfl, rfl, rfl, rfl, rfl, rfl, trivial⟩ rfl
 clear he
 have hE := hE.trans hx1225
 have hb8 := eb hx1225 hb8
 have hA1162 := hA1162.trans hx1225
 have hb1193 := eb hx1225 hb1193
 have hb1169 := eb hx1225 hb1169
 have ho1204 := Stab.own _ _ _ _ _ _ _ _ ho1204 hx1225
 have hA1212 := hA1212.trans hx1225
 have T26 : ρ1223 26 = .agg (partsC (⟨false, false, false, false, false, false, false, true⟩ : Parts)).toArray := k26
 have k7 : (fun x w' => ∃ g, x = PQ g 0 ∧ w'.heap[g]? = some (.cells (partsC (⟨false, false, false, false, false, false, false, false⟩ : Parts)).toArray 92 (0, 0)) ∧ w1206.heap.size ≤ g) (ρ1223 7) w1224 := k7
 obtain ⟨v1226, T7⟩ : ∃ v, ρ1223 7 = v := ⟨_, rfl⟩
 rw [T7] at k7
 have hk1227 := k7; clear k7
 obtain ⟨n1228, rfl, hb1229, hn1230⟩ := hk1227
 have hl1231 := bl hb1229
 have hap1232 : OB v1202 n1228 := hnw1222 _ hn1230
 clear k26
 refine (Yk.storeAll T7 T26 hb1229 (by simp only [List.size_toArray, parts_len]) (st_isz (parts_len _) wr6_isz92) (parts_one (x := (⟨false, false, false, false, false, false, false, true⟩ : Parts))) fun w1233 hb1234 hg1235 hs1236 => ?_)
 have hE := row_fresh hE hg1235 (Nat.le_trans hz1216 (by omega))
 have hb8 := kb hg1235 hb8 (by omega)
 have hA1162 := row_fresh hA1162 hg1235 (Nat.le_trans hz1218 (by omega))
 have hb1193 := kb hg1235 hb1193 (by omega)
 have hb1169 := kb hg1235 hb1169 (by omega)
 have ho1204 := own_kept ho1204 hg1235 hap1232
 have hA1212 := row_fresh hA1212 hg1235 (Nat.le_trans (Nat.le_refl _) (by omega))
 clear hb1229
 have hb1229 : w1233.heap[n1228]? = some (.cells (partsC (⟨false, false, false, false, false, false, false, true⟩ : Parts)).toArray 92 (0, 0)) := hb1234; clear hb1234
 have hl1237 := bl hb1229
 refine tN (hK1211 _ _ (sk fun K1238 hK1238 => (sk fun K1239 hK1239 => (wt (oS rfl (Yk.fieldAt wr6_fo92_0 T7 (oS rfl (Yk.cell1 wr6_ty4 rfl (vr (PQ n1228 0) rfl) (cellAt hb1229 (show (partsC (⟨false, false, false, false, false, false, false, true⟩ : Parts))[0]? = some (.bool (false) : Value) from parts_g0 (⟨false, false, false, false, false, false, false, true⟩ : Parts))) (oZ (tN (hK1239 _ _ (wpF_false (vr (.bool (false)) rfl) (wpF_skip (tN (hK1238 _ _ (sk fun K1240 hK1240 => (sk fun K1241 hK1241 => (wt (oS rfl (Yk.fieldAt wr6_fo92_1 T7 (oS rfl (Yk.cell1 wr6_ty4 rfl (vr (PQ n1228 1) rfl) (cellAt hb1229 (show (partsC (⟨false, false, false, false, false, false, false, true⟩ : Parts))[1]? = some (.bool (false) : Value) from parts_g1 (⟨false, false, false, false, false, false, false, true⟩ : Parts))) ?_))))))))))))))))))))))
 refine oZ (tN (hK1241 _ _ (wpF_false (vr (.bool (false)) rfl) (wpF_skip (tN (hK1240 _ _ (sk fun K1242 hK1242 => (sk fun K1243 hK1243 => (wt (oS rfl (Yk.fieldAt wr6_fo92_2 T7 (oS rfl (Yk.cell1 wr6_ty4 rfl (vr (PQ n1228 2) rfl) (cellAt hb1229 (show (partsC (⟨false, false, false, false, false, false, false, true⟩ : Parts))[2]? = some (.bool (false) : Value) from parts_g2 (⟨false, false, false, false, false, false, false, true⟩ : Parts))) (oZ (tN (hK1243 _ _ (wpF_false (vr (.bool (false)) rfl) (wpF_skip (tN (hK1242 _ _ (sk fun K1244 hK1244 => ?_)))))))))))))))))))))
 refine sk fun K1245 hK1245 => (wt (oS rfl (Yk.fieldAt wr6_fo92_3 T7 (oS rfl (Yk.cell1 wr6_ty4 rfl (vr (PQ n1228 3) rfl) (cellAt hb1229 (show (partsC (⟨false, false, false, false, false, false, false, true⟩ : Parts))[3]? = some (.bool (false) : Value) from parts_g3 (⟨false, false, false, false, false, false, false, true⟩ : Parts))) (oZ (tN (hK1245 _ _ (wpF_false (vr (.bool (false)) rfl) (wpF_skip (tN (hK1244 _ _ (sk fun K1246 hK1246 => (sk fun K1247 hK1247 => (wt (oS rfl (Yk.fieldAt wr6_fo92_4 T7 (oS rfl (Yk.cell1 wr6_ty4 rfl (vr (PQ n1228 4) rfl) (cellAt hb1229 (show (partsC (⟨false, false, false, false, false, false, false, true⟩ : Parts))[4]? = some (.bool (false) : Value) from parts_g4 (⟨false, false, false, false, false, false, false, true⟩ : Parts))) (oZ (tN (hK1247 _ _ ?_))))))))))))))))))))))
 refine wpF_false (vr (.bool (false)) rfl) (wpF_skip (tN (hK1246 _ _ (sk fun K1248 hK1248 => (sk fun K1249 hK1249 => (wt (oS rfl (Yk.fieldAt wr6_fo92_5 T7 (oS rfl (Yk.cell1 wr6_ty4 rfl (vr (PQ n1228 5) rfl) (cellAt hb1229 (show (partsC (⟨false, false, false, false, false, false, false, true⟩ : Parts))[5]? = some (.bool (false) : Value) from parts_g5 (⟨false, false, false, false, false, false, false, true⟩ : Parts))) (oZ (tN (hK1249 _ _ (wpF_false (vr (.bool (false)) rfl) (wpF_skip (tN (hK1248 _ _ (sk fun K1250 hK1250 => (sk fun K1251 hK1251 => (wt ?_))))))))))))))))))))
 refine oS rfl (Yk.fieldAt wr6_fo92_6 T7 (oS rfl (Yk.cell1 wr6_ty4 rfl (vr (PQ n1228 6) rfl) (cellAt hb1229 (show (partsC (⟨false, false, false, false, false, false, false, true⟩ : Parts))[6]? = some (.bool (false) : Value) from parts_g6 (⟨false, false, false, false, false, false, false, true⟩ : Parts))) (oZ (tN (hK1251 _ _ (wpF_false (vr (.bool (false)) rfl) (wpF_skip (tN (hK1250 _ _ (sk fun K1252 hK1252 => (sk fun K1253 hK1253 => (wt (oS rfl (Yk.fieldAt wr6_fo92_7 T7 (oS rfl (Yk.cell1 wr6_ty4 rfl (vr (PQ n1228 7) rfl) (cellAt hb1229 (show (partsC (⟨false, false, false, false, false, false, false, true⟩ : Parts))[7]? = some (.bool (true) : Value) from parts_g7 (⟨false, false, false, false, false, false, false, true⟩ : Parts))) (oZ (tN (hK1253 _ _ (wpF_true (vr (.bool (true)) rfl) (wt ?_))))))))))))))))))))))
 refine oS rfl (Yk.cell1 wr6_ty89 rfl T5 (cellAt hb1193 (show _ = some (.func (.func 47) #[] #[PQ n1156 0] : Value) from rfl)) (oS rfl (Yk.fieldAt wr6_fo29_13 T1 (oS rfl (Yk.cell1 wr6_ty27 rfl (vr (PQ n2 106) rfl) (cellAt hb8 (show (msgC x)[106]? = some (.int .i64 (x.1.code : Int) : Value) from msg_g13 x)) (oS rfl (Yk.clo wr6_pl47 (caps := #[PQ n1156 0]) (vr (.func (.func 47) #[] #[PQ n1156 0]) rfl) #[.int .i64 (x.1.code : Int), PQ n1156 0] (by simp only [List.map_toArray, List.map_cons, List.map_nil, List.append_toArray, List.cons_append, List.nil_append]; exact congrArg List.toArray (list2 (vr (.int .i64 (x.1.code : Int)) rfl) rfl)) ((enc1_any w _ hE n1156 (by omega) v1202 (([(x.1.kind : UInt8)] : List UInt8) ++ Lib.uvarint x.1.session.toNat) hb1169 (RB.ofOwn ho1204) (by simp only [List.length_append, List.length_cons, List.length_nil]; omega) x.1.code (by omega) (by omega)).mono ?_))))))))
 rintro e w1258 ⟨v1254, rfl, hb1255, ho1256, hg1257⟩
 refine ⟨_, rfl, ?_⟩
 have hap1259 : OB v1254 n2 := own_older ho1256 (bl hb8)
 have hap1260 : OB v1254 n1177 := own_older ho1256 (bl hb1193)
 have hap1261 : OB v1254 n1156 := own_older ho1256 (bl hb1169)
 have hap1262 : OB v1254 n1228 := own_older ho1256 (bl hb1229)
 have ho1256 := ownsRow_base ho1256 hE.size
 have hE := row_fresh hE hg1257 (Nat.le_trans hz1165 (by omega))
 have hb8 := kb hg1257 hb8 (by omega)
 have hA1162 := row_fresh hA1162 hg1257 (Nat.le_trans (Nat.le_refl _) (by omega))
 have hb1193 := kb hg1257 hb1193 (by omega)
 clear hb1169
 clear ho1204
 clear hA1212
 have hb1229 := kb hg1257 hb1229 (by omega)
 have hb1169 := hb1255; clear hb1255
 have hl1263 := bl hb1169
 refine oZ (tN (hK1252 _ _ (sk fun K1264 hK1264 => (wt (oS rfl (Yk.cell1 wr6_ty26 rfl T4 (cellAt hb1169 (show _ = some (v1254 : Value) from rfl)) (oA rfl (oA rfl (oZ (tN (hK1264 _ _ (wpF_ret (postF_ret (fn := Tryd.f16) _ rfl [v1254, NI 0] (.tuple #[v1254, NI 0]) rfl ⟨rfl, rfl, trivial⟩ ?_)))))))))))))
 have hen : (([(x.1.kind : UInt8)] : List UInt8) ++ Lib.uvarint x.1.session.toNat : List UInt8) ++ Lib.uvarint x.1.code.toNat = encB x.1 := by unfold encB tailM; rw [hk]; simp [List.append_assoc]
 exact ⟨v1254, by rw [hR]; rfl, by rw [hR, if_pos rfl, ← hen]; exact RB.ofOwn ho1256, hE⟩
open Go.RowKit
abbrev rdX (v : Value) (b : Bs) (i : Nat) : RdV := (⟨b, ((i : Nat) : Int)⟩, ⟨v⟩)
def byteP (b : Bs) (i : Nat) : Option (UInt8 × Nat) := if i < b.length then some (b.getD i 0, i + 1) else none
def numP (b : Bs) (i : Nat) : Option (Nat × Nat) := (lebDec 0 (b.drop i)).map fun x => (x.1, i + x.2)
def txtP (b : Bs) (i most : Nat) : Option (Bs × Nat) := match lebDec 0 (b.drop i) with
  | none => none
  | some x => if most < x.1 then none else if b.length < i + x.2 + x.1 then none else some ((b.drop (i + x.2)).take x.1, i + x.2 + x.1)
def idP (b : Bs) (i : Nat) : Option (Id32 × Nat) := if h : i + 32 ≤ b.length then some (⟨(b.drop i).take 32, by rw [List.length_take, List.length_drop]; omega⟩, i + 32) else none
theorem byteP_le {b : Bs} {i n : Nat} {c : UInt8} (h : byteP b i = some (c, n)) : n ≤ b.length := by
  unfold byteP at h
  split at h
  · cases h; omega
  · cases h
theorem numP_le {b : Bs} {i n k : Nat} (hi : i ≤ b.length) (h : numP b i = some (k, n)) : n ≤ b.length := by
  unfold numP at h
  cases hd : lebDec 0 (b.drop i) with
  | none => rw [hd] at h; cases h
  | some x =>
    rw [hd] at h
    cases h
    have := (lebDec_pos _ _ _ hd).2.1
    rw [List.length_drop] at this
    omega
theorem txtP_le {b : Bs} {i most n : Nat} {s : Bs} (h : txtP b i most = some (s, n)) : n ≤ b.length ∧ s.length ≤ most := by
  unfold txtP at h
  split at h
  · cases h
  · split at h
    · cases h
    · split at h
      · cases h
      · cases h
        rw [List.length_take, List.length_drop]
        omega
theorem idP_le {b : Bs} {i n : Nat} {x : Id32} (h : idP b i = some (x, n)) : n ≤ b.length := by
  unfold idP at h
  split at h
  · cases h; omega
  · cases h
theorem numP_lt {b : Bs} {i n k : Nat} (h : numP b i = some (k, n)) : k < 9223372036854775808 := by
  unfold numP at h
  cases hd : lebDec 0 (b.drop i) with
  | none => rw [hd] at h; cases h
  | some x =>
    rw [hd] at h
    cases h
    have h1 := lebDec_lt _ _ _ hd
    have h2 := (lebDec_pos _ _ _ hd).2.2
    have h3 : 128 ^ x.2 ≤ 128 ^ 9 := Nat.pow_le_pow_right (by decide) (by omega)
    have h4 : (128 : Nat) ^ 9 = 9223372036854775808 := by decide
    omega
theorem RB.keptE {w w' : World} {v : Value} {l : List UInt8} (h : RB w v l) {row : Option Nat} (hg : w.grownBy w' row) (hv : l = [] ∨ v.ownBlock ≠ row) : RB w' v l := by
  rcases hv with rfl | hv
  · obtain ⟨h1, ao, cap, rfl, h2, h3, h4, h5⟩ := h
    exact ⟨h1, ao, cap, rfl, h2, h3, h4, fun a ha j u hu => by simp [Lib.byteCells] at hu⟩
  · exact RB.kept h hg (.inr hv)
def updP (b : Bs) (i : Nat) : Option (Upd × Nat) := (byteP b i).bind fun x => (txtP b x.2 32).bind fun y => (idP b y.2).bind fun z => some (⟨x.1, y.1, zid, z.1⟩, z.2)
def itP {σ : Type} (f : σ → Option σ) : Nat → σ → Option σ
  | 0, s => some s
  | n + 1, s => (itP f n s).bind f
theorem itP_none {σ : Type} {f : σ → Option σ} {s : σ} {j : Nat} (h : itP f j s = none) : ∀ n, j ≤ n → itP f n s = none
  | 0, hn => by have : j = 0 := by omega
                rw [this] at h; exact h
  | n + 1, hn => by
    by_cases e : j = n + 1
    · rw [← e]; exact h
    · show (itP f n s).bind f = none
      rw [itP_none h n (by omega)]; rfl
theorem itP_step {σ : Type} {f : σ → Option σ} {s t : σ} {j : Nat} (h : itP f j s = some t) : itP f (j + 1) s = f t := by
  show (itP f j s).bind f = _
  rw [h]; rfl
def listP {σ : Type} (b : Bs) (i most : Nat) (st : σ × Nat → Option (σ × Nat)) (s : σ) : Option (σ × Nat) :=
  (numP b i).bind fun x => if x.1 ≤ most then itP st x.1 (s, x.2) else none
def addUpd (b : Bs) (s : List Upd × Nat) : Option (List Upd × Nat) := (updP b s.2).map fun x => (s.1 ++ [x.1], x.2)
def addId (b : Bs) (s : List Bs × Nat) : Option (List Bs × Nat) := (idP b s.2).map fun x => (s.1 ++ [x.1.1], x.2)
theorem listP_none {σ : Type} {b : Bs} {i most : Nat} {st : σ × Nat → Option (σ × Nat)} {s : σ} (h : numP b i = none ∨ ∃ n j, numP b i = some (n, j) ∧ ¬ n ≤ most) : listP b i most st s = none := by
  unfold listP
  rcases h with h | ⟨n, j, h, hn⟩
  · rw [h]; rfl
  · rw [h]; exact if_neg hn
theorem listP_some {σ : Type} {b : Bs} {i most n j : Nat} {st : σ × Nat → Option (σ × Nat)} {s : σ} (h : numP b i = some (n, j)) (hn : n ≤ most) : listP b i most st s = itP st n (s, j) := by
  unfold listP
  rw [h]; exact if_pos hn
theorem itP_succ {σ : Type} {f : σ → Option σ} {s t : σ} {n : Nat} (h : itP f (n + 1) s = some t) : ∃ u, itP f n s = some u ∧ f u = some t := by
  have h : (itP f n s).bind f = some t := h
  exact Option.bind_eq_some_iff.1 h
theorem addUpd_names {b : Bs} : ∀ (n : Nat) {s t : List Upd × Nat}, itP (addUpd b) n s = some t → (∀ u ∈ s.1, u.name.length ≤ 32) → ∀ u ∈ t.1, u.name.length ≤ 32
  | 0, s, t, h, hs => by cases h; exact hs
  | n + 1, s, t, h, hs => by
    obtain ⟨u, h1, h2⟩ := itP_succ h
    have hu := addUpd_names n h1 hs
    unfold addUpd at h2
    cases hd : updP b u.2 with
    | none => rw [hd] at h2; cases h2
    | some x =>
      rw [hd] at h2
      cases h2
      intro y hy
      rcases List.mem_append.1 hy with hy | hy
      · exact hu y hy
      · rw [List.mem_singleton.1 hy]
        unfold updP at hd
        simp only [Option.bind_eq_some_iff] at hd
        obtain ⟨c, h3, d, h4, e, h5, h6⟩ := hd
        cases h6
        exact (txtP_le h4).2
theorem add_len {σ : Type} {f : List σ × Nat → Option (List σ × Nat)} (hf : ∀ s t, f s = some t → t.1.length = s.1.length + 1) : ∀ (n : Nat) {s t : List σ × Nat}, itP f n s = some t → t.1.length = s.1.length + n
  | 0, s, t, h => by cases h; rfl
  | n + 1, s, t, h => by
    obtain ⟨u, h1, h2⟩ := itP_succ h
    rw [hf u t h2, add_len hf n h1]; omega
theorem listP_get {σ : Type} {b : Bs} {i most : Nat} {st : σ × Nat → Option (σ × Nat)} {s : σ} {t : σ × Nat} (h : listP b i most st s = some t) : ∃ n j, numP b i = some (n, j) ∧ n ≤ most ∧ itP st n (s, j) = some t := by
  unfold listP at h
  rw [Option.bind_eq_some_iff] at h
  obtain ⟨x, h1, h2⟩ := h
  split at h2
  · rename_i hn
    exact ⟨x.1, x.2, h1, hn, h2⟩
  · cases h2
theorem updsP_lt {b : Bs} {i : Nat} {t : List Upd × Nat} (h : listP b i 128 (addUpd b) [] = some t) : t.1.length ≤ 128 ∧ ∀ u ∈ t.1, u.name.length ≤ 32 := by
  obtain ⟨n, j, -, hn, hi⟩ := listP_get h
  refine ⟨?_, addUpd_names n hi (fun u hu => by cases hu)⟩
  have := add_len (fun s t h => by unfold addUpd at h; rw [Option.map_eq_some_iff] at h; obtain ⟨x, _, rfl⟩ := h; simp) n hi
  rw [this]; simpa using hn
theorem idsP_lt {b : Bs} {i : Nat} {t : List Bs × Nat} (h : listP b i 65536 (addId b) [] = some t) : t.1.length ≤ 65536 := by
  obtain ⟨n, j, -, hn, hi⟩ := listP_get h
  have := add_len (fun s t h => by unfold addId at h; rw [Option.map_eq_some_iff] at h; obtain ⟨x, _, rfl⟩ := h; simp) n hi
  rw [this]; simpa using hn
def restP (b : Bs) (m : Msg) (i : Nat) : Option (Msg × Nat) :=
  if m.kind = 1 then some (m, i)
  else if m.kind = 2 then (listP b i 128 (addUpd b) []).bind fun x => some ({ m with refs := x.1 }, x.2)
  else if m.kind = 3 then (listP b i 65536 (addId b) []).bind fun x => (listP b x.2 65536 (addId b) []).bind fun y => some ({ m with wants := x.1, haves := y.1 }, y.2)
  else if m.kind = 4 then (numP b i).bind fun x => (idP b x.2).bind fun y => some ({ m with size := ((x.1 : Nat) : Int), id := y.1 }, y.2)
  else if m.kind = 5 then (numP b i).bind fun x => some ({ m with at_ := ((x.1 : Nat) : Int) }, x.2)
  else if m.kind = 6 then (numP b i).bind fun x => (txtP b x.2 256).bind fun y => some ({ m with at_ := ((x.1 : Nat) : Int), bytes := y.1 }, y.2)
  else if m.kind = 7 then (numP b i).bind fun x => (idP b x.2).bind fun y => (txtP b y.2 32).bind fun z => (idP b z.2).bind fun o => (idP b o.2).bind fun n => (byteP b n.2).bind fun f => if f.1.toNat ≤ 1 then some ({ m with size := ((x.1 : Nat) : Int), id := y.1, name := z.1, old := o.1, new := n.1, force := decide (f.1.toNat = 1) }, f.2) else none
  else if m.kind = 8 then (numP b i).bind fun x => some ({ m with code := ((x.1 : Nat) : Int) }, x.2)
  else none
noncomputable def decP (b : Bs) : Option Msg := (byteP b 0).bind fun k => if (kindsG k.1).isSome = true then (numP b k.2).bind fun s => (restP b ⟨k.1, ((s.1 : Nat) : Int), [], [], [], 0, 0, zid, [], [], zid, zid, false, 0⟩ s.2).bind fun z => if z.2 = b.length ∧ rightB z.1 = true then some z.1 else none else none
theorem decP_eq {b : Bs} {n j1 j2 : Nat} {k : UInt8} {p : Parts} (h1 : byteP b 0 = some (k, j1)) (hK : kindsG k = some p) (h2 : numP b j1 = some (n, j2)) :
    decP b = (restP b ⟨k, ((n : Nat) : Int), [], [], [], 0, 0, zid, [], [], zid, zid, false, 0⟩ j2).bind fun z => if z.2 = b.length ∧ rightB z.1 = true then some z.1 else none := by
  unfold decP
  simp only [h1, Option.bind_some, hK, Option.isSome_some, ↓reduceIte, h2]
theorem restP1 {b : Bs} {m : Msg} {i : Nat} (h : m.kind = 1) : restP b m i = some (m, i) := by
  unfold restP
  rw [if_pos h]
theorem restP2 {b : Bs} {m : Msg} {i : Nat} (h : m.kind = 2) : restP b m i = (listP b i 128 (addUpd b) []).bind fun x => some ({ m with refs := x.1 }, x.2) := by
  unfold restP
  rw [if_neg (show ¬ m.kind = 1 by rw [h]; decide), if_pos h]
theorem restP3 {b : Bs} {m : Msg} {i : Nat} (h : m.kind = 3) : restP b m i = (listP b i 65536 (addId b) []).bind fun x => (listP b x.2 65536 (addId b) []).bind fun y => some ({ m with wants := x.1, haves := y.1 }, y.2) := by
  unfold restP
  rw [if_neg (show ¬ m.kind = 1 by rw [h]; decide), if_neg (show ¬ m.kind = 2 by rw [h]; decide), if_pos h]
theorem restP4 {b : Bs} {m : Msg} {i : Nat} (h : m.kind = 4) : restP b m i = (numP b i).bind fun x => (idP b x.2).bind fun y => some ({ m with size := ((x.1 : Nat) : Int), id := y.1 }, y.2) := by
  unfold restP
  rw [if_neg (show ¬ m.kind = 1 by rw [h]; decide), if_neg (show ¬ m.kind = 2 by rw [h]; decide), if_neg (show ¬ m.kind = 3 by rw [h]; decide), if_pos h]
theorem restP5 {b : Bs} {m : Msg} {i : Nat} (h : m.kind = 5) : restP b m i = (numP b i).bind fun x => some ({ m with at_ := ((x.1 : Nat) : Int) }, x.2) := by
  unfold restP
  rw [if_neg (show ¬ m.kind = 1 by rw [h]; decide), if_neg (show ¬ m.kind = 2 by rw [h]; decide), if_neg (show ¬ m.kind = 3 by rw [h]; decide), if_neg (show ¬ m.kind = 4 by rw [h]; decide), if_pos h]
theorem restP6 {b : Bs} {m : Msg} {i : Nat} (h : m.kind = 6) : restP b m i = (numP b i).bind fun x => (txtP b x.2 256).bind fun y => some ({ m with at_ := ((x.1 : Nat) : Int), bytes := y.1 }, y.2) := by
  unfold restP
  rw [if_neg (show ¬ m.kind = 1 by rw [h]; decide), if_neg (show ¬ m.kind = 2 by rw [h]; decide), if_neg (show ¬ m.kind = 3 by rw [h]; decide), if_neg (show ¬ m.kind = 4 by rw [h]; decide), if_neg (show ¬ m.kind = 5 by rw [h]; decide), if_pos h]
theorem restP7 {b : Bs} {m : Msg} {i : Nat} (h : m.kind = 7) : restP b m i = (numP b i).bind fun x => (idP b x.2).bind fun y => (txtP b y.2 32).bind fun z => (idP b z.2).bind fun o => (idP b o.2).bind fun n => (byteP b n.2).bind fun f => if f.1.toNat ≤ 1 then some ({ m with size := ((x.1 : Nat) : Int), id := y.1, name := z.1, old := o.1, new := n.1, force := decide (f.1.toNat = 1) }, f.2) else none := by
  unfold restP
  rw [if_neg (show ¬ m.kind = 1 by rw [h]; decide), if_neg (show ¬ m.kind = 2 by rw [h]; decide), if_neg (show ¬ m.kind = 3 by rw [h]; decide), if_neg (show ¬ m.kind = 4 by rw [h]; decide), if_neg (show ¬ m.kind = 5 by rw [h]; decide), if_neg (show ¬ m.kind = 6 by rw [h]; decide), if_pos h]
theorem restP8 {b : Bs} {m : Msg} {i : Nat} (h : m.kind = 8) : restP b m i = (numP b i).bind fun x => some ({ m with code := ((x.1 : Nat) : Int) }, x.2) := by
  unfold restP
  rw [if_neg (show ¬ m.kind = 1 by rw [h]; decide), if_neg (show ¬ m.kind = 2 by rw [h]; decide), if_neg (show ¬ m.kind = 3 by rw [h]; decide), if_neg (show ¬ m.kind = 4 by rw [h]; decide), if_neg (show ¬ m.kind = 5 by rw [h]; decide), if_neg (show ¬ m.kind = 6 by rw [h]; decide), if_neg (show ¬ m.kind = 7 by rw [h]; decide), if_pos h]
open Go.RowKit
set_option maxRecDepth 100000
def stopW : PanicEntry := { v := .iface 107 (.agg #[]), recovered := false }
theorem wr7_ty107 : ∃ fs, Tryd.prog.underlying 107 = some (.struct fs) := struct_of (by kernel_rfl)
theorem wr7_fo111_1 : FieldOff Tryd.prog 111 1 1 := fun b o w => by simp [go_sem]
theorem wr7_ty3 : Tryd.prog.underlying 3 = some (.int .i64) := by kernel_rfl
theorem wr7_fo111_0 : FieldOff Tryd.prog 111 0 0 := fun b o w => by simp [go_sem]
theorem wr7_ty26 : Tryd.prog.underlying 26 = some (.slice 5) := by kernel_rfl
theorem wr7_pl109 : Plain Tryd.prog 109 := fun _ _ => by kernel_rfl
theorem wr7_isz3 : (Tryd.prog.info? 3).map (·.size) = some 1 := by kernel_rfl
theorem wr7_sz5 : ∀ w' : World, (sizeOf 5).run Tryd.prog w' = .ok 1 w' := fun _ => by kernel_rfl
theorem wr7_ty5 : Tryd.prog.underlying 5 = some (.int .u8) := by kernel_rfl
theorem wr7_pl145 : Plain Tryd.prog 145 := fun _ _ => by kernel_rfl
theorem wr7_pl146 : Plain Tryd.prog 146 := fun _ _ => by kernel_rfl
theorem wr7_al25 {d : Option Tmp} {ty : TypeId} {pos : String} {af : Array Edge} {gd : Option (Nat × Bool)} (σ : Operand → Value) (w : World) : (execOp σ ⟨d, .alloc 25, ty, pos, af, gd⟩).run Tryd.prog w = .ok (.value (PQ w.heap.size 0)) (w.alloc (.cells (Lib.byteCells (List.replicate 32 0)).toArray 25)) := by kernel_rfl
theorem wr7_pl147 : Plain Tryd.prog 147 := fun _ _ => by kernel_rfl
theorem wr7_ty25 : Tryd.prog.underlying 25 = some (.array 32 5) := by kernel_rfl
set_option maxHeartbeats 1600000
theorem needW_any (w : World) (b : Bool) :
  Calls Tryd.prog 109 #[.bool b] w fun r w' => (∃ v, r = .returned v ∧ v = .tuple #[] ∧ b = true ∧ Ext w w') ∨ ∃ ch, r = .panicked ch ∧ ch = [stopW] ∧ b = false ∧ Ext w w' := by
 refine calls_of_wpP (args := [.bool (b)]) Tryd.func109 rfl 6 rfl (Nat.le_of_ble_eq_true rfl) ?_
 intro ρ0 hb
 have T0 : ρ0 0 = (.bool (b) : Value) := hb.get 0
 clear hb
 have hE := Ext.refl w
 refine sk fun K1 hK1 => (wt (oM rfl (oS rfl (Yk.notB T0 (oZ (tN (hK1 _ _ ?_)))))))
 refine wpF_condB (!(b)) (vr (.bool (!(b))) rfl) (fun hc0 => ?_) (fun hc0 => ?_)
 ·refine wt (oS rfl (Yk.run (v := .agg #[]) (by kernel_rfl) (oS rfl (Yk.mkIface (wr7_ty107).choose_spec (vr (.agg #[]) rfl) (oP rfl (Yp.panic (vr (.iface 107 (.agg #[])) rfl) (postP_panic ?_)))))))
  exact .inr ⟨_, rfl, rfl, by simpa using hc0, hE⟩
 refine wpF_skip (postP_end (fn := Tryd.f109) [] rfl [] (.tuple #[]) rfl trivial ?_)
 exact .inl ⟨_, rfl, rfl, by simpa using hc0, hE⟩

theorem byte_any (w : World) (r : Nat) (v : Value) (b : Bs) (i : Nat) (hb : w.heap[r]? = some (.cells (rdC (rdX v b (i))).toArray 111 (0, 0))) (hr : RB w v b) (hap : b = [] ∨ OB v r) (hi : i ≤ b.length) (hl : b.length ≤ 4611686018427387904) :
  Calls Tryd.prog 108 #[PQ r 0] w fun e w' => (∃ x, e = .returned x ∧ ∃ c n, byteP b i = some (c, n) ∧ x = B8 c ∧ w'.heap[r]? = some (.cells (rdC (rdX v b (n))).toArray 111 (0, 0)) ∧ w.grownBy w' (some r)) ∨ ∃ ch, e = .panicked ch ∧ byteP b i = none ∧ ch = [stopW] ∧ w.grownBy w' (some r) := by
 have hlr := (bl hb)
 have hgr := World.grownBy.refl w (some r)
 refine calls_of_wpP (args := [PQ r 0]) Tryd.func108 rfl 32 rfl (Nat.le_of_ble_eq_true rfl) ?_
 intro ρ0 hb
 have T0 : ρ0 0 = (PQ r 0 : Value) := hb.get 0
 clear hb
 have hE := Ext.refl w
 refine sk fun K1 hK1 => (wt (oA rfl (oZ ?_)))
 by_cases hlt : i < b.length
 ·have hP : byteP b i = some (b.getD i 0, i + 1) := if_pos hlt
  refine tN (hK1 _ _ (sk fun K2 hK2 => ?_))
  refine wpF_draw_endE 10 _ [Is (PQ r 0), Is (PQ r 0), Is (PQ r 1), Is (NI i), Is (PQ r 0), Is (PQ r 0), Is (PQ r 0), Is (v), Is (NI b.length), Is (.bool (true))] (by kernel_rfl) [3, 4, 5, 6, 7, 8, 9, 10, 11, 12, 13] (by kernel_rfl) (by kernel_rfl) (by kernel_rfl) rfl rfl rfl (fun _ _ => trivial) (si10 trivial) ?hs1001 ?hQ1001
  case hs1001 =>
   refine ⟨?_, ?_, ?_, ?_, ?_, ?_, ?_, ?_, ?_, ?_, ?_, trivial⟩
   ·refine stepFL (stepN rfl fun σ w1 hC h => ?_)
    have e0 := (eqo (h 0 (by decide))).trans T0
    exact Yk.move e0 ⟨Ext.refl _, rfl⟩
   ·refine stepFL (stepN rfl fun σ w1 hC h => ?_)
    have e3 := eqo (h 3 (by decide))
    exact Yk.nilCheck e3 ⟨Ext.refl _, rfl⟩
   ·refine stepFL (stepN rfl fun σ w1 hC h => ?_)
    have e4 := eqo (h 4 (by decide))
    exact Yk.fieldAt wr7_fo111_1 e4 ⟨Ext.refl _, rfl⟩
   ·refine stepFL (stepN rfl fun σ w1 hC h => ?_)
    have e5 := eqo (h 5 (by decide))
    exact Yk.cell1 wr7_ty3 rfl e5 (cellAt (eb hC hb) (show (rdC (rdX v b (i)))[1]? = some (NI i : Value) from rd_g1 (rdX v b (i)))) ⟨Ext.refl _, rfl⟩
   ·refine stepFL (stepN rfl fun σ w1 hC h => ?_)
    have e0 := (eqo (h 0 (by decide))).trans T0
    exact Yk.move e0 ⟨Ext.refl _, rfl⟩
   ·refine stepFL (stepN rfl fun σ w1 hC h => ?_)
    have e7 := eqo (h 7 (by decide))
    exact Yk.nilCheck e7 ⟨Ext.refl _, rfl⟩
   ·refine stepFL (stepN rfl fun σ w1 hC h => ?_)
    have e8 := eqo (h 8 (by decide))
    exact Yk.fieldAt wr7_fo111_0 e8 ⟨Ext.refl _, rfl⟩
   ·refine stepFL (stepN rfl fun σ w1 hC h => ?_)
    have e9 := eqo (h 9 (by decide))
    exact Yk.cell1 wr7_ty26 rfl e9 (cellAt (eb hC hb) (show (rdC (rdX v b (i)))[0]? = some (v : Value) from rd_g0 (rdX v b (i)))) ⟨Ext.refl _, rfl⟩
   ·refine stepFL (stepN rfl fun σ w1 hC h => ?_)
    have e10 := eqo (h 10 (by decide))
    exact Yk.lenRB wr7_ty26 (RB.of (hr.keep (hE.trans hC)) e10) ⟨Ext.refl _, rfl⟩
   ·refine stepFL (stepN rfl fun σ w1 hC h => ?_)
    have e6 := eqo (h 6 (by decide))
    have e11 := eqo (h 11 (by decide))
    exact Yk.eqI (a := (i : Nat)) (b := (b.length : Nat)) e6 e11 (k_lss _ _ _ _) ⟨Ext.refl _, (congrArg Value.bool (decide_eq_true ((by omega))))⟩
   ·exact trivial
  intro ρ3 w4 hx5 he hf
  obtain ⟨-, -, -, -, -, -, -, -, -, k12, -⟩ := hf
  obtain ⟨T0, T2, -⟩ := he.hold [(0, _), (2, B8 (0))] ⟨T0, rfl, trivial⟩ rfl
  clear he
  have hb := eb hx5 hb
  have hgr : w.grownBy w4 (some r) := grownBy_trans hgr hx5.grown (fun _ e => by cases e)
  have hE := hE.trans hx5
  have T12 : ρ3 12 = .bool (true) := k12
  clear k12
  refine Yp.callA1 wr7_pl109 T12 ?_
  refine calls_either (needW_any _ (true)) ?_ ?_
  rotate_left
  ·
   rintro ch w8 ⟨rfl, hb, hx⟩
   refine thenF_panic (postP_panic ?_)
   cases hb
  rintro v_ w9 ⟨rfl, hb6, hx7⟩
  have hb := eb hx7 hb
  have hgr : w.grownBy w9 (some r) := grownBy_trans hgr hx7.grown (fun _ e => by cases e)
  have hE := hE.trans hx7
  intro ρ10 hu11
  have T0 : ρ10 0 = (PQ r 0 : Value) := (hu11 0 (by decide)).trans T0
  have T2 : ρ10 2 = (B8 (0) : Value) := (hu11 2 (by decide)).trans T2
  have hr := (hr.keep hE)
  refine tN (hK2 _ _ (sk fun K12 hK12 => (wt (oM rfl (oS rfl (Yk.nilCheck T0 (oS rfl (Yk.fieldAt wr7_fo111_1 (vr (PQ r 0) rfl) (oS rfl (Yk.cell1 wr7_ty3 rfl (vr (PQ r 1) rfl) (cellAt hb (show (rdC (rdX v b (i)))[1]? = some (NI i : Value) from rd_g1 (rdX v b (i)))) (oS rfl (Yk.bin (xv := NI i) (yv := NI 1) rfl rfl rfl (i64_add _ _ _ (by omega)) (oS rfl (Yk.nilCheck T0 (oS rfl (Yk.fieldAt wr7_fo111_1 (vr (PQ r 0) rfl) (oS rfl (Yk.storeC (i := 1) (v := NI ((i) + (1))) (vr (PQ r 1) rfl) (vr (NI ((i) + (1))) rfl) hb (by rw [rd_len]; decide) wr7_isz3 rfl rfl fun w13 hb14 hg15 hs16 => ?_))))))))))))))))))
  clear hb
  have hr := RB.keptE hr hg15 hap
  have hgr : w.grownBy w13 (some r) := grownBy_trans hgr hg15 (fun _ e => .inl e)
  clear hE
  have hb : w13.heap[r]? = some (.cells (rdC ((⟨b, (((i) + (1) : Nat) : Int)⟩, ⟨v⟩) : RdV)).toArray 111 (0, 0)) := blk_eq hb14 (rd_s1 (rdX v b (i)) (((i) + (1) : Nat) : Int)); clear hb14
  have hl17 := bl hb
  refine oZ (tN (hK12 _ _ (sk fun K18 hK18 => ?_)))
  refine wpF_draw [Is (PQ r 0), Is (PQ r 0), Is (PQ r 0), Is (v), Is (PQ r 0), Is (PQ r 0), Is (PQ r 1), Is (NI ((i) + (1))), Is (NI (((i) + (1)) - (1))), PCell (B8 (b.getD (((i) + (1)) - (1)) 0)), Is (B8 (b.getD (((i) + (1)) - (1)) 0)), Is (B8 (b.getD (((i) + (1)) - (1)) 0))] (by kernel_rfl) [21, 22, 23, 24, 25, 26, 27, 28, 29, 30, 31, 2] (by kernel_rfl) (by kernel_rfl) (si9 ⟨Stab.pcell _, (si2 trivial)⟩) ?hs2003 ?hQ2003
  case hs2003 =>
   refine ⟨?_, ?_, ?_, ?_, ?_, ?_, ?_, ?_, ?_, ?_, ?_, ?_, trivial⟩
   ·refine stepN rfl fun σ w1 hC h => ?_
    have e0 := (eqo (h 0 (by decide))).trans T0
    exact Yk.move e0 ⟨Ext.refl _, rfl⟩
   ·refine stepN rfl fun σ w1 hC h => ?_
    have e21 := eqo (h 21 (by decide))
    exact Yk.nilCheck e21 ⟨Ext.refl _, rfl⟩
   ·refine stepN rfl fun σ w1 hC h => ?_
    have e22 := eqo (h 22 (by decide))
    exact Yk.fieldAt wr7_fo111_0 e22 ⟨Ext.refl _, rfl⟩
   ·refine stepN rfl fun σ w1 hC h => ?_
    have e23 := eqo (h 23 (by decide))
    exact Yk.cell1 wr7_ty26 rfl e23 (cellAt (eb hC hb) (show (rdC ((⟨b, (((i) + (1) : Nat) : Int)⟩, ⟨v⟩) : RdV))[0]? = some (v : Value) from rd_g0 ((⟨b, (((i) + (1) : Nat) : Int)⟩, ⟨v⟩) : RdV))) ⟨Ext.refl _, rfl⟩
   ·refine stepN rfl fun σ w1 hC h => ?_
    have e0 := (eqo (h 0 (by decide))).trans T0
    exact Yk.move e0 ⟨Ext.refl _, rfl⟩
   ·refine stepN rfl fun σ w1 hC h => ?_
    have e25 := eqo (h 25 (by decide))
    exact Yk.nilCheck e25 ⟨Ext.refl _, rfl⟩
   ·refine stepN rfl fun σ w1 hC h => ?_
    have e26 := eqo (h 26 (by decide))
    exact Yk.fieldAt wr7_fo111_1 e26 ⟨Ext.refl _, rfl⟩
   ·refine stepN rfl fun σ w1 hC h => ?_
    have e27 := eqo (h 27 (by decide))
    exact Yk.cell1 wr7_ty3 rfl e27 (cellAt (eb hC hb) (show (rdC ((⟨b, (((i) + (1) : Nat) : Int)⟩, ⟨v⟩) : RdV))[1]? = some (NI ((i) + (1)) : Value) from rd_g1 ((⟨b, (((i) + (1) : Nat) : Int)⟩, ⟨v⟩) : RdV))) ⟨Ext.refl _, rfl⟩
   ·refine stepN rfl fun σ w1 hC h => ?_
    have e28 := eqo (h 28 (by decide))
    exact Yk.bin (xv := NI ((i) + (1))) (yv := NI 1) e28 rfl rfl (i64_sub _ _ _ (by omega) (by omega)) ⟨Ext.refl _, rfl⟩
   ·refine stepN rfl fun σ w1 hC h => ?_
    have e24 := eqo (h 24 (by decide))
    have e29 := eqo (h 29 (by decide))
    exact Yk.atRB (l := b) (i := ((i) + (1)) - (1)) wr7_ty26 wr7_sz5 (RB.of (hr.keep hC) e24) e29 (by omega) fun _ h => ⟨Ext.refl _, h⟩
   ·refine stepN rfl fun σ w1 hC h => ?_
    have e30 : (PCell (B8 (b.getD (((i) + (1)) - (1)) 0))) (σ 30) w1 := h 30 (by decide)
    exact Yk.loadC wr7_ty5 rfl e30 ⟨Ext.refl _, rfl⟩
   ·refine stepN rfl fun σ w1 hC h => ?_
    have e31 := eqo (h 31 (by decide))
    exact Yk.assign e31 ⟨Ext.refl _, rfl⟩
  intro ρ19 w20 hx21 he hf
  obtain ⟨-, -, -, -, -, -, -, -, -, -, -, k2, -⟩ := hf
  have T0 : ρ19 0 = PQ r 0 := he.at_ T0 rfl
  clear he
  have hr := hr.keep hx21
  have hgr : w.grownBy w20 (some r) := grownBy_trans hgr hx21.grown (fun _ e => by cases e)
  have hb := eb hx21 hb
  have T2 : ρ19 2 = B8 (b.getD (((i) + (1)) - (1)) 0) := k2
  clear k2
  refine tN (hK18 _ _ (wpF_ret (postP_ret (fn := Tryd.f108) _ rfl [B8 (b.getD (((i) + (1)) - (1)) 0)] (B8 (b.getD (((i) + (1)) - (1)) 0)) rfl ⟨T2, trivial⟩ ?_)))
  exact .inl ⟨_, rfl, _, _, hP, rfl, hb, hgr⟩
 have hP : byteP b i = none := if_neg hlt
 refine tN (hK1 _ _ (sk fun K22 hK22 => ?_))
 refine wpF_draw_endE 10 _ [Is (PQ r 0), Is (PQ r 0), Is (PQ r 1), Is (NI i), Is (PQ r 0), Is (PQ r 0), Is (PQ r 0), Is (v), Is (NI b.length), Is (.bool (false))] (by kernel_rfl) [3, 4, 5, 6, 7, 8, 9, 10, 11, 12, 13] (by kernel_rfl) (by kernel_rfl) (by kernel_rfl) rfl rfl rfl (fun _ _ => trivial) (si10 trivial) ?hs3001 ?hQ3001
 case hs3001 =>
  refine ⟨?_, ?_, ?_, ?_, ?_, ?_, ?_, ?_, ?_, ?_, ?_, trivial⟩
  ·refine stepFL (stepN rfl fun σ w1 hC h => ?_)
   have e0 := (eqo (h 0 (by decide))).trans T0
   exact Yk.move e0 ⟨Ext.refl _, rfl⟩
  ·refine stepFL (stepN rfl fun σ w1 hC h => ?_)
   have e3 := eqo (h 3 (by decide))
   exact Yk.nilCheck e3 ⟨Ext.refl _, rfl⟩
  ·refine stepFL (stepN rfl fun σ w1 hC h => ?_)
   have e4 := eqo (h 4 (by decide))
   exact Yk.fieldAt wr7_fo111_1 e4 ⟨Ext.refl _, rfl⟩
  ·refine stepFL (stepN rfl fun σ w1 hC h => ?_)
   have e5 := eqo (h 5 (by decide))
   exact Yk.cell1 wr7_ty3 rfl e5 (cellAt (eb hC hb) (show (rdC (rdX v b (i)))[1]? = some (NI i : Value) from rd_g1 (rdX v b (i)))) ⟨Ext.refl _, rfl⟩
  ·refine stepFL (stepN rfl fun σ w1 hC h => ?_)
   have e0 := (eqo (h 0 (by decide))).trans T0
   exact Yk.move e0 ⟨Ext.refl _, rfl⟩
  ·refine stepFL (stepN rfl fun σ w1 hC h => ?_)
   have e7 := eqo (h 7 (by decide))
   exact Yk.nilCheck e7 ⟨Ext.refl _, rfl⟩
  ·refine stepFL (stepN rfl fun σ w1 hC h => ?_)
   have e8 := eqo (h 8 (by decide))
   exact Yk.fieldAt wr7_fo111_0 e8 ⟨Ext.refl _, rfl⟩
  ·refine stepFL (stepN rfl fun σ w1 hC h => ?_)
   have e9 := eqo (h 9 (by decide))
   exact Yk.cell1 wr7_ty26 rfl e9 (cellAt (eb hC hb) (show (rdC (rdX v b (i)))[0]? = some (v : Value) from rd_g0 (rdX v b (i)))) ⟨Ext.refl _, rfl⟩
  ·refine stepFL (stepN rfl fun σ w1 hC h => ?_)
   have e10 := eqo (h 10 (by decide))
   exact Yk.lenRB wr7_ty26 (RB.of (hr.keep (hE.trans hC)) e10) ⟨Ext.refl _, rfl⟩
  ·refine stepFL (stepN rfl fun σ w1 hC h => ?_)
   have e6 := eqo (h 6 (by decide))
   have e11 := eqo (h 11 (by decide))
   exact Yk.eqI (a := (i : Nat)) (b := (b.length : Nat)) e6 e11 (k_lss _ _ _ _) ⟨Ext.refl _, (congrArg Value.bool (decide_eq_false ((by omega))))⟩
  ·exact trivial
 intro ρ23 w24 hx25 he hf
 obtain ⟨-, -, -, -, -, -, -, -, -, k12, -⟩ := hf
 obtain ⟨T0, T2, -⟩ := he.hold [(0, _), (2, B8 (0))] ⟨T0, rfl, trivial⟩ rfl
 clear he
 have hb := eb hx25 hb
 have hgr : w.grownBy w24 (some r) := grownBy_trans hgr hx25.grown (fun _ e => by cases e)
 have hE := hE.trans hx25
 have T12 : ρ23 12 = .bool (false) := k12
 clear k12
 refine Yp.callA1 wr7_pl109 T12 ?_
 refine calls_either (needW_any _ (false)) ?_ ?_
 rotate_left
 ·
  rintro ch w28 ⟨rfl, hb, hx⟩
  refine thenF_panic (postP_panic ?_)
  exact .inr ⟨_, rfl, hP, rfl, (grownBy_trans hgr hx.grown (fun _ e => by cases e))⟩
 rintro v_ w29 ⟨rfl, hb26, hx27⟩
 cases hb26

theorem numberW_any (w : World) (r : Nat) (v : Value) (b : Bs) (i : Nat) (hb : w.heap[r]? = some (.cells (rdC (rdX v b (i))).toArray 111 (0, 0))) (hr : RB w v b) (hap : b = [] ∨ OB v r) (hi : i ≤ b.length) (hl : b.length ≤ 4611686018427387904) :
  Calls Tryd.prog 110 #[PQ r 0] w fun e w' => (∃ x, e = .returned x ∧ ∃ c n, numP b i = some (c, n) ∧ x = NI c ∧ w'.heap[r]? = some (.cells (rdC (rdX v b (n))).toArray 111 (0, 0)) ∧ w.grownBy w' (some r)) ∨ ∃ ch, e = .panicked ch ∧ numP b i = none ∧ ch = [stopW] ∧ w.grownBy w' (some r) := by
 have hlr := (bl hb)
 have hgr := World.grownBy.refl w (some r)
 refine calls_of_wpP (args := [PQ r 0]) Tryd.func110 rfl 27 rfl (Nat.le_of_ble_eq_true rfl) ?_
 intro ρ0 hb
 have T0 : ρ0 0 = (PQ r 0 : Value) := hb.get 0
 clear hb
 have hE := Ext.refl w
 refine sk fun K1 hK1 => (wt (oA rfl (oZ ?_)))
 rcases hd : lebDec 0 (b.drop i) with _ | ⟨xn, xk⟩
 ·have hP : numP b i = none := by unfold numP; rw [hd]; rfl
  refine tN (hK1 _ _ (sk fun K2 hK2 => ?_))
  refine wpF_draw [Is (PQ r 0), Is (PQ r 0), Is (PQ r 0), Is (v), Is (PQ r 0), Is (PQ r 0), Is (PQ r 1), Is (NI i), Is (.tuple #[NI 0, NI 0, NI 6]), Is (.tuple #[NI 0, NI 0, NI 6]), Is (NI 0), Is (NI 0), Is (NI 6), Is (NI 0), Is (NI 0), Is (NI 6)] (by kernel_rfl) [7, 8, 9, 10, 11, 12, 13, 14, 15, 6, 16, 17, 18, 3, 4, 5] (by kernel_rfl) (by kernel_rfl) (si4 (si12 trivial)) ?hs1001 ?hQ1001
  case hs1001 =>
   refine ⟨?_, ?_, ?_, ?_, ?_, ?_, ?_, ?_, ?_, ?_, ?_, ?_, ?_, ?_, ?_, ?_, trivial⟩
   ·refine stepN rfl fun σ w1 hC h => ?_
    have e0 := (eqo (h 0 (by decide))).trans T0
    exact Yk.move e0 ⟨Ext.refl _, rfl⟩
   ·refine stepN rfl fun σ w1 hC h => ?_
    have e7 := eqo (h 7 (by decide))
    exact Yk.nilCheck e7 ⟨Ext.refl _, rfl⟩
   ·refine stepN rfl fun σ w1 hC h => ?_
    have e8 := eqo (h 8 (by decide))
    exact Yk.fieldAt wr7_fo111_0 e8 ⟨Ext.refl _, rfl⟩
   ·refine stepN rfl fun σ w1 hC h => ?_
    have e9 := eqo (h 9 (by decide))
    exact Yk.cell1 wr7_ty26 rfl e9 (cellAt (eb hC hb) (show (rdC (rdX v b (i)))[0]? = some (v : Value) from rd_g0 (rdX v b (i)))) ⟨Ext.refl _, rfl⟩
   ·refine stepN rfl fun σ w1 hC h => ?_
    have e0 := (eqo (h 0 (by decide))).trans T0
    exact Yk.move e0 ⟨Ext.refl _, rfl⟩
   ·refine stepN rfl fun σ w1 hC h => ?_
    have e11 := eqo (h 11 (by decide))
    exact Yk.nilCheck e11 ⟨Ext.refl _, rfl⟩
   ·refine stepN rfl fun σ w1 hC h => ?_
    have e12 := eqo (h 12 (by decide))
    exact Yk.fieldAt wr7_fo111_1 e12 ⟨Ext.refl _, rfl⟩
   ·refine stepN rfl fun σ w1 hC h => ?_
    have e13 := eqo (h 13 (by decide))
    exact Yk.cell1 wr7_ty3 rfl e13 (cellAt (eb hC hb) (show (rdC (rdX v b (i)))[1]? = some (NI i : Value) from rd_g1 (rdX v b (i)))) ⟨Ext.refl _, rfl⟩
   ·refine stepN rfl fun σ w1 hC h => ?_
    have e10 := eqo (h 10 (by decide))
    have e14 := eqo (h 14 (by decide))
    refine Yk.callA2 wr7_pl145 e10 e14 ?_
    refine ((show Calls _ _ _ _ (fun e w2 => e = .returned (.tuple #[NI 0, NI 0, NI 6]) ∧ Ext _ w2) from (get_in _ v b (hr.keep (hE.trans hC)) i hi).mono fun e w2 ⟨h1, h2⟩ => by subst h2; subst h1; refine ⟨?_, Ext.refl _⟩; rw [hd]; rfl)).mono ?_
    rintro e w2 ⟨rfl, hx⟩
    exact ⟨_, rfl, hx, rfl⟩
   ·refine stepN rfl fun σ w1 hC h => ?_
    have e15 := eqo (h 15 (by decide))
    exact Yk.move e15 ⟨Ext.refl _, rfl⟩
   ·refine stepN rfl fun σ w1 hC h => ?_
    have e6 := eqo (h 6 (by decide))
    exact Yk.extract (vs := [NI 0, NI 0, NI 6]) e6 (show _ = some (NI 0 : Value) from rfl) ⟨Ext.refl _, rfl⟩
   ·refine stepN rfl fun σ w1 hC h => ?_
    have e6 := eqo (h 6 (by decide))
    exact Yk.extract (vs := [NI 0, NI 0, NI 6]) e6 (show _ = some (NI 0 : Value) from rfl) ⟨Ext.refl _, rfl⟩
   ·refine stepN rfl fun σ w1 hC h => ?_
    have e6 := eqo (h 6 (by decide))
    exact Yk.extract (vs := [NI 0, NI 0, NI 6]) e6 (show _ = some (NI 6 : Value) from rfl) ⟨Ext.refl _, rfl⟩
   ·refine stepN rfl fun σ w1 hC h => ?_
    have e16 := eqo (h 16 (by decide))
    exact Yk.assign e16 ⟨Ext.refl _, rfl⟩
   ·refine stepN rfl fun σ w1 hC h => ?_
    have e17 := eqo (h 17 (by decide))
    exact Yk.assign e17 ⟨Ext.refl _, rfl⟩
   ·refine stepN rfl fun σ w1 hC h => ?_
    have e18 := eqo (h 18 (by decide))
    exact Yk.assign e18 ⟨Ext.refl _, rfl⟩
  intro ρ3 w4 hx5 he hf
  obtain ⟨-, -, -, -, -, -, -, -, -, -, -, -, -, k3, k4, k5, -⟩ := hf
  obtain ⟨T0, T2, -⟩ := he.hold [(0, _), (2, NI 0)] ⟨T0, rfl, trivial⟩ rfl
  clear he
  have hb := eb hx5 hb
  have hgr : w.grownBy w4 (some r) := grownBy_trans hgr hx5.grown (fun _ e => by cases e)
  have hE := hE.trans hx5
  have T3 : ρ3 3 = NI 0 := k3
  have T4 : ρ3 4 = NI 0 := k4
  have T5 : ρ3 5 = NI 6 := k5
  clear k3 k4 k5
  refine tN (hK2 _ _ (sk fun K6 hK6 => (wt (oM rfl (oS rfl (Yk.eqI (a := (6 : Nat)) (b := (0 : Nat)) T5 rfl (k_eql _ _ _ _) (oP rfl (Yp.callA1 wr7_pl109 (vr (.bool (decide ((6 : Nat) = (0)))) rfl) ?_))))))))
  refine calls_either (needW_any _ (decide ((6 : Nat) = (0)))) ?_ ?_
  rotate_left
  ·
   rintro ch w9 ⟨rfl, hb, hx⟩
   refine thenF_panic (postP_panic ?_)
   have hno := of_decide_eq_false hb
   exact .inr ⟨_, rfl, hP, rfl, (grownBy_trans hgr hx.grown (fun _ e => by cases e))⟩
  rintro v_ w11 ⟨rfl, hb7, hx8⟩
  have hb := eb hx8 hb
  have hgr : w.grownBy w11 (some r) := grownBy_trans hgr hx8.grown (fun _ e => by cases e)
  have hE := hE.trans hx8
  have hn12 := of_decide_eq_true hb7
  refine oZ (tN (hK6 _ _ (sk fun K13 hK13 => (wt (oM rfl (oM rfl (oS rfl (Yk.nilCheck T0 (oS rfl (Yk.fieldAt wr7_fo111_1 (vr (PQ r 0) rfl) (oS rfl (Yk.storeC (i := 1) (v := NI 0) (vr (PQ r 1) rfl) T4 hb (by rw [rd_len]; decide) wr7_isz3 rfl rfl fun w14 hb15 hg16 hs17 => ?_))))))))))))
  clear hb
  have hgr : w.grownBy w14 (some r) := grownBy_trans hgr hg16 (fun _ e => .inl e)
  clear hE
  have hb : w14.heap[r]? = some (.cells (rdC ((⟨b, ((0 : Nat) : Int)⟩, ⟨v⟩) : RdV)).toArray 111 (0, 0)) := blk_eq hb15 (rd_s1 (rdX v b (i)) ((0 : Nat) : Int)); clear hb15
  have hl18 := bl hb
  refine oZ (tN (hK13 _ _ (sk fun K19 hK19 => (wt (oM rfl (oA rfl (oZ (tN (hK19 _ _ (wpF_ret (postP_ret (fn := Tryd.f110) _ rfl [NI 0] (NI 0) rfl ⟨T3, trivial⟩ ?_)))))))))))
  omega
 have hP : numP b i = some (xn, i + xk) := by unfold numP; rw [hd]; rfl
 refine tN (hK1 _ _ (sk fun K20 hK20 => ?_))
 refine wpF_draw [Is (PQ r 0), Is (PQ r 0), Is (PQ r 0), Is (v), Is (PQ r 0), Is (PQ r 0), Is (PQ r 1), Is (NI i), Is (.tuple #[NI xn, NI (i + xk), NI 0]), Is (.tuple #[NI xn, NI (i + xk), NI 0]), Is (NI xn), Is (NI (i + xk)), Is (NI 0), Is (NI xn), Is (NI (i + xk)), Is (NI 0)] (by kernel_rfl) [7, 8, 9, 10, 11, 12, 13, 14, 15, 6, 16, 17, 18, 3, 4, 5] (by kernel_rfl) (by kernel_rfl) (si4 (si12 trivial)) ?hs2001 ?hQ2001
 case hs2001 =>
  refine ⟨?_, ?_, ?_, ?_, ?_, ?_, ?_, ?_, ?_, ?_, ?_, ?_, ?_, ?_, ?_, ?_, trivial⟩
  ·refine stepN rfl fun σ w1 hC h => ?_
   have e0 := (eqo (h 0 (by decide))).trans T0
   exact Yk.move e0 ⟨Ext.refl _, rfl⟩
  ·refine stepN rfl fun σ w1 hC h => ?_
   have e7 := eqo (h 7 (by decide))
   exact Yk.nilCheck e7 ⟨Ext.refl _, rfl⟩
  ·refine stepN rfl fun σ w1 hC h => ?_
   have e8 := eqo (h 8 (by decide))
   exact Yk.fieldAt wr7_fo111_0 e8 ⟨Ext.refl _, rfl⟩
  ·refine stepN rfl fun σ w1 hC h => ?_
   have e9 := eqo (h 9 (by decide))
   exact Yk.cell1 wr7_ty26 rfl e9 (cellAt (eb hC hb) (show (rdC (rdX v b (i)))[0]? = some (v : Value) from rd_g0 (rdX v b (i)))) ⟨Ext.refl _, rfl⟩
  ·refine stepN rfl fun σ w1 hC h => ?_
   have e0 := (eqo (h 0 (by decide))).trans T0
   exact Yk.move e0 ⟨Ext.refl _, rfl⟩
  ·refine stepN rfl fun σ w1 hC h => ?_
   have e11 := eqo (h 11 (by decide))
   exact Yk.nilCheck e11 ⟨Ext.refl _, rfl⟩
  ·refine stepN rfl fun σ w1 hC h => ?_
   have e12 := eqo (h 12 (by decide))
   exact Yk.fieldAt wr7_fo111_1 e12 ⟨Ext.refl _, rfl⟩
  ·refine stepN rfl fun σ w1 hC h => ?_
   have e13 := eqo (h 13 (by decide))
   exact Yk.cell1 wr7_ty3 rfl e13 (cellAt (eb hC hb) (show (rdC (rdX v b (i)))[1]? = some (NI i : Value) from rd_g1 (rdX v b (i)))) ⟨Ext.refl _, rfl⟩
  ·refine stepN rfl fun σ w1 hC h => ?_
   have e10 := eqo (h 10 (by decide))
   have e14 := eqo (h 14 (by decide))
   refine Yk.callA2 wr7_pl145 e10 e14 ?_
   refine ((show Calls _ _ _ _ (fun e w2 => e = .returned (.tuple #[NI xn, NI (i + xk), NI 0]) ∧ Ext _ w2) from (get_in _ v b (hr.keep (hE.trans hC)) i hi).mono fun e w2 ⟨h1, h2⟩ => by subst h2; subst h1; refine ⟨?_, Ext.refl _⟩; rw [hd]; rfl)).mono ?_
   rintro e w2 ⟨rfl, hx⟩
   exact ⟨_, rfl, hx, rfl⟩
  ·refine stepN rfl fun σ w1 hC h => ?_
   have e15 := eqo (h 15 (by decide))
   exact Yk.move e15 ⟨Ext.refl _, rfl⟩
  ·refine stepN rfl fun σ w1 hC h => ?_
   have e6 := eqo (h 6 (by decide))
   exact Yk.extract (vs := [NI xn, NI (i + xk), NI 0]) e6 (show _ = some (NI xn : Value) from rfl) ⟨Ext.refl _, rfl⟩
  ·refine stepN rfl fun σ w1 hC h => ?_
   have e6 := eqo (h 6 (by decide))
   exact Yk.extract (vs := [NI xn, NI (i + xk), NI 0]) e6 (show _ = some (NI (i + xk) : Value) from rfl) ⟨Ext.refl _, rfl⟩
  ·refine stepN rfl fun σ w1 hC h => ?_
   have e6 := eqo (h 6 (by decide))
   exact Yk.extract (vs := [NI xn, NI (i + xk), NI 0]) e6 (show _ = some (NI 0 : Value) from rfl) ⟨Ext.refl _, rfl⟩
  ·refine stepN rfl fun σ w1 hC h => ?_
   have e16 := eqo (h 16 (by decide))
   exact Yk.assign e16 ⟨Ext.refl _, rfl⟩
  ·refine stepN rfl fun σ w1 hC h => ?_
   have e17 := eqo (h 17 (by decide))
   exact Yk.assign e17 ⟨Ext.refl _, rfl⟩
  ·refine stepN rfl fun σ w1 hC h => ?_
   have e18 := eqo (h 18 (by decide))
   exact Yk.assign e18 ⟨Ext.refl _, rfl⟩
 intro ρ21 w22 hx23 he hf
 obtain ⟨-, -, -, -, -, -, -, -, -, -, -, -, -, k3, k4, k5, -⟩ := hf
 obtain ⟨T0, T2, -⟩ := he.hold [(0, _), (2, NI 0)] ⟨T0, rfl, trivial⟩ rfl
 clear he
 have hb := eb hx23 hb
 have hgr : w.grownBy w22 (some r) := grownBy_trans hgr hx23.grown (fun _ e => by cases e)
 have hE := hE.trans hx23
 have T3 : ρ21 3 = NI xn := k3
 have T4 : ρ21 4 = NI (i + xk) := k4
 have T5 : ρ21 5 = NI 0 := k5
 clear k3 k4 k5
 refine tN (hK20 _ _ (sk fun K24 hK24 => (wt (oM rfl (oS rfl (Yk.eqI (a := (0 : Nat)) (b := (0 : Nat)) T5 rfl (k_eql _ _ _ _) (oP rfl (Yp.callA1 wr7_pl109 (vr (.bool (decide ((0 : Nat) = (0)))) rfl) ?_))))))))
 refine calls_either (needW_any _ (decide ((0 : Nat) = (0)))) ?_ ?_
 rotate_left
 ·
  rintro ch w27 ⟨rfl, hb, hx⟩
  refine thenF_panic (postP_panic ?_)
  have hno := of_decide_eq_false hb
  exact absurd rfl hno
 rintro v_ w29 ⟨rfl, hb25, hx26⟩
 have hb := eb hx26 hb
 have hgr : w.grownBy w29 (some r) := grownBy_trans hgr hx26.grown (fun _ e => by cases e)
 have hE := hE.trans hx26
 have hn30 := of_decide_eq_true hb25
 refine oZ (tN (hK24 _ _ (sk fun K31 hK31 => (wt (oM rfl (oM rfl (oS rfl (Yk.nilCheck T0 (oS rfl (Yk.fieldAt wr7_fo111_1 (vr (PQ r 0) rfl) (oS rfl (Yk.storeC (i := 1) (v := NI (i + xk)) (vr (PQ r 1) rfl) T4 hb (by rw [rd_len]; decide) wr7_isz3 rfl rfl fun w32 hb33 hg34 hs35 => ?_))))))))))))
 clear hb
 have hgr : w.grownBy w32 (some r) := grownBy_trans hgr hg34 (fun _ e => .inl e)
 clear hE
 have hb : w32.heap[r]? = some (.cells (rdC ((⟨b, ((i + xk : Nat) : Int)⟩, ⟨v⟩) : RdV)).toArray 111 (0, 0)) := blk_eq hb33 (rd_s1 (rdX v b (i)) ((i + xk : Nat) : Int)); clear hb33
 have hl36 := bl hb
 refine oZ (tN (hK31 _ _ (sk fun K37 hK37 => (wt (oM rfl (oA rfl (oZ (tN (hK37 _ _ (wpF_ret (postP_ret (fn := Tryd.f110) _ rfl [NI xn] (NI xn) rfl ⟨T3, trivial⟩ ?_)))))))))))
 exact .inl ⟨_, rfl, _, _, hP, rfl, hb, hgr⟩

theorem textW_any (w : World) (r : Nat) (v : Value) (b : Bs) (i : Nat) (hb : w.heap[r]? = some (.cells (rdC (rdX v b (i))).toArray 111 (0, 0))) (hr : RB w v b) (hap : b = [] ∨ OB v r) (hi : i ≤ b.length) (hl : b.length ≤ 4611686018427387904) (most : Nat) :
  Calls Tryd.prog 113 #[PQ r 0, NI most] w fun e w' => (∃ x, e = .returned x ∧ ∃ c n, txtP b i most = some (c, n) ∧ x = St c ∧ w'.heap[r]? = some (.cells (rdC (rdX v b (n))).toArray 111 (0, 0)) ∧ w.grownBy w' (some r)) ∨ ∃ ch, e = .panicked ch ∧ txtP b i most = none ∧ ch = [stopW] ∧ w.grownBy w' (some r) := by
 have hlr := (bl hb)
 have hgr := World.grownBy.refl w (some r)
 refine calls_of_wpP (args := [PQ r 0, NI most]) Tryd.func113 rfl 30 rfl (Nat.le_of_ble_eq_true rfl) ?_
 intro ρ0 hb
 have T0 : ρ0 0 = (PQ r 0 : Value) := hb.get 0
 have T1 : ρ0 1 = (NI most : Value) := hb.get 1
 clear hb
 have hE := Ext.refl w
 refine sk fun K1 hK1 => (wt (oA rfl (oZ ?_)))
 rcases hd : lebDec 0 (b.drop i) with _ | ⟨xn, xk⟩
 ·have hP : txtP b i most = none := by unfold txtP; rw [hd]
  refine tN (hK1 _ _ (sk fun K2 hK2 => ?_))
  refine wpF_draw [Is (PQ r 0), Is (PQ r 0), Is (PQ r 0), Is (v), Is (PQ r 0), Is (PQ r 0), Is (PQ r 1), Is (NI i), Is (NI most), Is (.tuple #[St (([] : List UInt8)), NI 0, NI 6]), Is (.tuple #[St (([] : List UInt8)), NI 0, NI 6]), Is (St (([] : List UInt8))), Is (NI 0), Is (NI 6), Is (St (([] : List UInt8))), Is (NI 0), Is (NI 6)] (by kernel_rfl) [9, 10, 11, 12, 13, 14, 15, 16, 17, 18, 8, 19, 20, 21, 5, 6, 7] (by kernel_rfl) (by kernel_rfl) (si5 (si12 trivial)) ?hs1001 ?hQ1001
  case hs1001 =>
   refine ⟨?_, ?_, ?_, ?_, ?_, ?_, ?_, ?_, ?_, ?_, ?_, ?_, ?_, ?_, ?_, ?_, ?_, trivial⟩
   ·refine stepN rfl fun σ w1 hC h => ?_
    have e0 := (eqo (h 0 (by decide))).trans T0
    exact Yk.move e0 ⟨Ext.refl _, rfl⟩
   ·refine stepN rfl fun σ w1 hC h => ?_
    have e9 := eqo (h 9 (by decide))
    exact Yk.nilCheck e9 ⟨Ext.refl _, rfl⟩
   ·refine stepN rfl fun σ w1 hC h => ?_
    have e10 := eqo (h 10 (by decide))
    exact Yk.fieldAt wr7_fo111_0 e10 ⟨Ext.refl _, rfl⟩
   ·refine stepN rfl fun σ w1 hC h => ?_
    have e11 := eqo (h 11 (by decide))
    exact Yk.cell1 wr7_ty26 rfl e11 (cellAt (eb hC hb) (show (rdC (rdX v b (i)))[0]? = some (v : Value) from rd_g0 (rdX v b (i)))) ⟨Ext.refl _, rfl⟩
   ·refine stepN rfl fun σ w1 hC h => ?_
    have e0 := (eqo (h 0 (by decide))).trans T0
    exact Yk.move e0 ⟨Ext.refl _, rfl⟩
   ·refine stepN rfl fun σ w1 hC h => ?_
    have e13 := eqo (h 13 (by decide))
    exact Yk.nilCheck e13 ⟨Ext.refl _, rfl⟩
   ·refine stepN rfl fun σ w1 hC h => ?_
    have e14 := eqo (h 14 (by decide))
    exact Yk.fieldAt wr7_fo111_1 e14 ⟨Ext.refl _, rfl⟩
   ·refine stepN rfl fun σ w1 hC h => ?_
    have e15 := eqo (h 15 (by decide))
    exact Yk.cell1 wr7_ty3 rfl e15 (cellAt (eb hC hb) (show (rdC (rdX v b (i)))[1]? = some (NI i : Value) from rd_g1 (rdX v b (i)))) ⟨Ext.refl _, rfl⟩
   ·refine stepN rfl fun σ w1 hC h => ?_
    have e1 := (eqo (h 1 (by decide))).trans T1
    exact Yk.move e1 ⟨Ext.refl _, rfl⟩
   ·refine stepN rfl fun σ w1 hC h => ?_
    have e12 := eqo (h 12 (by decide))
    have e16 := eqo (h 16 (by decide))
    have e17 := eqo (h 17 (by decide))
    refine Yk.callA3 wr7_pl146 e12 e16 e17 ?_
    refine ((show Calls _ _ _ _ (fun e w2 => e = .returned (.tuple #[St (([] : List UInt8)), NI 0, NI 6]) ∧ Ext _ w2) from (getText_in _ v b (hr.keep (hE.trans hC)) i hi ((most : Nat) : Int)).mono fun e w2 ⟨h1, h2⟩ => by subst h2; subst h1; refine ⟨?_, Ext.refl _⟩; unfold getTextRes; rw [hd]; simp only; rfl)).mono ?_
    rintro e w2 ⟨rfl, hx⟩
    exact ⟨_, rfl, hx, rfl⟩
   ·refine stepN rfl fun σ w1 hC h => ?_
    have e18 := eqo (h 18 (by decide))
    exact Yk.move e18 ⟨Ext.refl _, rfl⟩
   ·refine stepN rfl fun σ w1 hC h => ?_
    have e8 := eqo (h 8 (by decide))
    exact Yk.extract (vs := [St (([] : List UInt8)), NI 0, NI 6]) e8 (show _ = some (St (([] : List UInt8)) : Value) from rfl) ⟨Ext.refl _, rfl⟩
   ·refine stepN rfl fun σ w1 hC h => ?_
    have e8 := eqo (h 8 (by decide))
    exact Yk.extract (vs := [St (([] : List UInt8)), NI 0, NI 6]) e8 (show _ = some (NI 0 : Value) from rfl) ⟨Ext.refl _, rfl⟩
   ·refine stepN rfl fun σ w1 hC h => ?_
    have e8 := eqo (h 8 (by decide))
    exact Yk.extract (vs := [St (([] : List UInt8)), NI 0, NI 6]) e8 (show _ = some (NI 6 : Value) from rfl) ⟨Ext.refl _, rfl⟩
   ·refine stepN rfl fun σ w1 hC h => ?_
    have e19 := eqo (h 19 (by decide))
    exact Yk.assign e19 ⟨Ext.refl _, rfl⟩
   ·refine stepN rfl fun σ w1 hC h => ?_
    have e20 := eqo (h 20 (by decide))
    exact Yk.assign e20 ⟨Ext.refl _, rfl⟩
   ·refine stepN rfl fun σ w1 hC h => ?_
    have e21 := eqo (h 21 (by decide))
    exact Yk.assign e21 ⟨Ext.refl _, rfl⟩
  intro ρ3 w4 hx5 he hf
  obtain ⟨-, -, -, -, -, -, -, -, -, -, -, -, -, -, k5, k6, k7, -⟩ := hf
  obtain ⟨T0, T1, T4, -⟩ := he.hold [(0, _), (1, _), (4, St (([] : List UInt8)))] ⟨T0, T1, rfl, trivial⟩ rfl
  clear he
  have hb := eb hx5 hb
  have hgr : w.grownBy w4 (some r) := grownBy_trans hgr hx5.grown (fun _ e => by cases e)
  have hE := hE.trans hx5
  have T5 : ρ3 5 = St (([] : List UInt8)) := k5
  have T6 : ρ3 6 = NI 0 := k6
  have T7 : ρ3 7 = NI 6 := k7
  clear k5 k6 k7
  refine tN (hK2 _ _ (sk fun K6 hK6 => (wt (oM rfl (oS rfl (Yk.eqI (a := (6 : Nat)) (b := (0 : Nat)) T7 rfl (k_eql _ _ _ _) (oP rfl (Yp.callA1 wr7_pl109 (vr (.bool (decide ((6 : Nat) = (0)))) rfl) ?_))))))))
  refine calls_either (needW_any _ (decide ((6 : Nat) = (0)))) ?_ ?_
  rotate_left
  ·
   rintro ch w9 ⟨rfl, hb, hx⟩
   refine thenF_panic (postP_panic ?_)
   have hno := of_decide_eq_false hb
   exact .inr ⟨_, rfl, hP, rfl, (grownBy_trans hgr hx.grown (fun _ e => by cases e))⟩
  rintro v_ w11 ⟨rfl, hb7, hx8⟩
  have hb := eb hx8 hb
  have hgr : w.grownBy w11 (some r) := grownBy_trans hgr hx8.grown (fun _ e => by cases e)
  have hE := hE.trans hx8
  have hn12 := of_decide_eq_true hb7
  refine oZ (tN (hK6 _ _ (sk fun K13 hK13 => (wt (oM rfl (oM rfl (oS rfl (Yk.nilCheck T0 (oS rfl (Yk.fieldAt wr7_fo111_1 (vr (PQ r 0) rfl) (oS rfl (Yk.storeC (i := 1) (v := NI 0) (vr (PQ r 1) rfl) T6 hb (by rw [rd_len]; decide) wr7_isz3 rfl rfl fun w14 hb15 hg16 hs17 => ?_))))))))))))
  clear hb
  have hgr : w.grownBy w14 (some r) := grownBy_trans hgr hg16 (fun _ e => .inl e)
  clear hE
  have hb : w14.heap[r]? = some (.cells (rdC ((⟨b, ((0 : Nat) : Int)⟩, ⟨v⟩) : RdV)).toArray 111 (0, 0)) := blk_eq hb15 (rd_s1 (rdX v b (i)) ((0 : Nat) : Int)); clear hb15
  have hl18 := bl hb
  refine oZ (tN (hK13 _ _ (sk fun K19 hK19 => (wt (oM rfl (oA rfl (oZ (tN (hK19 _ _ (wpF_ret (postP_ret (fn := Tryd.f113) _ rfl [St (([] : List UInt8))] (St (([] : List UInt8))) rfl ⟨T5, trivial⟩ ?_)))))))))))
  omega
 by_cases hm : most < xn
 ·have hP : txtP b i most = none := by unfold txtP; rw [hd]; exact if_pos hm
  refine tN (hK1 _ _ (sk fun K20 hK20 => ?_))
  refine wpF_draw [Is (PQ r 0), Is (PQ r 0), Is (PQ r 0), Is (v), Is (PQ r 0), Is (PQ r 0), Is (PQ r 1), Is (NI i), Is (NI most), Is (.tuple #[St (([] : List UInt8)), NI 0, NI 2]), Is (.tuple #[St (([] : List UInt8)), NI 0, NI 2]), Is (St (([] : List UInt8))), Is (NI 0), Is (NI 2), Is (St (([] : List UInt8))), Is (NI 0), Is (NI 2)] (by kernel_rfl) [9, 10, 11, 12, 13, 14, 15, 16, 17, 18, 8, 19, 20, 21, 5, 6, 7] (by kernel_rfl) (by kernel_rfl) (si5 (si12 trivial)) ?hs2001 ?hQ2001
  case hs2001 =>
   refine ⟨?_, ?_, ?_, ?_, ?_, ?_, ?_, ?_, ?_, ?_, ?_, ?_, ?_, ?_, ?_, ?_, ?_, trivial⟩
   ·refine stepN rfl fun σ w1 hC h => ?_
    have e0 := (eqo (h 0 (by decide))).trans T0
    exact Yk.move e0 ⟨Ext.refl _, rfl⟩
   ·refine stepN rfl fun σ w1 hC h => ?_
    have e9 := eqo (h 9 (by decide))
    exact Yk.nilCheck e9 ⟨Ext.refl _, rfl⟩
   ·refine stepN rfl fun σ w1 hC h => ?_
    have e10 := eqo (h 10 (by decide))
    exact Yk.fieldAt wr7_fo111_0 e10 ⟨Ext.refl _, rfl⟩
   ·refine stepN rfl fun σ w1 hC h => ?_
    have e11 := eqo (h 11 (by decide))
    exact Yk.cell1 wr7_ty26 rfl e11 (cellAt (eb hC hb) (show (rdC (rdX v b (i)))[0]? = some (v : Value) from rd_g0 (rdX v b (i)))) ⟨Ext.refl _, rfl⟩
   ·refine stepN rfl fun σ w1 hC h => ?_
    have e0 := (eqo (h 0 (by decide))).trans T0
    exact Yk.move e0 ⟨Ext.refl _, rfl⟩
   ·refine stepN rfl fun σ w1 hC h => ?_
    have e13 := eqo (h 13 (by decide))
    exact Yk.nilCheck e13 ⟨Ext.refl _, rfl⟩
   ·refine stepN rfl fun σ w1 hC h => ?_
    have e14 := eqo (h 14 (by decide))
    exact Yk.fieldAt wr7_fo111_1 e14 ⟨Ext.refl _, rfl⟩
   ·refine stepN rfl fun σ w1 hC h => ?_
    have e15 := eqo (h 15 (by decide))
    exact Yk.cell1 wr7_ty3 rfl e15 (cellAt (eb hC hb) (show (rdC (rdX v b (i)))[1]? = some (NI i : Value) from rd_g1 (rdX v b (i)))) ⟨Ext.refl _, rfl⟩
   ·refine stepN rfl fun σ w1 hC h => ?_
    have e1 := (eqo (h 1 (by decide))).trans T1
    exact Yk.move e1 ⟨Ext.refl _, rfl⟩
   ·refine stepN rfl fun σ w1 hC h => ?_
    have e12 := eqo (h 12 (by decide))
    have e16 := eqo (h 16 (by decide))
    have e17 := eqo (h 17 (by decide))
    refine Yk.callA3 wr7_pl146 e12 e16 e17 ?_
    refine ((show Calls _ _ _ _ (fun e w2 => e = .returned (.tuple #[St (([] : List UInt8)), NI 0, NI 2]) ∧ Ext _ w2) from (getText_in _ v b (hr.keep (hE.trans hC)) i hi ((most : Nat) : Int)).mono fun e w2 ⟨h1, h2⟩ => by subst h2; subst h1; refine ⟨?_, Ext.refl _⟩; unfold getTextRes; rw [hd]; simp only; rw [if_pos (by omega)]; rfl)).mono ?_
    rintro e w2 ⟨rfl, hx⟩
    exact ⟨_, rfl, hx, rfl⟩
   ·refine stepN rfl fun σ w1 hC h => ?_
    have e18 := eqo (h 18 (by decide))
    exact Yk.move e18 ⟨Ext.refl _, rfl⟩
   ·refine stepN rfl fun σ w1 hC h => ?_
    have e8 := eqo (h 8 (by decide))
    exact Yk.extract (vs := [St (([] : List UInt8)), NI 0, NI 2]) e8 (show _ = some (St (([] : List UInt8)) : Value) from rfl) ⟨Ext.refl _, rfl⟩
   ·refine stepN rfl fun σ w1 hC h => ?_
    have e8 := eqo (h 8 (by decide))
    exact Yk.extract (vs := [St (([] : List UInt8)), NI 0, NI 2]) e8 (show _ = some (NI 0 : Value) from rfl) ⟨Ext.refl _, rfl⟩
   ·refine stepN rfl fun σ w1 hC h => ?_
    have e8 := eqo (h 8 (by decide))
    exact Yk.extract (vs := [St (([] : List UInt8)), NI 0, NI 2]) e8 (show _ = some (NI 2 : Value) from rfl) ⟨Ext.refl _, rfl⟩
   ·refine stepN rfl fun σ w1 hC h => ?_
    have e19 := eqo (h 19 (by decide))
    exact Yk.assign e19 ⟨Ext.refl _, rfl⟩
   ·refine stepN rfl fun σ w1 hC h => ?_
    have e20 := eqo (h 20 (by decide))
    exact Yk.assign e20 ⟨Ext.refl _, rfl⟩
   ·refine stepN rfl fun σ w1 hC h => ?_
    have e21 := eqo (h 21 (by decide))
    exact Yk.assign e21 ⟨Ext.refl _, rfl⟩
  intro ρ21 w22 hx23 he hf
  obtain ⟨-, -, -, -, -, -, -, -, -, -, -, -, -, -, k5, k6, k7, -⟩ := hf
  obtain ⟨T0, T1, T4, -⟩ := he.hold [(0, _), (1, _), (4, St (([] : List UInt8)))] ⟨T0, T1, rfl, trivial⟩ rfl
  clear he
  have hb := eb hx23 hb
  have hgr : w.grownBy w22 (some r) := grownBy_trans hgr hx23.grown (fun _ e => by cases e)
  have hE := hE.trans hx23
  have T5 : ρ21 5 = St (([] : List UInt8)) := k5
  have T6 : ρ21 6 = NI 0 := k6
  have T7 : ρ21 7 = NI 2 := k7
  clear k5 k6 k7
  refine tN (hK20 _ _ (sk fun K24 hK24 => (wt (oM rfl (oS rfl (Yk.eqI (a := (2 : Nat)) (b := (0 : Nat)) T7 rfl (k_eql _ _ _ _) (oP rfl (Yp.callA1 wr7_pl109 (vr (.bool (decide ((2 : Nat) = (0)))) rfl) ?_))))))))
  refine calls_either (needW_any _ (decide ((2 : Nat) = (0)))) ?_ ?_
  rotate_left
  ·
   rintro ch w27 ⟨rfl, hb, hx⟩
   refine thenF_panic (postP_panic ?_)
   have hno := of_decide_eq_false hb
   exact .inr ⟨_, rfl, hP, rfl, (grownBy_trans hgr hx.grown (fun _ e => by cases e))⟩
  rintro v_ w29 ⟨rfl, hb25, hx26⟩
  have hb := eb hx26 hb
  have hgr : w.grownBy w29 (some r) := grownBy_trans hgr hx26.grown (fun _ e => by cases e)
  have hE := hE.trans hx26
  have hn30 := of_decide_eq_true hb25
  refine oZ (tN (hK24 _ _ (sk fun K31 hK31 => (wt (oM rfl (oM rfl (oS rfl (Yk.nilCheck T0 (oS rfl (Yk.fieldAt wr7_fo111_1 (vr (PQ r 0) rfl) (oS rfl (Yk.storeC (i := 1) (v := NI 0) (vr (PQ r 1) rfl) T6 hb (by rw [rd_len]; decide) wr7_isz3 rfl rfl fun w32 hb33 hg34 hs35 => ?_))))))))))))
  clear hb
  have hgr : w.grownBy w32 (some r) := grownBy_trans hgr hg34 (fun _ e => .inl e)
  clear hE
  have hb : w32.heap[r]? = some (.cells (rdC ((⟨b, ((0 : Nat) : Int)⟩, ⟨v⟩) : RdV)).toArray 111 (0, 0)) := blk_eq hb33 (rd_s1 (rdX v b (i)) ((0 : Nat) : Int)); clear hb33
  have hl36 := bl hb
  refine oZ (tN (hK31 _ _ (sk fun K37 hK37 => (wt (oM rfl (oA rfl (oZ (tN (hK37 _ _ (wpF_ret (postP_ret (fn := Tryd.f113) _ rfl [St (([] : List UInt8))] (St (([] : List UInt8))) rfl ⟨T5, trivial⟩ ?_)))))))))))
  omega
 by_cases hl2 : b.length < i + xk + xn
 ·have hP : txtP b i most = none := by unfold txtP; rw [hd]; exact (if_neg hm).trans (if_pos hl2)
  refine tN (hK1 _ _ (sk fun K38 hK38 => ?_))
  refine wpF_draw [Is (PQ r 0), Is (PQ r 0), Is (PQ r 0), Is (v), Is (PQ r 0), Is (PQ r 0), Is (PQ r 1), Is (NI i), Is (NI most), Is (.tuple #[St (([] : List UInt8)), NI 0, NI 6]), Is (.tuple #[St (([] : List UInt8)), NI 0, NI 6]), Is (St (([] : List UInt8))), Is (NI 0), Is (NI 6), Is (St (([] : List UInt8))), Is (NI 0), Is (NI 6)] (by kernel_rfl) [9, 10, 11, 12, 13, 14, 15, 16, 17, 18, 8, 19, 20, 21, 5, 6, 7] (by kernel_rfl) (by kernel_rfl) (si5 (si12 trivial)) ?hs3001 ?hQ3001
  case hs3001 =>
   refine ⟨?_, ?_, ?_, ?_, ?_, ?_, ?_, ?_, ?_, ?_, ?_, ?_, ?_, ?_, ?_, ?_, ?_, trivial⟩
   ·refine stepN rfl fun σ w1 hC h => ?_
    have e0 := (eqo (h 0 (by decide))).trans T0
    exact Yk.move e0 ⟨Ext.refl _, rfl⟩
   ·refine stepN rfl fun σ w1 hC h => ?_
    have e9 := eqo (h 9 (by decide))
    exact Yk.nilCheck e9 ⟨Ext.refl _, rfl⟩
   ·refine stepN rfl fun σ w1 hC h => ?_
    have e10 := eqo (h 10 (by decide))
    exact Yk.fieldAt wr7_fo111_0 e10 ⟨Ext.refl _, rfl⟩
   ·refine stepN rfl fun σ w1 hC h => ?_
    have e11 := eqo (h 11 (by decide))
    exact Yk.cell1 wr7_ty26 rfl e11 (cellAt (eb hC hb) (show (rdC (rdX v b (i)))[0]? = some (v : Value) from rd_g0 (rdX v b (i)))) ⟨Ext.refl _, rfl⟩
   ·refine stepN rfl fun σ w1 hC h => ?_
    have e0 := (eqo (h 0 (by decide))).trans T0
    exact Yk.move e0 ⟨Ext.refl _, rfl⟩
   ·refine stepN rfl fun σ w1 hC h => ?_
    have e13 := eqo (h 13 (by decide))
    exact Yk.nilCheck e13 ⟨Ext.refl _, rfl⟩
   ·refine stepN rfl fun σ w1 hC h => ?_
    have e14 := eqo (h 14 (by decide))
    exact Yk.fieldAt wr7_fo111_1 e14 ⟨Ext.refl _, rfl⟩
   ·refine stepN rfl fun σ w1 hC h => ?_
    have e15 := eqo (h 15 (by decide))
    exact Yk.cell1 wr7_ty3 rfl e15 (cellAt (eb hC hb) (show (rdC (rdX v b (i)))[1]? = some (NI i : Value) from rd_g1 (rdX v b (i)))) ⟨Ext.refl _, rfl⟩
   ·refine stepN rfl fun σ w1 hC h => ?_
    have e1 := (eqo (h 1 (by decide))).trans T1
    exact Yk.move e1 ⟨Ext.refl _, rfl⟩
   ·refine stepN rfl fun σ w1 hC h => ?_
    have e12 := eqo (h 12 (by decide))
    have e16 := eqo (h 16 (by decide))
    have e17 := eqo (h 17 (by decide))
    refine Yk.callA3 wr7_pl146 e12 e16 e17 ?_
    refine ((show Calls _ _ _ _ (fun e w2 => e = .returned (.tuple #[St (([] : List UInt8)), NI 0, NI 6]) ∧ Ext _ w2) from (getText_in _ v b (hr.keep (hE.trans hC)) i hi ((most : Nat) : Int)).mono fun e w2 ⟨h1, h2⟩ => by subst h2; subst h1; refine ⟨?_, Ext.refl _⟩; unfold getTextRes; rw [hd]; simp only; rw [if_neg (by omega), if_pos hl2]; rfl)).mono ?_
    rintro e w2 ⟨rfl, hx⟩
    exact ⟨_, rfl, hx, rfl⟩
   ·refine stepN rfl fun σ w1 hC h => ?_
    have e18 := eqo (h 18 (by decide))
    exact Yk.move e18 ⟨Ext.refl _, rfl⟩
   ·refine stepN rfl fun σ w1 hC h => ?_
    have e8 := eqo (h 8 (by decide))
    exact Yk.extract (vs := [St (([] : List UInt8)), NI 0, NI 6]) e8 (show _ = some (St (([] : List UInt8)) : Value) from rfl) ⟨Ext.refl _, rfl⟩
   ·refine stepN rfl fun σ w1 hC h => ?_
    have e8 := eqo (h 8 (by decide))
    exact Yk.extract (vs := [St (([] : List UInt8)), NI 0, NI 6]) e8 (show _ = some (NI 0 : Value) from rfl) ⟨Ext.refl _, rfl⟩
   ·refine stepN rfl fun σ w1 hC h => ?_
    have e8 := eqo (h 8 (by decide))
    exact Yk.extract (vs := [St (([] : List UInt8)), NI 0, NI 6]) e8 (show _ = some (NI 6 : Value) from rfl) ⟨Ext.refl _, rfl⟩
   ·refine stepN rfl fun σ w1 hC h => ?_
    have e19 := eqo (h 19 (by decide))
    exact Yk.assign e19 ⟨Ext.refl _, rfl⟩
   ·refine stepN rfl fun σ w1 hC h => ?_
    have e20 := eqo (h 20 (by decide))
    exact Yk.assign e20 ⟨Ext.refl _, rfl⟩
   ·refine stepN rfl fun σ w1 hC h => ?_
    have e21 := eqo (h 21 (by decide))
    exact Yk.assign e21 ⟨Ext.refl _, rfl⟩
  intro ρ39 w40 hx41 he hf
  obtain ⟨-, -, -, -, -, -, -, -, -, -, -, -, -, -, k5, k6, k7, -⟩ := hf
  obtain ⟨T0, T1, T4, -⟩ := he.hold [(0, _), (1, _), (4, St (([] : List UInt8)))] ⟨T0, T1, rfl, trivial⟩ rfl
  clear he
  have hb := eb hx41 hb
  have hgr : w.grownBy w40 (some r) := grownBy_trans hgr hx41.grown (fun _ e => by cases e)
  have hE := hE.trans hx41
  have T5 : ρ39 5 = St (([] : List UInt8)) := k5
  have T6 : ρ39 6 = NI 0 := k6
  have T7 : ρ39 7 = NI 6 := k7
  clear k5 k6 k7
  refine tN (hK38 _ _ (sk fun K42 hK42 => (wt (oM rfl (oS rfl (Yk.eqI (a := (6 : Nat)) (b := (0 : Nat)) T7 rfl (k_eql _ _ _ _) (oP rfl (Yp.callA1 wr7_pl109 (vr (.bool (decide ((6 : Nat) = (0)))) rfl) ?_))))))))
  refine calls_either (needW_any _ (decide ((6 : Nat) = (0)))) ?_ ?_
  rotate_left
  ·
   rintro ch w45 ⟨rfl, hb, hx⟩
   refine thenF_panic (postP_panic ?_)
   have hno := of_decide_eq_false hb
   exact .inr ⟨_, rfl, hP, rfl, (grownBy_trans hgr hx.grown (fun _ e => by cases e))⟩
  rintro v_ w47 ⟨rfl, hb43, hx44⟩
  have hb := eb hx44 hb
  have hgr : w.grownBy w47 (some r) := grownBy_trans hgr hx44.grown (fun _ e => by cases e)
  have hE := hE.trans hx44
  have hn48 := of_decide_eq_true hb43
  refine oZ (tN (hK42 _ _ (sk fun K49 hK49 => (wt (oM rfl (oM rfl (oS rfl (Yk.nilCheck T0 (oS rfl (Yk.fieldAt wr7_fo111_1 (vr (PQ r 0) rfl) (oS rfl (Yk.storeC (i := 1) (v := NI 0) (vr (PQ r 1) rfl) T6 hb (by rw [rd_len]; decide) wr7_isz3 rfl rfl fun w50 hb51 hg52 hs53 => ?_))))))))))))
  clear hb
  have hgr : w.grownBy w50 (some r) := grownBy_trans hgr hg52 (fun _ e => .inl e)
  clear hE
  have hb : w50.heap[r]? = some (.cells (rdC ((⟨b, ((0 : Nat) : Int)⟩, ⟨v⟩) : RdV)).toArray 111 (0, 0)) := blk_eq hb51 (rd_s1 (rdX v b (i)) ((0 : Nat) : Int)); clear hb51
  have hl54 := bl hb
  refine oZ (tN (hK49 _ _ (sk fun K55 hK55 => (wt (oM rfl (oA rfl (oZ (tN (hK55 _ _ (wpF_ret (postP_ret (fn := Tryd.f113) _ rfl [St (([] : List UInt8))] (St (([] : List UInt8))) rfl ⟨T5, trivial⟩ ?_)))))))))))
  omega
 have hP : txtP b i most = some ((b.drop (i + xk)).take xn, i + xk + xn) := by unfold txtP; rw [hd]; exact (if_neg hm).trans (if_neg hl2)
 refine tN (hK1 _ _ (sk fun K56 hK56 => ?_))
 refine wpF_draw [Is (PQ r 0), Is (PQ r 0), Is (PQ r 0), Is (v), Is (PQ r 0), Is (PQ r 0), Is (PQ r 1), Is (NI i), Is (NI most), Is (.tuple #[St (((b.drop (i + xk)).take xn)), NI (i + xk + xn), NI 0]), Is (.tuple #[St (((b.drop (i + xk)).take xn)), NI (i + xk + xn), NI 0]), Is (St (((b.drop (i + xk)).take xn))), Is (NI (i + xk + xn)), Is (NI 0), Is (St (((b.drop (i + xk)).take xn))), Is (NI (i + xk + xn)), Is (NI 0)] (by kernel_rfl) [9, 10, 11, 12, 13, 14, 15, 16, 17, 18, 8, 19, 20, 21, 5, 6, 7] (by kernel_rfl) (by kernel_rfl) (si5 (si12 trivial)) ?hs4001 ?hQ4001
 case hs4001 =>
  refine ⟨?_, ?_, ?_, ?_, ?_, ?_, ?_, ?_, ?_, ?_, ?_, ?_, ?_, ?_, ?_, ?_, ?_, trivial⟩
  ·refine stepN rfl fun σ w1 hC h => ?_
   have e0 := (eqo (h 0 (by decide))).trans T0
   exact Yk.move e0 ⟨Ext.refl _, rfl⟩
  ·refine stepN rfl fun σ w1 hC h => ?_
   have e9 := eqo (h 9 (by decide))
   exact Yk.nilCheck e9 ⟨Ext.refl _, rfl⟩
  ·refine stepN rfl fun σ w1 hC h => ?_
   have e10 := eqo (h 10 (by decide))
   exact Yk.fieldAt wr7_fo111_0 e10 ⟨Ext.refl _, rfl⟩
  ·refine stepN rfl fun σ w1 hC h => ?_
   have e11 := eqo (h 11 (by decide))
   exact Yk.cell1 wr7_ty26 rfl e11 (cellAt (eb hC hb) (show (rdC (rdX v b (i)))[0]? = some (v : Value) from rd_g0 (rdX v b (i)))) ⟨Ext.refl _, rfl⟩
  ·refine stepN rfl fun σ w1 hC h => ?_
   have e0 := (eqo (h 0 (by decide))).trans T0
   exact Yk.move e0 ⟨Ext.refl _, rfl⟩
  ·refine stepN rfl fun σ w1 hC h => ?_
   have e13 := eqo (h 13 (by decide))
   exact Yk.nilCheck e13 ⟨Ext.refl _, rfl⟩
  ·refine stepN rfl fun σ w1 hC h => ?_
   have e14 := eqo (h 14 (by decide))
   exact Yk.fieldAt wr7_fo111_1 e14 ⟨Ext.refl _, rfl⟩
  ·refine stepN rfl fun σ w1 hC h => ?_
   have e15 := eqo (h 15 (by decide))
   exact Yk.cell1 wr7_ty3 rfl e15 (cellAt (eb hC hb) (show (rdC (rdX v b (i)))[1]? = some (NI i : Value) from rd_g1 (rdX v b (i)))) ⟨Ext.refl _, rfl⟩
  ·refine stepN rfl fun σ w1 hC h => ?_
   have e1 := (eqo (h 1 (by decide))).trans T1
   exact Yk.move e1 ⟨Ext.refl _, rfl⟩
  ·refine stepN rfl fun σ w1 hC h => ?_
   have e12 := eqo (h 12 (by decide))
   have e16 := eqo (h 16 (by decide))
   have e17 := eqo (h 17 (by decide))
   refine Yk.callA3 wr7_pl146 e12 e16 e17 ?_
   refine ((show Calls _ _ _ _ (fun e w2 => e = .returned (.tuple #[St (((b.drop (i + xk)).take xn)), NI (i + xk + xn), NI 0]) ∧ Ext _ w2) from (getText_in _ v b (hr.keep (hE.trans hC)) i hi ((most : Nat) : Int)).mono fun e w2 ⟨h1, h2⟩ => by subst h2; subst h1; refine ⟨?_, Ext.refl _⟩; unfold getTextRes; rw [hd]; simp only; rw [if_neg (by omega), if_neg hl2]; rfl)).mono ?_
   rintro e w2 ⟨rfl, hx⟩
   exact ⟨_, rfl, hx, rfl⟩
  ·refine stepN rfl fun σ w1 hC h => ?_
   have e18 := eqo (h 18 (by decide))
   exact Yk.move e18 ⟨Ext.refl _, rfl⟩
  ·refine stepN rfl fun σ w1 hC h => ?_
   have e8 := eqo (h 8 (by decide))
   exact Yk.extract (vs := [St (((b.drop (i + xk)).take xn)), NI (i + xk + xn), NI 0]) e8 (show _ = some (St (((b.drop (i + xk)).take xn)) : Value) from rfl) ⟨Ext.refl _, rfl⟩
  ·refine stepN rfl fun σ w1 hC h => ?_
   have e8 := eqo (h 8 (by decide))
   exact Yk.extract (vs := [St (((b.drop (i + xk)).take xn)), NI (i + xk + xn), NI 0]) e8 (show _ = some (NI (i + xk + xn) : Value) from rfl) ⟨Ext.refl _, rfl⟩
  ·refine stepN rfl fun σ w1 hC h => ?_
   have e8 := eqo (h 8 (by decide))
   exact Yk.extract (vs := [St (((b.drop (i + xk)).take xn)), NI (i + xk + xn), NI 0]) e8 (show _ = some (NI 0 : Value) from rfl) ⟨Ext.refl _, rfl⟩
  ·refine stepN rfl fun σ w1 hC h => ?_
   have e19 := eqo (h 19 (by decide))
   exact Yk.assign e19 ⟨Ext.refl _, rfl⟩
  ·refine stepN rfl fun σ w1 hC h => ?_
   have e20 := eqo (h 20 (by decide))
   exact Yk.assign e20 ⟨Ext.refl _, rfl⟩
  ·refine stepN rfl fun σ w1 hC h => ?_
   have e21 := eqo (h 21 (by decide))
   exact Yk.assign e21 ⟨Ext.refl _, rfl⟩
 intro ρ57 w58 hx59 he hf
 obtain ⟨-, -, -, -, -, -, -, -, -, -, -, -, -, -, k5, k6, k7, -⟩ := hf
 obtain ⟨T0, T1, T4, -⟩ := he.hold [(0, _), (1, _), (4, St (([] : List UInt8)))] ⟨T0, T1, rfl, trivial⟩ rfl
 clear he
 have hb := eb hx59 hb
 have hgr : w.grownBy w58 (some r) := grownBy_trans hgr hx59.grown (fun _ e => by cases e)
 have hE := hE.trans hx59
 have T5 : ρ57 5 = St (((b.drop (i + xk)).take xn)) := k5
 have T6 : ρ57 6 = NI (i + xk + xn) := k6
 have T7 : ρ57 7 = NI 0 := k7
 clear k5 k6 k7
 refine tN (hK56 _ _ (sk fun K60 hK60 => (wt (oM rfl (oS rfl (Yk.eqI (a := (0 : Nat)) (b := (0 : Nat)) T7 rfl (k_eql _ _ _ _) (oP rfl (Yp.callA1 wr7_pl109 (vr (.bool (decide ((0 : Nat) = (0)))) rfl) ?_))))))))
 refine calls_either (needW_any _ (decide ((0 : Nat) = (0)))) ?_ ?_
 rotate_left
 ·
  rintro ch w63 ⟨rfl, hb, hx⟩
  refine thenF_panic (postP_panic ?_)
  have hno := of_decide_eq_false hb
  exact absurd rfl hno
 rintro v_ w65 ⟨rfl, hb61, hx62⟩
 have hb := eb hx62 hb
 have hgr : w.grownBy w65 (some r) := grownBy_trans hgr hx62.grown (fun _ e => by cases e)
 have hE := hE.trans hx62
 have hn66 := of_decide_eq_true hb61
 refine oZ (tN (hK60 _ _ (sk fun K67 hK67 => (wt (oM rfl (oM rfl (oS rfl (Yk.nilCheck T0 (oS rfl (Yk.fieldAt wr7_fo111_1 (vr (PQ r 0) rfl) (oS rfl (Yk.storeC (i := 1) (v := NI (i + xk + xn)) (vr (PQ r 1) rfl) T6 hb (by rw [rd_len]; decide) wr7_isz3 rfl rfl fun w68 hb69 hg70 hs71 => ?_))))))))))))
 clear hb
 have hgr : w.grownBy w68 (some r) := grownBy_trans hgr hg70 (fun _ e => .inl e)
 clear hE
 have hb : w68.heap[r]? = some (.cells (rdC ((⟨b, ((i + xk + xn : Nat) : Int)⟩, ⟨v⟩) : RdV)).toArray 111 (0, 0)) := blk_eq hb69 (rd_s1 (rdX v b (i)) ((i + xk + xn : Nat) : Int)); clear hb69
 have hl72 := bl hb
 refine oZ (tN (hK67 _ _ (sk fun K73 hK73 => (wt (oM rfl (oA rfl (oZ (tN (hK73 _ _ (wpF_ret (postP_ret (fn := Tryd.f113) _ rfl [St (((b.drop (i + xk)).take xn))] (St (((b.drop (i + xk)).take xn))) rfl ⟨T5, trivial⟩ ?_)))))))))))
 exact .inl ⟨_, rfl, _, _, hP, rfl, hb, hgr⟩

theorem idW_any (w : World) (r : Nat) (v : Value) (b : Bs) (i : Nat) (hb : w.heap[r]? = some (.cells (rdC (rdX v b (i))).toArray 111 (0, 0))) (hr : RB w v b) (hap : b = [] ∨ OB v r) (hi : i ≤ b.length) (hl : b.length ≤ 4611686018427387904) :
  Calls Tryd.prog 114 #[PQ r 0] w fun e w' => (∃ x, e = .returned x ∧ ∃ c n, idP b i = some (c, n) ∧ x = AB c.1 ∧ w'.heap[r]? = some (.cells (rdC (rdX v b (n))).toArray 111 (0, 0)) ∧ w.grownBy w' (some r)) ∨ ∃ ch, e = .panicked ch ∧ idP b i = none ∧ ch = [stopW] ∧ w.grownBy w' (some r) := by
 have hlr := (bl hb)
 have hgr := World.grownBy.refl w (some r)
 refine calls_of_wpP (args := [PQ r 0]) Tryd.func114 rfl 27 rfl (Nat.le_of_ble_eq_true rfl) ?_
 intro ρ0 hb
 have T0 : ρ0 0 = (PQ r 0 : Value) := hb.get 0
 clear hb
 have hE := Ext.refl w
 refine sk fun K1 hK1 => (wt (oS rfl (Yk.alloc (cs := (Lib.byteCells (List.replicate 32 0)).toArray) wr7_al25 fun n2 w3 hn4 hb5 hx6 hs7 => ?_)))
 have hlt8 := lte (bl hb) hn4
 have hb := eb hx6 hb
 have hgr : w.grownBy w3 (some r) := grownBy_trans hgr hx6.grown (fun _ e => by cases e)
 have hE := hE.trans hx6
 have hb9 := hb5; clear hb5
 have hl10 : n2 < w3.heap.size := by omega
 refine oZ ?_
 by_cases hle : i + 32 ≤ b.length
 ·have hQ : ((b.drop i).take 32).length = 32 := by rw [List.length_take, List.length_drop]; omega
  have hP : idP b i = some (⟨(b.drop i).take 32, hQ⟩, i + 32) := dif_pos hle
  refine tN (hK1 _ _ (sk fun K11 hK11 => ?_))
  have hx12 : Ext w3 (World.drew w3) := (Below.refl _ _).drew
  have hb := eb hx12 hb
  have hgr : w.grownBy (World.drew w3) (some r) := grownBy_trans hgr hx12.grown (fun _ e => by cases e)
  have hE := hE.trans hx12
  have hb9 := eb hx12 hb9
  refine wpF_floatE [(0, 7, PQ r 0), (1, 8, PQ r 0), (2, 9, PQ r 0), (3, 10, v), (4, 11, PQ r 0), (5, 12, PQ r 0), (6, 13, PQ r 1), (7, 14, NI i), (8, 15, .tuple #[AB ((b.drop i).take 32), NI (i + 32), NI 0]), (9, 6, .tuple #[AB ((b.drop i).take 32), NI (i + 32), NI 0]), (10, 16, AB ((b.drop i).take 32)), (11, 17, NI (i + 32)), (12, 18, NI 0)] [13, 14, 15, 16] (fun wz => wz.heap[r]? = some (.cells (rdC (rdX v b (i))).toArray 111 (0, 0)) ∧ Ext w wz ∧ wz.heap[n2]? = some (.cells (Lib.byteCells (List.replicate 32 0)).toArray 25 (0, 0)) ∧ True) (fun _ _ ⟨hb, hE, hb9, _⟩ k => ⟨(eb k hb), (hE.trans k), (eb k hb9), trivial⟩) (by kernel_rfl) (by kernel_rfl) (by kernel_rfl) ⟨hb, hE, hb9, trivial⟩ ⟨fun w13 ⟨hb, hE, hb9, _⟩ => Yk.move T0 ⟨rfl, Ext.refl _⟩, fun w13 ⟨hb, hE, hb9, _⟩ => Yk.nilCheck (vr (PQ r 0) rfl) ⟨rfl, Ext.refl _⟩, fun w13 ⟨hb, hE, hb9, _⟩ => Yk.fieldAt wr7_fo111_0 (vr (PQ r 0) rfl) ⟨rfl, Ext.refl _⟩, fun w13 ⟨hb, hE, hb9, _⟩ => Yk.cell1 wr7_ty26 rfl (vr (PQ r 0) rfl) (cellAt hb (show (rdC (rdX v b (i)))[0]? = some (v : Value) from rd_g0 (rdX v b (i)))) ⟨rfl, Ext.refl _⟩, fun w13 ⟨hb, hE, hb9, _⟩ => Yk.move T0 ⟨rfl, Ext.refl _⟩, fun w13 ⟨hb, hE, hb9, _⟩ => Yk.nilCheck (vr (PQ r 0) rfl) ⟨rfl, Ext.refl _⟩, fun w13 ⟨hb, hE, hb9, _⟩ => Yk.fieldAt wr7_fo111_1 (vr (PQ r 0) rfl) ⟨rfl, Ext.refl _⟩, fun w13 ⟨hb, hE, hb9, _⟩ => Yk.cell1 wr7_ty3 rfl (vr (PQ r 1) rfl) (cellAt hb (show (rdC (rdX v b (i)))[1]? = some (NI i : Value) from rd_g1 (rdX v b (i)))) ⟨rfl, Ext.refl _⟩, fun w13 ⟨hb, hE, hb9, _⟩ => Yk.callA2 wr7_pl147 (vr v rfl) (vr (NI i) rfl) (((show Calls _ _ _ _ (fun e w2 => e = .returned (.tuple #[AB ((b.drop i).take 32), NI (i + 32), NI 0]) ∧ Ext _ w2) from (getId_in _ v b (hr.keep hE) i hi).mono fun e w2 ⟨h1, h2⟩ => by subst h1; refine ⟨?_, h2⟩; unfold getIdRes; rw [if_neg (by omega)]; rfl)).mono (by rintro e w2 ⟨rfl, hx⟩; exact ⟨_, rfl, rfl, hx⟩)), fun w13 ⟨hb, hE, hb9, _⟩ => Yk.move (vr (.tuple #[AB ((b.drop i).take 32), NI (i + 32), NI 0]) rfl) ⟨rfl, Ext.refl _⟩, fun w13 ⟨hb, hE, hb9, _⟩ => Yk.extract (vs := [AB ((b.drop i).take 32), NI (i + 32), NI 0]) (vr (.tuple #[AB ((b.drop i).take 32), NI (i + 32), NI 0]) rfl) (show _ = some (AB ((b.drop i).take 32) : Value) from rfl) ⟨rfl, Ext.refl _⟩, fun w13 ⟨hb, hE, hb9, _⟩ => Yk.extract (vs := [AB ((b.drop i).take 32), NI (i + 32), NI 0]) (vr (.tuple #[AB ((b.drop i).take 32), NI (i + 32), NI 0]) rfl) (show _ = some (NI (i + 32) : Value) from rfl) ⟨rfl, Ext.refl _⟩, fun w13 ⟨hb, hE, hb9, _⟩ => Yk.extract (vs := [AB ((b.drop i).take 32), NI (i + 32), NI 0]) (vr (.tuple #[AB ((b.drop i).take 32), NI (i + 32), NI 0]) rfl) (show _ = some (NI 0 : Value) from rfl) ⟨rfl, Ext.refl _⟩, trivial⟩ ?_
  refine chX_step rfl fun w15 hx16 => ?_
  have hb := eb hx16 hb
  have hgr : w.grownBy w15 (some r) := grownBy_trans hgr hx16.grown (fun _ e => by cases e)
  have hE := hE.trans hx16
  have hb9 := eb hx16 hb9
  refine chX_go (Yk.alloc (cs := (Lib.byteCells (List.replicate 32 0)).toArray) wr7_al25 fun n17 w18 hn19 hb20 hx21 hs22 => ?_)
  have hA23 := Ext.refl w15
  have hea24 := hE
  have hz25 := hE.size
  have hlt26 := lte (bl hb) hn19
  have hlt27 := lte (bl hb9) hn19
  have hb := eb hx21 hb
  have hgr : w.grownBy w18 (some r) := grownBy_trans hgr hx21.grown (fun _ e => by cases e)
  have hE := hE.trans hx21
  have hb9 := eb hx21 hb9
  have hA23 := hA23.trans hx21
  have hb28 := hb20; clear hb20
  have hl29 : n17 < w18.heap.size := by omega
  refine ⟨.inr ⟨hb, hE, hb9, trivial⟩, ?_⟩
  refine chX_step rfl fun w30 hx31 => ?_
  have hb := eb hx31 hb
  have hgr : w.grownBy w30 (some r) := grownBy_trans hgr hx31.grown (fun _ e => by cases e)
  have hE := hE.trans hx31
  have hb9 := eb hx31 hb9
  have hA23 := hA23.trans hx31
  have hb28 := eb hx31 hb28
  refine chX_go (Yk.storeAll (vr (PQ n17 0) rfl) (vr (AB ((b.drop i).take 32)) rfl) hb28 (by exact idsize hQ List.length_replicate) (by exact sizeId_of hQ) (byteCells_one _) fun w32 hb33 hg34 hs35 => ?_)
  have hb := kb hg34 hb (by omega)
  have hgr : w.grownBy w32 (some r) := grownBy_trans hgr hg34 (fun _ e => .inr (by cases e; omega))
  have hE := row_fresh hE hg34 (Nat.le_trans hz25 (by omega))
  have hb9 := kb hg34 hb9 (by omega)
  have hA23 := row_fresh hA23 hg34 (Nat.le_trans (Nat.le_refl _) (by omega))
  clear hb28
  have hb28 := hb33; clear hb33
  have hl36 := bl hb28
  refine ⟨.inr ⟨hb, hE, hb9, trivial⟩, ?_⟩
  refine chX_step rfl fun w37 hx38 => ?_
  have hb := eb hx38 hb
  have hgr : w.grownBy w37 (some r) := grownBy_trans hgr hx38.grown (fun _ e => by cases e)
  have hE := hE.trans hx38
  have hb9 := eb hx38 hb9
  have hA23 := hA23.trans hx38
  have hb28 := eb hx38 hb28
  refine chX_go (Yk.assign (vr (NI (i + 32)) rfl) ?_)
  refine ⟨.inr ⟨hb, hE, hb9, trivial⟩, ?_⟩
  refine chX_step rfl fun w39 hx40 => ?_
  have hb := eb hx40 hb
  have hgr : w.grownBy w39 (some r) := grownBy_trans hgr hx40.grown (fun _ e => by cases e)
  have hE := hE.trans hx40
  have hb9 := eb hx40 hb9
  have hA23 := hA23.trans hx40
  have hb28 := eb hx40 hb28
  refine chX_go (Yk.assign (vr (NI 0) rfl) ?_)
  refine ⟨.inl rfl, ?_⟩
  refine chX_nil (tN (hK11 _ _ (sk fun K41 hK41 => (wt (oM rfl (oS rfl (Yk.eqI (a := (0 : Nat)) (b := (0 : Nat)) rfl rfl (k_eql _ _ _ _) (oP rfl (Yp.callA1 wr7_pl109 (vr (.bool (decide ((0 : Nat) = (0)))) rfl) ?_)))))))))
  refine calls_either (needW_any _ (decide ((0 : Nat) = (0)))) ?_ ?_
  rotate_left
  ·
   rintro ch w44 ⟨rfl, hb, hx⟩
   refine thenF_panic (postP_panic ?_)
   have hno := of_decide_eq_false hb
   exact absurd rfl hno
  rintro v_ w46 ⟨rfl, hb42, hx43⟩
  have hb := eb hx43 hb
  have hgr : w.grownBy w46 (some r) := grownBy_trans hgr hx43.grown (fun _ e => by cases e)
  have hE := hE.trans hx43
  have hb9 := eb hx43 hb9
  have hA23 := hA23.trans hx43
  have hb28 := eb hx43 hb28
  have hn47 := of_decide_eq_true hb42
  refine oZ (tN (hK41 _ _ (sk fun K48 hK48 => (wt (oM rfl (oM rfl (oS rfl (Yk.nilCheck T0 (oS rfl (Yk.fieldAt wr7_fo111_1 (vr (PQ r 0) rfl) (oS rfl (Yk.storeC (i := 1) (v := NI (i + 32)) (vr (PQ r 1) rfl) (vr (NI (i + 32)) rfl) hb (by rw [rd_len]; decide) wr7_isz3 rfl rfl fun w49 hb50 hg51 hs52 => ?_))))))))))))
  clear hb
  have hgr : w.grownBy w49 (some r) := grownBy_trans hgr hg51 (fun _ e => .inl e)
  clear hE
  have hb9 := kb hg51 hb9 (by omega)
  clear hA23
  have hb28 := kb hg51 hb28 (by omega)
  have hb : w49.heap[r]? = some (.cells (rdC ((⟨b, ((i + 32 : Nat) : Int)⟩, ⟨v⟩) : RdV)).toArray 111 (0, 0)) := blk_eq hb50 (rd_s1 (rdX v b (i)) ((i + 32 : Nat) : Int)); clear hb50
  have hl53 := bl hb
  refine oZ (tN (hK48 _ _ (sk fun K54 hK54 => (wt (oS rfl (Yk.loadAll (vr (PQ n17 0) rfl) hb28 wr7_ty25 rfl (by exact sizeId_of hQ) (oS rfl (Yk.storeAll (vr (PQ n2 0) rfl) (vr (AB ((b.drop i).take 32)) rfl) hb9 (by exact idsize hQ List.length_replicate) (by exact sizeId_of hQ) (byteCells_one _) fun w55 hb56 hg57 hs58 => ?_))))))))
  have hgr : w.grownBy w55 (some r) := grownBy_trans hgr hg57 (fun _ e => .inr (by cases e; omega))
  clear hb9
  have hb28 := kb hg57 hb28 (by omega)
  have hb := kb hg57 hb (by omega)
  have hb9 := hb56; clear hb56
  have hl59 := bl hb9
  refine oZ (tN (hK54 _ _ (wpF_ret (postP_ret (fn := Tryd.f114) _ rfl [AB ((b.drop i).take 32)] (AB ((b.drop i).take 32)) rfl ⟨ResF.row rfl hb9 wr7_ty25 rfl (by exact sizeId_of hQ), trivial⟩ ?_))))
  exact .inl ⟨_, rfl, _, _, hP, rfl, hb, hgr⟩
 have hP : idP b i = none := dif_neg hle
 refine tN (hK1 _ _ (sk fun K60 hK60 => ?_))
 have hx61 : Ext w3 (World.drew w3) := (Below.refl _ _).drew
 have hb := eb hx61 hb
 have hgr : w.grownBy (World.drew w3) (some r) := grownBy_trans hgr hx61.grown (fun _ e => by cases e)
 have hE := hE.trans hx61
 have hb9 := eb hx61 hb9
 refine wpF_floatE [(0, 7, PQ r 0), (1, 8, PQ r 0), (2, 9, PQ r 0), (3, 10, v), (4, 11, PQ r 0), (5, 12, PQ r 0), (6, 13, PQ r 1), (7, 14, NI i), (8, 15, .tuple #[AB zero32, NI 0, NI 6]), (9, 6, .tuple #[AB zero32, NI 0, NI 6]), (10, 16, AB zero32), (11, 17, NI 0), (12, 18, NI 6)] [13, 14, 15, 16] (fun wz => wz.heap[r]? = some (.cells (rdC (rdX v b (i))).toArray 111 (0, 0)) ∧ Ext w wz ∧ wz.heap[n2]? = some (.cells (Lib.byteCells (List.replicate 32 0)).toArray 25 (0, 0)) ∧ True) (fun _ _ ⟨hb, hE, hb9, _⟩ k => ⟨(eb k hb), (hE.trans k), (eb k hb9), trivial⟩) (by kernel_rfl) (by kernel_rfl) (by kernel_rfl) ⟨hb, hE, hb9, trivial⟩ ⟨fun w62 ⟨hb, hE, hb9, _⟩ => Yk.move T0 ⟨rfl, Ext.refl _⟩, fun w62 ⟨hb, hE, hb9, _⟩ => Yk.nilCheck (vr (PQ r 0) rfl) ⟨rfl, Ext.refl _⟩, fun w62 ⟨hb, hE, hb9, _⟩ => Yk.fieldAt wr7_fo111_0 (vr (PQ r 0) rfl) ⟨rfl, Ext.refl _⟩, fun w62 ⟨hb, hE, hb9, _⟩ => Yk.cell1 wr7_ty26 rfl (vr (PQ r 0) rfl) (cellAt hb (show (rdC (rdX v b (i)))[0]? = some (v : Value) from rd_g0 (rdX v b (i)))) ⟨rfl, Ext.refl _⟩, fun w62 ⟨hb, hE, hb9, _⟩ => Yk.move T0 ⟨rfl, Ext.refl _⟩, fun w62 ⟨hb, hE, hb9, _⟩ => Yk.nilCheck (vr (PQ r 0) rfl) ⟨rfl, Ext.refl _⟩, fun w62 ⟨hb, hE, hb9, _⟩ => Yk.fieldAt wr7_fo111_1 (vr (PQ r 0) rfl) ⟨rfl, Ext.refl _⟩, fun w62 ⟨hb, hE, hb9, _⟩ => Yk.cell1 wr7_ty3 rfl (vr (PQ r 1) rfl) (cellAt hb (show (rdC (rdX v b (i)))[1]? = some (NI i : Value) from rd_g1 (rdX v b (i)))) ⟨rfl, Ext.refl _⟩, fun w62 ⟨hb, hE, hb9, _⟩ => Yk.callA2 wr7_pl147 (vr v rfl) (vr (NI i) rfl) (((show Calls _ _ _ _ (fun e w2 => e = .returned (.tuple #[AB zero32, NI 0, NI 6]) ∧ Ext _ w2) from (getId_in _ v b (hr.keep hE) i hi).mono fun e w2 ⟨h1, h2⟩ => by subst h1; refine ⟨?_, h2⟩; unfold getIdRes; rw [if_pos (by omega)]; rfl)).mono (by rintro e w2 ⟨rfl, hx⟩; exact ⟨_, rfl, rfl, hx⟩)), fun w62 ⟨hb, hE, hb9, _⟩ => Yk.move (vr (.tuple #[AB zero32, NI 0, NI 6]) rfl) ⟨rfl, Ext.refl _⟩, fun w62 ⟨hb, hE, hb9, _⟩ => Yk.extract (vs := [AB zero32, NI 0, NI 6]) (vr (.tuple #[AB zero32, NI 0, NI 6]) rfl) (show _ = some (AB zero32 : Value) from rfl) ⟨rfl, Ext.refl _⟩, fun w62 ⟨hb, hE, hb9, _⟩ => Yk.extract (vs := [AB zero32, NI 0, NI 6]) (vr (.tuple #[AB zero32, NI 0, NI 6]) rfl) (show _ = some (NI 0 : Value) from rfl) ⟨rfl, Ext.refl _⟩, fun w62 ⟨hb, hE, hb9, _⟩ => Yk.extract (vs := [AB zero32, NI 0, NI 6]) (vr (.tuple #[AB zero32, NI 0, NI 6]) rfl) (show _ = some (NI 6 : Value) from rfl) ⟨rfl, Ext.refl _⟩, trivial⟩ ?_
 refine chX_step rfl fun w64 hx65 => ?_
 have hb := eb hx65 hb
 have hgr : w.grownBy w64 (some r) := grownBy_trans hgr hx65.grown (fun _ e => by cases e)
 have hE := hE.trans hx65
 have hb9 := eb hx65 hb9
 refine chX_go (Yk.alloc (cs := (Lib.byteCells (List.replicate 32 0)).toArray) wr7_al25 fun n66 w67 hn68 hb69 hx70 hs71 => ?_)
 have hA72 := Ext.refl w64
 have hea73 := hE
 have hz74 := hE.size
 have hlt75 := lte (bl hb) hn68
 have hlt76 := lte (bl hb9) hn68
 have hb := eb hx70 hb
 have hgr : w.grownBy w67 (some r) := grownBy_trans hgr hx70.grown (fun _ e => by cases e)
 have hE := hE.trans hx70
 have hb9 := eb hx70 hb9
 have hA72 := hA72.trans hx70
 have hb77 := hb69; clear hb69
 have hl78 : n66 < w67.heap.size := by omega
 refine ⟨.inr ⟨hb, hE, hb9, trivial⟩, ?_⟩
 refine chX_step rfl fun w79 hx80 => ?_
 have hb := eb hx80 hb
 have hgr : w.grownBy w79 (some r) := grownBy_trans hgr hx80.grown (fun _ e => by cases e)
 have hE := hE.trans hx80
 have hb9 := eb hx80 hb9
 have hA72 := hA72.trans hx80
 have hb77 := eb hx80 hb77
 refine chX_go (Yk.storeAll (vr (PQ n66 0) rfl) (vr (AB zero32) rfl) hb77 (by exact idsize (by decide) List.length_replicate) (by exact sizeId_of (by decide)) (byteCells_one _) fun w81 hb82 hg83 hs84 => ?_)
 have hb := kb hg83 hb (by omega)
 have hgr : w.grownBy w81 (some r) := grownBy_trans hgr hg83 (fun _ e => .inr (by cases e; omega))
 have hE := row_fresh hE hg83 (Nat.le_trans hz74 (by omega))
 have hb9 := kb hg83 hb9 (by omega)
 have hA72 := row_fresh hA72 hg83 (Nat.le_trans (Nat.le_refl _) (by omega))
 clear hb77
 have hb77 := hb82; clear hb82
 have hl85 := bl hb77
 refine ⟨.inr ⟨hb, hE, hb9, trivial⟩, ?_⟩
 refine chX_step rfl fun w86 hx87 => ?_
 have hb := eb hx87 hb
 have hgr : w.grownBy w86 (some r) := grownBy_trans hgr hx87.grown (fun _ e => by cases e)
 have hE := hE.trans hx87
 have hb9 := eb hx87 hb9
 have hA72 := hA72.trans hx87
 have hb77 := eb hx87 hb77
 refine chX_go (Yk.assign (vr (NI 0) rfl) ?_)
 refine ⟨.inr ⟨hb, hE, hb9, trivial⟩, ?_⟩
 refine chX_step rfl fun w88 hx89 => ?_
 have hb := eb hx89 hb
 have hgr : w.grownBy w88 (some r) := grownBy_trans hgr hx89.grown (fun _ e => by cases e)
 have hE := hE.trans hx89
 have hb9 := eb hx89 hb9
 have hA72 := hA72.trans hx89
 have hb77 := eb hx89 hb77
 refine chX_go (Yk.assign (vr (NI 6) rfl) ?_)
 refine ⟨.inl rfl, ?_⟩
 refine chX_nil (tN (hK60 _ _ (sk fun K90 hK90 => (wt (oM rfl (oS rfl (Yk.eqI (a := (6 : Nat)) (b := (0 : Nat)) rfl rfl (k_eql _ _ _ _) (oP rfl (Yp.callA1 wr7_pl109 (vr (.bool (decide ((6 : Nat) = (0)))) rfl) ?_)))))))))
 refine calls_either (needW_any _ (decide ((6 : Nat) = (0)))) ?_ ?_
 rotate_left
 ·
  rintro ch w93 ⟨rfl, hb, hx⟩
  refine thenF_panic (postP_panic ?_)
  have hno := of_decide_eq_false hb
  exact .inr ⟨_, rfl, hP, rfl, (grownBy_trans hgr hx.grown (fun _ e => by cases e))⟩
 rintro v_ w95 ⟨rfl, hb91, hx92⟩
 have hb := eb hx92 hb
 have hgr : w.grownBy w95 (some r) := grownBy_trans hgr hx92.grown (fun _ e => by cases e)
 have hE := hE.trans hx92
 have hb9 := eb hx92 hb9
 have hA72 := hA72.trans hx92
 have hb77 := eb hx92 hb77
 have hn96 := of_decide_eq_true hb91
 refine oZ (tN (hK90 _ _ (sk fun K97 hK97 => (wt (oM rfl (oM rfl (oS rfl (Yk.nilCheck T0 (oS rfl (Yk.fieldAt wr7_fo111_1 (vr (PQ r 0) rfl) (oS rfl (Yk.storeC (i := 1) (v := NI 0) (vr (PQ r 1) rfl) (vr (NI 0) rfl) hb (by rw [rd_len]; decide) wr7_isz3 rfl rfl fun w98 hb99 hg100 hs101 => ?_))))))))))))
 clear hb
 have hgr : w.grownBy w98 (some r) := grownBy_trans hgr hg100 (fun _ e => .inl e)
 clear hE
 have hb9 := kb hg100 hb9 (by omega)
 clear hA72
 have hb77 := kb hg100 hb77 (by omega)
 have hb : w98.heap[r]? = some (.cells (rdC ((⟨b, ((0 : Nat) : Int)⟩, ⟨v⟩) : RdV)).toArray 111 (0, 0)) := blk_eq hb99 (rd_s1 (rdX v b (i)) ((0 : Nat) : Int)); clear hb99
 have hl102 := bl hb
 refine oZ (tN (hK97 _ _ (sk fun K103 hK103 => (wt (oS rfl (Yk.loadAll (vr (PQ n66 0) rfl) hb77 wr7_ty25 rfl (by exact sizeId_of (by decide)) (oS rfl (Yk.storeAll (vr (PQ n2 0) rfl) (vr (AB zero32) rfl) hb9 (by exact idsize (by decide) List.length_replicate) (by exact sizeId_of (by decide)) (byteCells_one _) fun w104 hb105 hg106 hs107 => ?_))))))))
 have hgr : w.grownBy w104 (some r) := grownBy_trans hgr hg106 (fun _ e => .inr (by cases e; omega))
 clear hb9
 have hb77 := kb hg106 hb77 (by omega)
 have hb := kb hg106 hb (by omega)
 have hb9 := hb105; clear hb105
 have hl108 := bl hb9
 refine oZ (tN (hK103 _ _ (wpF_ret (postP_ret (fn := Tryd.f114) _ rfl [AB zero32] (AB zero32) rfl ⟨ResF.row rfl hb9 wr7_ty25 rfl (by exact sizeId_of (by decide)), trivial⟩ ?_))))
 omega
end Go.Proofs.YtmonlobfofkbdaaDoor
