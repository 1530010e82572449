/- Part 5 of what stands behind these statements: laws and walks of the functions that are reached. Conditions: those that each theorem names. -/
import Derived.Test.YtmonlobfofkbdaaDoorP4
set_option linter.unusedVariables false
namespace Go.Proofs.YtmonlobfofkbdaaDoor
open Go.RowKit
set_option maxRecDepth 100000
structure MsgNew (n : Nat) (X : MsgV) : Prop where
 refs : ∀ k, Value.ownBlock X.2.refs = some k → n ≤ k
 wants : ∀ k, Value.ownBlock X.2.wants = some k → n ≤ k
 haves : ∀ k, Value.ownBlock X.2.haves = some k → n ≤ k
 bytes : ∀ k, Value.ownBlock X.2.bytes = some k → n ≤ k
theorem apartv_nil (v : Value) : ApartV (.slice none 0 0) v := fun k h => by cases h
theorem apartv_nil' (v : Value) : ApartV v (.slice none 0 0) := fun k _ h => by cases h
theorem wr11_al29 {d : Option Tmp} {ty : TypeId} {pos : String} {af : Array Edge} {gd : Option (Nat × Bool)} (σ : Operand → Value) (w : World) : (execOp σ ⟨d, .alloc 29, ty, pos, af, gd⟩).run Tryd.prog w = .ok (.value (PQ w.heap.size 0)) (w.alloc (.cells (msgC ((⟨0, 0, [], [], [], 0, 0, zid, [], [], zid, zid, false, 0⟩, ⟨.slice none 0 0, .slice none 0 0, .slice none 0 0, .slice none 0 0⟩) : MsgV)).toArray 29)) := by kernel_rfl
theorem wr11_ty109 : Tryd.prog.underlying 109 = some (.pointer 111) := by kernel_rfl
theorem wr11_pl108 : Plain Tryd.prog 108 := fun _ _ => by kernel_rfl
theorem wr11_fo29_0 : FieldOff Tryd.prog 29 0 0 := fun b o w => by simp [go_sem]
theorem wr11_isz5 : (Tryd.prog.info? 5).map (·.size) = some 1 := by kernel_rfl
theorem wr11_pl50 : Plain Tryd.prog 50 := fun _ _ => by kernel_rfl
theorem wr11_ty5 : Tryd.prog.underlying 5 = some (.int .u8) := by kernel_rfl
theorem wr11_ty93 : Tryd.prog.underlying 93 = some (.map 5 92) := by kernel_rfl
theorem wr11_al92 {d : Option Tmp} {ty : TypeId} {pos : String} {af : Array Edge} {gd : Option (Nat × Bool)} (σ : Operand → Value) (w : World) : (execOp σ ⟨d, .alloc 92, ty, pos, af, gd⟩).run Tryd.prog w = .ok (.value (PQ w.heap.size 0)) (w.alloc (.cells (partsC (⟨false, false, false, false, false, false, false, false⟩ : Parts)).toArray 92)) := by kernel_rfl
theorem wr11_isz92 : (Tryd.prog.info? 92).map (·.size) = some 8 := by kernel_rfl
theorem wr11_pl109 : Plain Tryd.prog 109 := fun _ _ => by kernel_rfl
theorem wr11_pl110 : Plain Tryd.prog 110 := fun _ _ => by kernel_rfl
theorem wr11_fo29_1 : FieldOff Tryd.prog 29 1 1 := fun b o w => by simp [go_sem]
theorem wr11_isz3 : (Tryd.prog.info? 3).map (·.size) = some 1 := by kernel_rfl
theorem wr11_fo92_0 : FieldOff Tryd.prog 92 0 0 := fun b o w => by simp [go_sem]
theorem wr11_ty4 : Tryd.prog.underlying 4 = some (.bool) := by kernel_rfl
theorem wr11_fo92_1 : FieldOff Tryd.prog 92 1 1 := fun b o w => by simp [go_sem]
theorem wr11_fo92_2 : FieldOff Tryd.prog 92 2 2 := fun b o w => by simp [go_sem]
theorem wr11_fo92_3 : FieldOff Tryd.prog 92 3 3 := fun b o w => by simp [go_sem]
theorem wr11_fo92_4 : FieldOff Tryd.prog 92 4 4 := fun b o w => by simp [go_sem]
theorem wr11_fo92_5 : FieldOff Tryd.prog 92 5 5 := fun b o w => by simp [go_sem]
theorem wr11_fo92_6 : FieldOff Tryd.prog 92 6 6 := fun b o w => by simp [go_sem]
theorem wr11_fo92_7 : FieldOff Tryd.prog 92 7 7 := fun b o w => by simp [go_sem]
theorem wr11_fo111_1 : FieldOff Tryd.prog 111 1 1 := fun b o w => by simp [go_sem]
theorem wr11_ty3 : Tryd.prog.underlying 3 = some (.int .i64) := by kernel_rfl
theorem wr11_fo111_0 : FieldOff Tryd.prog 111 0 0 := fun b o w => by simp [go_sem]
theorem wr11_ty26 : Tryd.prog.underlying 26 = some (.slice 5) := by kernel_rfl
theorem wr11_ty29 : ∃ fs, Tryd.prog.underlying 29 = some (.struct fs) := struct_of (by kernel_rfl)
theorem wr11_isz29 : (Tryd.prog.info? 29).map (·.size) = some 107 := by kernel_rfl
theorem wr11_pl19 : Plain Tryd.prog 19 := fun _ _ => by kernel_rfl
theorem wr11_pl111 : Plain Tryd.prog 111 := fun _ _ => by kernel_rfl
theorem wr11_fo29_5 : FieldOff Tryd.prog 29 5 5 := fun b o w => by simp [go_sem]
theorem wr11_pl114 : Plain Tryd.prog 114 := fun _ _ => by kernel_rfl
theorem wr11_fo29_7 : FieldOff Tryd.prog 29 7 7 := fun b o w => by simp [go_sem]
theorem wr11_isz25 : (Tryd.prog.info? 25).map (·.size) = some 32 := by kernel_rfl
theorem wr11_fo29_6 : FieldOff Tryd.prog 29 6 6 := fun b o w => by simp [go_sem]
theorem wr11_pl113 : Plain Tryd.prog 113 := fun _ _ => by kernel_rfl
theorem wr11_ty9 : Tryd.prog.underlying 9 = some (.string) := by kernel_rfl
theorem wr11_fo29_8 : FieldOff Tryd.prog 29 8 39 := fun b o w => by simp [go_sem]
theorem wr11_isz26 : (Tryd.prog.info? 26).map (·.size) = some 1 := by kernel_rfl
theorem wr11_fo29_9 : FieldOff Tryd.prog 29 9 40 := fun b o w => by simp [go_sem]
theorem wr11_isz9 : (Tryd.prog.info? 9).map (·.size) = some 1 := by kernel_rfl
theorem wr11_fo29_10 : FieldOff Tryd.prog 29 10 41 := fun b o w => by simp [go_sem]
theorem wr11_fo29_11 : FieldOff Tryd.prog 29 11 73 := fun b o w => by simp [go_sem]
theorem wr11_fo29_12 : FieldOff Tryd.prog 29 12 105 := fun b o w => by simp [go_sem]
theorem wr11_isz4 : (Tryd.prog.info? 4).map (·.size) = some 1 := by kernel_rfl
theorem wr11_fo29_13 : FieldOff Tryd.prog 29 13 106 := fun b o w => by simp [go_sem]
theorem wr11_isz27 : (Tryd.prog.info? 27).map (·.size) = some 1 := by kernel_rfl
set_option maxHeartbeats 3200000
theorem message_any {w0 w : World} {r : Nat} {v : Value} {b : Bs} (hE0 : Ext w0 w) (hb : w.heap[r]? = some (.cells (rdC (rdX v b (0))).toArray 111 (0, 0))) (hr : RB w0 v b) (lr : w0.heap.size ≤ r) (hl : b.length ≤ 4611686018427387904) :
  Calls Tryd.prog 67 #[PQ r 0] w fun e w' => (∃ x, e = .returned x ∧ ∃ X : MsgV, decP b = some X.1 ∧ x = .agg (msgC X).toArray ∧ MsgAt w' X ∧ MsgNew w0.heap.size X ∧ Ext w0 w') ∨ ∃ ch, e = .panicked ch ∧ decP b = none ∧ ch = [stopW] ∧ Ext w0 w' := by
 have hz0 := hE0.size
 have hlr := (bl hb)
 have hapr : b = [] ∨ OB v r := by
   rcases b with _ | ⟨b0, b1⟩
   ·exact .inl rfl
   ·exact .inr fun e => by have := RB.lt hr (by simp) e; omega
 refine calls_of_wpP (args := [PQ r 0]) Tryd.func67 rfl 95 rfl (Nat.le_of_ble_eq_true rfl) ?_
 intro ρ0 hb
 have T0 : ρ0 0 = (PQ r 0 : Value) := hb.get 0
 clear hb
 have hE := Ext.refl w
 refine sk fun K1 hK1 => (wt (oS rfl (Yk.box1 T0 rfl fun n2 w3 hn4 hb5 hx6 hs7 => ?_)))
 have hA8 := Ext.refl w
 have hea9 := hE
 have hea10 := hE0
 have hz11 := hE.size
 have hz12 := hE0.size
 have hlt13 := lte (bl hb) hn4
 have hE0 := hE0.trans hx6
 have hb := eb hx6 hb
 have hE := hE.trans hx6
 have hA8 := hA8.trans hx6
 have hb14 := hb5; clear hb5
 have hl15 : n2 < w3.heap.size := by omega
 refine oS rfl (Yk.alloc (cs := (msgC ((⟨0, 0, [], [], [], 0, 0, zid, [], [], zid, zid, false, 0⟩, ⟨.slice none 0 0, .slice none 0 0, .slice none 0 0, .slice none 0 0⟩) : MsgV)).toArray) wr11_al29 fun n16 w17 hn18 hb19 hx20 hs21 => ?_)
 have hA22 := Ext.refl w3
 have hea23 := hE
 have hea24 := hE0
 have hea25 := hA8
 have hz26 := hE.size
 have hz27 := hE0.size
 have hz28 := hA8.size
 have hlt29 := lte (bl hb) hn18
 have hlt30 := lte (bl hb14) hn18
 have hE0 := hE0.trans hx20
 have hb := eb hx20 hb
 have hE := hE.trans hx20
 have hA8 := hA8.trans hx20
 have hb14 := eb hx20 hb14
 have hA22 := hA22.trans hx20
 have hb31 := hb19; clear hb19
 have hl32 : n16 < w17.heap.size := by omega
 refine oZ (tN (hK1 _ _ (sk fun K33 hK33 => (wt (oS rfl (Yk.cell1 wr11_ty109 rfl (vr (PQ n2 0) rfl) (cellAt hb14 (show _ = some (PQ r 0 : Value) from rfl)) (oP rfl (Yp.callA1 wr11_pl108 (vr (PQ r 0) rfl) ?_))))))))
 refine calls_either (byte_any _ r v b 0 hb (hr.keep hE0) hapr (Nat.zero_le _) hl) ?_ ?_
 rotate_left
 ·
  rintro ch w36 ⟨hPx, rfl, hgx⟩
  refine thenF_panic (postP_panic ?_)
  exact .inr ⟨_, rfl, by unfold decP; rw [hPx]; rfl, rfl, (row_fresh hE0 hgx lr)⟩
 rintro v_ w38 ⟨c1, j1, hP1, rfl, hb34, hg35⟩
 have hE0 := row_fresh hE0 hg35 (Nat.le_trans (Nat.le_refl _) lr)
 clear hb
 clear hE
 clear hA8
 have hb14 := kb hg35 hb14 (by omega)
 clear hA22
 have hb31 := kb hg35 hb31 (by omega)
 have hb := hb34; clear hb34
 have hle_j1 := byteP_le hP1
 have hl39 := bl hb
 refine oS rfl (Yk.fieldAt wr11_fo29_0 (vr (PQ n16 0) rfl) (oS rfl (Yk.storeC (i := 0) (v := B8 (c1)) (vr (PQ n16 0) rfl) (vr (B8 (c1)) rfl) hb31 (by rw [msg_len]; decide) wr11_isz5 rfl rfl fun w40 hb41 hg42 hs43 => ?_)))
 have hE0 := row_fresh hE0 hg42 (Nat.le_trans hz27 (by omega))
 have hb14 := kb hg42 hb14 (by omega)
 clear hb31
 have hb := kb hg42 hb (by omega)
 have hb31 : w40.heap[n16]? = some (.cells (msgC ((⟨c1, 0, [], [], [], 0, 0, zid, [], [], zid, zid, false, 0⟩, ⟨(Value.slice none 0 0), (Value.slice none 0 0), (Value.slice none 0 0), (Value.slice none 0 0)⟩) : MsgV)).toArray 29 (0, 0)) := blk_eq hb41 (msg_s0 ((⟨0, 0, [], [], [], 0, 0, zid, [], [], zid, zid, false, 0⟩, ⟨.slice none 0 0, .slice none 0 0, .slice none 0 0, .slice none 0 0⟩) : MsgV) c1); clear hb41
 have hl44 := bl hb31
 refine oZ ?_
 rcases hK : kindsG c1 with _ | p
 ·refine tN (hK33 _ _ (sk fun K45 hK45 => ?_))
  have hA46 := Ext.refl w40
  have hea47 := hE0
  have hz48 := hE0.size
  have hlt49 : n2 < w40.heap.size := (bl hb14)
  have hlt50 : r < w40.heap.size := (bl hb)
  have hlt51 : n16 < w40.heap.size := (bl hb31)
  refine wpF_draw_newK 0 7 8 9 92 (partsC (⟨false, false, false, false, false, false, false, false⟩ : Parts)).toArray (partsC dParts).toArray [fun x w' => ∃ b, x = .map (some b) ∧ MapF B8 partsV (fun _ : UInt8 => True) w' b kindsG, Is (PQ n16 0), Is (B8 (c1)), Is (.tuple #[.agg (partsC dParts).toArray, .bool (false)]), Is (.tuple #[.agg (partsC dParts).toArray, .bool (false)]), Is (.agg (partsC dParts).toArray), Is (.bool (false)), RowK w40 92 8, (fun _ _ => True)] (by kernel_rfl) [10, 11, 12, 13, 9, 14, 15, 3, 4] (by kernel_rfl) (by kernel_rfl) (by kernel_rfl) (by kernel_rfl) rfl rfl (by kernel_rfl) rfl rfl rfl rfl rfl rfl rfl ⟨(fun _ _ _ ⟨b, h1, h2⟩ k => ⟨b, h1, MapF.stabK h2 k⟩), Stab.is _, Stab.is _, Stab.is _, Stab.is _, Stab.is _, Stab.is _, RowK.stab _ _ _, Stab.any, trivial⟩ rfl ?hs1002 ?hQ1002
  case hs1002 =>
   refine ⟨?_, ?_, ?_, ?_, ?_, ?_, ?_, ?_, ?_, ?_, trivial⟩
   ·refine stepFC (stepN rfl fun σ w1 hC h => ?_)
    have hC : Ext w40 w1 := hC
    refine Yk.callA0 wr11_pl50  ((kinds_any _).mono ?_)
    rintro e w2 ⟨b, rfl, hmk, hx, hom⟩
    exact ⟨_, rfl, ⟨hx, hom⟩, ⟨b, rfl, hmk⟩⟩
   ·refine stepFC (stepN rfl fun σ w1 hC h => ?_)
    have hC : Ext w40 w1 := hC
    have e2 : σ 2 = PQ n16 0 := (eqo (h 2 (by decide))).trans rfl
    exact Yk.fieldAt wr11_fo29_0 e2 ⟨rfl, rfl⟩
   ·refine stepFC (stepN rfl fun σ w1 hC h => ?_)
    have hC : Ext w40 w1 := hC
    have e11 := eqo (h 11 (by decide))
    exact Yk.cell1 wr11_ty5 rfl e11 (cellAt (eb hC hb31) (show (msgC ((⟨c1, 0, [], [], [], 0, 0, zid, [], [], zid, zid, false, 0⟩, ⟨(Value.slice none 0 0), (Value.slice none 0 0), (Value.slice none 0 0), (Value.slice none 0 0)⟩) : MsgV))[0]? = some (B8 (c1) : Value) from msg_g0 ((⟨c1, 0, [], [], [], 0, 0, zid, [], [], zid, zid, false, 0⟩, ⟨(Value.slice none 0 0), (Value.slice none 0 0), (Value.slice none 0 0), (Value.slice none 0 0)⟩) : MsgV))) ⟨rfl, rfl⟩
   ·refine stepFC (stepN rfl fun σ w1 hC h => ?_)
    have hC : Ext w40 w1 := hC
    have e10 : (fun x w' => ∃ b, x = .map (some b) ∧ MapF B8 partsV (fun _ : UInt8 => True) w' b kindsG) (σ 10) w1 := h 10 (by decide)
    have e12 := eqo (h 12 (by decide))
    obtain ⟨b6, k6, m6⟩ := (show ∃ b, σ 10 = .map (some b) ∧ MapF B8 partsV (fun _ : UInt8 => True) w1 b kindsG from e10)
    exact Yk.lookOkN (ek := B8) (ev := partsV) (D := fun _ : UInt8 => True) u8Law u8_ok (fun _ _ => b8_inj) wr11_ty93 (z := partsV dParts) zeroParts k6 e12 m6 trivial hK ⟨rfl, rfl⟩
   ·refine stepFC (stepN rfl fun σ w1 hC h => ?_)
    have hC : Ext w40 w1 := hC
    have e13 := eqo (h 13 (by decide))
    exact Yk.move e13 ⟨rfl, rfl⟩
   ·refine stepFC (stepN rfl fun σ w1 hC h => ?_)
    have hC : Ext w40 w1 := hC
    have e9 := eqo (h 9 (by decide))
    exact Yk.extract (vs := [.agg (partsC dParts).toArray, .bool (false)]) e9 (show _ = some (.agg (partsC dParts).toArray : Value) from rfl) ⟨rfl, rfl⟩
   ·refine stepFC (stepN rfl fun σ w1 hC h => ?_)
    have hC : Ext w40 w1 := hC
    have e9 := eqo (h 9 (by decide))
    exact Yk.extract (vs := [.agg (partsC dParts).toArray, .bool (false)]) e9 (show _ = some (.bool (false) : Value) from rfl) ⟨rfl, rfl⟩
   ·refine stepFC (stepN rfl fun σ w1 hC h => ?_)
    have hC : NoCells w40 w1 := hC
    exact Yk.allocX wr11_al92 ⟨⟨hC, rfl⟩, w1.heap.size, _, rfl, hC.1.size, heap_alloc_new _ _, rfl⟩
   ·refine stepFC (stepN rfl fun σ w1 hC h => ?_)
    have hC : OneCells w40 w1 := hC
    have e3 : (RowK w40 92 8) (σ 3) w1 := h 3 (by decide)
    have e14 := eqo (h 14 (by decide))
    obtain ⟨g, cs, h1, h2, h3, h4⟩ := e3
    exact Yk.storeAll h1 e14 (show _ = some (Obj.cells cs.toList.toArray 92 (0, 0)) by simpa using h3) (by rw [show cs.toList.toArray = cs by simp, h4]; rfl) (show (Tryd.prog.info? 92).map (·.size) = some 8 from wr11_isz92) (parts_one) fun w2 a b c => ⟨⟨hC, g, cs, h2, h3, (by rw [h4]; rfl), a, b, c⟩, trivial⟩
   ·exact trivial
  intro ρ52 w53 hx54 hun55 he hf
  obtain ⟨-, -, -, -, -, -, k15, k3, -⟩ := hf
  obtain ⟨T0, T1, T2, -⟩ := he.hold [(0, _), (1, PQ n2 0), (2, PQ n16 0)] ⟨T0, rfl, rfl, trivial⟩ rfl
  clear he
  have hE0 := hE0.trans hx54
  have hb14 := eb hx54 hb14
  have hb := eb hx54 hb
  have hb31 := eb hx54 hb31
  have hA46 := hA46.trans hx54
  obtain ⟨n56, cs_, T3, hn58, hb59, hz60⟩ := (show (RowK w40 92 8) (ρ52 3) w53 from k3)
  obtain rfl := hun55 n56 cs_ _ _ hn58 hb59
  clear k3
  have hl61 := bl hb59
  have T15 : ρ52 15 = .bool (false) := k15
  clear k15
  refine oA rfl (oZ (tN (hK45 _ _ (sk fun K62 hK62 => (wt (oM rfl (oP rfl (Yp.callA1 wr11_pl109 T15 ?_))))))))
  refine calls_either (needW_any _ (false)) ?_ ?_
  rotate_left
  ·
   rintro ch w65 ⟨rfl, hb, hx⟩
   refine thenF_panic (postP_panic ?_)
   exact .inr ⟨_, rfl, by unfold decP; simp [hP1, hK], rfl, hE0.trans hx⟩
  rintro v_ w67 ⟨rfl, hb63, hx64⟩
  cases hb63
 refine tN (hK33 _ _ (sk fun K68 hK68 => ?_))
 have hA69 := Ext.refl w40
 have hea70 := hE0
 have hz71 := hE0.size
 have hlt72 : n2 < w40.heap.size := (bl hb14)
 have hlt73 : r < w40.heap.size := (bl hb)
 have hlt74 : n16 < w40.heap.size := (bl hb31)
 refine wpF_draw_newK 0 7 8 9 92 (partsC (⟨false, false, false, false, false, false, false, false⟩ : Parts)).toArray (partsC p).toArray [fun x w' => ∃ b, x = .map (some b) ∧ MapF B8 partsV (fun _ : UInt8 => True) w' b kindsG, Is (PQ n16 0), Is (B8 (c1)), Is (.tuple #[.agg (partsC p).toArray, .bool (true)]), Is (.tuple #[.agg (partsC p).toArray, .bool (true)]), Is (.agg (partsC p).toArray), Is (.bool (true)), RowK w40 92 8, (fun _ _ => True)] (by kernel_rfl) [10, 11, 12, 13, 9, 14, 15, 3, 4] (by kernel_rfl) (by kernel_rfl) (by kernel_rfl) (by kernel_rfl) rfl rfl (by kernel_rfl) rfl rfl rfl rfl rfl rfl rfl ⟨(fun _ _ _ ⟨b, h1, h2⟩ k => ⟨b, h1, MapF.stabK h2 k⟩), Stab.is _, Stab.is _, Stab.is _, Stab.is _, Stab.is _, Stab.is _, RowK.stab _ _ _, Stab.any, trivial⟩ rfl ?hs2002 ?hQ2002
 case hs2002 =>
  refine ⟨?_, ?_, ?_, ?_, ?_, ?_, ?_, ?_, ?_, ?_, trivial⟩
  ·refine stepFC (stepN rfl fun σ w1 hC h => ?_)
   have hC : Ext w40 w1 := hC
   refine Yk.callA0 wr11_pl50  ((kinds_any _).mono ?_)
   rintro e w2 ⟨b, rfl, hmk, hx, hom⟩
   exact ⟨_, rfl, ⟨hx, hom⟩, ⟨b, rfl, hmk⟩⟩
  ·refine stepFC (stepN rfl fun σ w1 hC h => ?_)
   have hC : Ext w40 w1 := hC
   have e2 : σ 2 = PQ n16 0 := (eqo (h 2 (by decide))).trans rfl
   exact Yk.fieldAt wr11_fo29_0 e2 ⟨rfl, rfl⟩
  ·refine stepFC (stepN rfl fun σ w1 hC h => ?_)
   have hC : Ext w40 w1 := hC
   have e11 := eqo (h 11 (by decide))
   exact Yk.cell1 wr11_ty5 rfl e11 (cellAt (eb hC hb31) (show (msgC ((⟨c1, 0, [], [], [], 0, 0, zid, [], [], zid, zid, false, 0⟩, ⟨(Value.slice none 0 0), (Value.slice none 0 0), (Value.slice none 0 0), (Value.slice none 0 0)⟩) : MsgV))[0]? = some (B8 (c1) : Value) from msg_g0 ((⟨c1, 0, [], [], [], 0, 0, zid, [], [], zid, zid, false, 0⟩, ⟨(Value.slice none 0 0), (Value.slice none 0 0), (Value.slice none 0 0), (Value.slice none 0 0)⟩) : MsgV))) ⟨rfl, rfl⟩
  ·refine stepFC (stepN rfl fun σ w1 hC h => ?_)
   have hC : Ext w40 w1 := hC
   have e10 : (fun x w' => ∃ b, x = .map (some b) ∧ MapF B8 partsV (fun _ : UInt8 => True) w' b kindsG) (σ 10) w1 := h 10 (by decide)
   have e12 := eqo (h 12 (by decide))
   obtain ⟨b6, k6, m6⟩ := (show ∃ b, σ 10 = .map (some b) ∧ MapF B8 partsV (fun _ : UInt8 => True) w1 b kindsG from e10)
   exact Yk.lookOkS (ek := B8) (ev := partsV) (D := fun _ : UInt8 => True) u8Law u8_ok (fun _ _ => b8_inj) wr11_ty93 (z := partsV dParts) zeroParts k6 e12 m6 trivial hK ⟨rfl, rfl⟩
  ·refine stepFC (stepN rfl fun σ w1 hC h => ?_)
   have hC : Ext w40 w1 := hC
   have e13 := eqo (h 13 (by decide))
   exact Yk.move e13 ⟨rfl, rfl⟩
  ·refine stepFC (stepN rfl fun σ w1 hC h => ?_)
   have hC : Ext w40 w1 := hC
   have e9 := eqo (h 9 (by decide))
   exact Yk.extract (vs := [.agg (partsC p).toArray, .bool (true)]) e9 (show _ = some (.agg (partsC p).toArray : Value) from rfl) ⟨rfl, rfl⟩
  ·refine stepFC (stepN rfl fun σ w1 hC h => ?_)
   have hC : Ext w40 w1 := hC
   have e9 := eqo (h 9 (by decide))
   exact Yk.extract (vs := [.agg (partsC p).toArray, .bool (true)]) e9 (show _ = some (.bool (true) : Value) from rfl) ⟨rfl, rfl⟩
  ·refine stepFC (stepN rfl fun σ w1 hC h => ?_)
   have hC : NoCells w40 w1 := hC
   exact Yk.allocX wr11_al92 ⟨⟨hC, rfl⟩, w1.heap.size, _, rfl, hC.1.size, heap_alloc_new _ _, rfl⟩
  ·refine stepFC (stepN rfl fun σ w1 hC h => ?_)
   have hC : OneCells w40 w1 := hC
   have e3 : (RowK w40 92 8) (σ 3) w1 := h 3 (by decide)
   have e14 := eqo (h 14 (by decide))
   obtain ⟨g, cs, h1, h2, h3, h4⟩ := e3
   exact Yk.storeAll h1 e14 (show _ = some (Obj.cells cs.toList.toArray 92 (0, 0)) by simpa using h3) (by rw [show cs.toList.toArray = cs by simp, h4]; rfl) (show (Tryd.prog.info? 92).map (·.size) = some 8 from wr11_isz92) (parts_one) fun w2 a b c => ⟨⟨hC, g, cs, h2, h3, (by rw [h4]; rfl), a, b, c⟩, trivial⟩
  ·exact trivial
 intro ρ75 w76 hx77 hun78 he hf
 obtain ⟨-, -, -, -, -, -, k15, k3, -⟩ := hf
 obtain ⟨T0, T1, T2, -⟩ := he.hold [(0, _), (1, PQ n2 0), (2, PQ n16 0)] ⟨T0, rfl, rfl, trivial⟩ rfl
 clear he
 have hE0 := hE0.trans hx77
 have hb14 := eb hx77 hb14
 have hb := eb hx77 hb
 have hb31 := eb hx77 hb31
 have hA69 := hA69.trans hx77
 obtain ⟨n79, cs_, T3, hn81, hb82, hz83⟩ := (show (RowK w40 92 8) (ρ75 3) w76 from k3)
 obtain rfl := hun78 n79 cs_ _ _ hn81 hb82
 clear k3
 have hl84 := bl hb82
 have T15 : ρ75 15 = .bool (true) := k15
 clear k15
 refine oA rfl (oZ (tN (hK68 _ _ (sk fun K85 hK85 => (wt (oM rfl (oP rfl (Yp.callA1 wr11_pl109 T15 ?_))))))))
 refine calls_either (needW_any _ (true)) ?_ ?_
 rotate_left
 ·
  rintro ch w88 ⟨rfl, hb, hx⟩
  refine thenF_panic (postP_panic ?_)
  cases hb
 rintro v_ w90 ⟨rfl, hb86, hx87⟩
 have hE0 := hE0.trans hx87
 have hb14 := eb hx87 hb14
 have hb := eb hx87 hb
 have hb31 := eb hx87 hb31
 have hA69 := hA69.trans hx87
 have hb82 := eb hx87 hb82
 refine oZ (tN (hK85 _ _ (sk fun K91 hK91 => (wt (oS rfl (Yk.cell1 wr11_ty109 rfl T1 (cellAt hb14 (show _ = some (PQ r 0 : Value) from rfl)) (oP rfl (Yp.callA1 wr11_pl110 (vr (PQ r 0) rfl) ?_))))))))
 refine calls_either (numberW_any _ r v b j1 hb (hr.keep hE0) hapr hle_j1 hl) ?_ ?_
 rotate_left
 ·
  rintro ch w94 ⟨hPx, rfl, hgx⟩
  refine thenF_panic (postP_panic ?_)
  exact .inr ⟨_, rfl, by unfold decP; simp [hP1, hPx], rfl, (row_fresh hE0 hgx lr)⟩
 rintro v_ w96 ⟨c2, j2, hP2, rfl, hb92, hg93⟩
 have hE0 := row_fresh hE0 hg93 (Nat.le_trans (Nat.le_refl _) lr)
 have hb14 := kb hg93 hb14 (by omega)
 clear hb
 have hb31 := kb hg93 hb31 (by omega)
 clear hA69
 have hb82 := kb hg93 hb82 (by omega)
 have hb := hb92; clear hb92
 have hle_j2 := numP_le hle_j1 hP2
 have hl97 := bl hb
 refine oS rfl (Yk.fieldAt wr11_fo29_1 T2 (oS rfl (Yk.storeC (i := 1) (v := NI c2) (vr (PQ n16 1) rfl) (vr (NI c2) rfl) hb31 (by rw [msg_len]; decide) wr11_isz3 rfl rfl fun w98 hb99 hg100 hs101 => ?_)))
 have hE0 := row_fresh hE0 hg100 (Nat.le_trans hz27 (by omega))
 have hb14 := kb hg100 hb14 (by omega)
 clear hb31
 have hb82 := kb hg100 hb82 (by omega)
 have hb := kb hg100 hb (by omega)
 have hb31 : w98.heap[n16]? = some (.cells (msgC ((⟨c1, ((c2 : Nat) : Int), [], [], [], 0, 0, zid, [], [], zid, zid, false, 0⟩, ⟨(Value.slice none 0 0), (Value.slice none 0 0), (Value.slice none 0 0), (Value.slice none 0 0)⟩) : MsgV)).toArray 29 (0, 0)) := blk_eq hb99 (msg_s1 ((⟨c1, 0, [], [], [], 0, 0, zid, [], [], zid, zid, false, 0⟩, ⟨(Value.slice none 0 0), (Value.slice none 0 0), (Value.slice none 0 0), (Value.slice none 0 0)⟩) : MsgV) ((c2 : Nat) : Int)); clear hb99
 have hl102 := bl hb31
 refine oZ ?_
 rcases kindsG_cases hK with ⟨hk, rfl⟩ | ⟨hk, rfl⟩ | ⟨hk, rfl⟩ | ⟨hk, rfl⟩ | ⟨hk, rfl⟩ | ⟨hk, rfl⟩ | ⟨hk, rfl⟩ | ⟨hk, rfl⟩
 ·have hD := decP_eq hP1 hK hP2
  rw [restP1 (m := (⟨c1, ((c2 : Nat) : Int), [], [], [], 0, 0, zid, [], [], zid, zid, false, 0⟩ : Msg)) hk] at hD
  refine tN (hK91 _ _ (sk fun K103 hK103 => (sk fun K104 hK104 => (wt (oS rfl (Yk.fieldAt wr11_fo92_0 T3 (oS rfl (Yk.cell1 wr11_ty4 rfl (vr (PQ n79 0) rfl) (cellAt hb82 (show (partsC (⟨false, false, false, false, false, false, false, false⟩ : Parts))[0]? = some (.bool (false) : Value) from parts_g0 (⟨false, false, false, false, false, false, false, false⟩ : Parts))) (oZ (tN (hK104 _ _ (wpF_false (vr (.bool (false)) rfl) (wpF_skip (tN (hK103 _ _ (sk fun K105 hK105 => (sk fun K106 hK106 => (wt (oS rfl (Yk.fieldAt wr11_fo92_1 T3 (oS rfl (Yk.cell1 wr11_ty4 rfl (vr (PQ n79 1) rfl) (cellAt hb82 (show (partsC (⟨false, false, false, false, false, false, false, false⟩ : Parts))[1]? = some (.bool (false) : Value) from parts_g1 (⟨false, false, false, false, false, false, false, false⟩ : Parts))) ?_))))))))))))))))))))))
  refine oZ (tN (hK106 _ _ (wpF_false (vr (.bool (false)) rfl) (wpF_skip (tN (hK105 _ _ (sk fun K107 hK107 => (sk fun K108 hK108 => (wt (oS rfl (Yk.fieldAt wr11_fo92_2 T3 (oS rfl (Yk.cell1 wr11_ty4 rfl (vr (PQ n79 2) rfl) (cellAt hb82 (show (partsC (⟨false, false, false, false, false, false, false, false⟩ : Parts))[2]? = some (.bool (false) : Value) from parts_g2 (⟨false, false, false, false, false, false, false, false⟩ : Parts))) (oZ (tN (hK108 _ _ (wpF_false (vr (.bool (false)) rfl) (wpF_skip (tN (hK107 _ _ (sk fun K109 hK109 => ?_)))))))))))))))))))))
  refine sk fun K110 hK110 => (wt (oS rfl (Yk.fieldAt wr11_fo92_3 T3 (oS rfl (Yk.cell1 wr11_ty4 rfl (vr (PQ n79 3) rfl) (cellAt hb82 (show (partsC (⟨false, false, false, false, false, false, false, false⟩ : Parts))[3]? = some (.bool (false) : Value) from parts_g3 (⟨false, false, false, false, false, false, false, false⟩ : Parts))) (oZ (tN (hK110 _ _ (wpF_false (vr (.bool (false)) rfl) (wpF_skip (tN (hK109 _ _ (sk fun K111 hK111 => (sk fun K112 hK112 => (wt (oS rfl (Yk.fieldAt wr11_fo92_4 T3 (oS rfl (Yk.cell1 wr11_ty4 rfl (vr (PQ n79 4) rfl) (cellAt hb82 (show (partsC (⟨false, false, false, false, false, false, false, false⟩ : Parts))[4]? = some (.bool (false) : Value) from parts_g4 (⟨false, false, false, false, false, false, false, false⟩ : Parts))) (oZ (tN (hK112 _ _ ?_))))))))))))))))))))))
  refine wpF_false (vr (.bool (false)) rfl) (wpF_skip (tN (hK111 _ _ (sk fun K113 hK113 => (sk fun K114 hK114 => (wt (oS rfl (Yk.fieldAt wr11_fo92_5 T3 (oS rfl (Yk.cell1 wr11_ty4 rfl (vr (PQ n79 5) rfl) (cellAt hb82 (show (partsC (⟨false, false, false, false, false, false, false, false⟩ : Parts))[5]? = some (.bool (false) : Value) from parts_g5 (⟨false, false, false, false, false, false, false, false⟩ : Parts))) (oZ (tN (hK114 _ _ (wpF_false (vr (.bool (false)) rfl) (wpF_skip (tN (hK113 _ _ (sk fun K115 hK115 => (sk fun K116 hK116 => (wt ?_))))))))))))))))))))
  refine oS rfl (Yk.fieldAt wr11_fo92_6 T3 (oS rfl (Yk.cell1 wr11_ty4 rfl (vr (PQ n79 6) rfl) (cellAt hb82 (show (partsC (⟨false, false, false, false, false, false, false, false⟩ : Parts))[6]? = some (.bool (false) : Value) from parts_g6 (⟨false, false, false, false, false, false, false, false⟩ : Parts))) (oZ (tN (hK116 _ _ (wpF_false (vr (.bool (false)) rfl) (wpF_skip (tN (hK115 _ _ (sk fun K117 hK117 => (sk fun K118 hK118 => (wt (oS rfl (Yk.fieldAt wr11_fo92_7 T3 (oS rfl (Yk.cell1 wr11_ty4 rfl (vr (PQ n79 7) rfl) (cellAt hb82 (show (partsC (⟨false, false, false, false, false, false, false, false⟩ : Parts))[7]? = some (.bool (false) : Value) from parts_g7 (⟨false, false, false, false, false, false, false, false⟩ : Parts))) (oZ ?_))))))))))))))))))
  have hMl : MsgLt (((⟨c1, ((c2 : Nat) : Int), [], [], [], 0, 0, zid, [], [], zid, zid, false, 0⟩, ⟨(Value.slice none 0 0), (Value.slice none 0 0), (Value.slice none 0 0), (Value.slice none 0 0)⟩) : MsgV) : MsgV).1 := ⟨by simp, fun u hu => (by cases hu), by simp, by simp, by simp⟩
  by_cases hj : j2 = b.length
  ·refine tN (hK118 _ _ (wpF_false (vr (.bool (false)) rfl) (wpF_skip (tN (hK117 _ _ (sk fun K119 hK119 => ?_))))))
   refine wpF_draw_endE 14 _ [Is (PQ r 0), Is (PQ r 0), Is (PQ r 1), Is (NI j2), Is (PQ r 0), Is (PQ r 0), Is (PQ r 0), Is (v), Is (NI b.length), Is (.bool (true)), Is (.bool (true)), Is (.agg (msgC ((⟨c1, ((c2 : Nat) : Int), [], [], [], 0, 0, zid, [], [], zid, zid, false, 0⟩, ⟨(Value.slice none 0 0), (Value.slice none 0 0), (Value.slice none 0 0), (Value.slice none 0 0)⟩) : MsgV)).toArray), Is (.bool (rightB (((⟨c1, ((c2 : Nat) : Int), [], [], [], 0, 0, zid, [], [], zid, zid, false, 0⟩, ⟨(Value.slice none 0 0), (Value.slice none 0 0), (Value.slice none 0 0), (Value.slice none 0 0)⟩) : MsgV) : MsgV).1)), Is (.bool (rightB (((⟨c1, ((c2 : Nat) : Int), [], [], [], 0, 0, zid, [], [], zid, zid, false, 0⟩, ⟨(Value.slice none 0 0), (Value.slice none 0 0), (Value.slice none 0 0), (Value.slice none 0 0)⟩) : MsgV) : MsgV).1))] (by kernel_rfl) [79, 80, 81, 82, 83, 84, 85, 86, 87, 88, 89, 90, 91, 92, 93] (by kernel_rfl) (by kernel_rfl) (by kernel_rfl) rfl rfl rfl (fun _ _ => trivial) (si2 (si12 trivial)) ?hs3027 ?hQ3027
   case hs3027 =>
    refine ⟨?_, ?_, ?_, ?_, ?_, ?_, ?_, ?_, ?_, ?_, ?_, ?_, ?_, ?_, ?_, trivial⟩
    ·refine stepFL (stepN rfl fun σ w1 hC h => ?_)
     have e1 := (eqo (h 1 (by decide))).trans T1
     exact Yk.cell1 wr11_ty109 rfl e1 (cellAt (eb hC hb14) (show _ = some (PQ r 0 : Value) from rfl)) ⟨Ext.refl _, rfl⟩
    ·refine stepFL (stepN rfl fun σ w1 hC h => ?_)
     have e79 := eqo (h 79 (by decide))
     exact Yk.nilCheck e79 ⟨Ext.refl _, rfl⟩
    ·refine stepFL (stepN rfl fun σ w1 hC h => ?_)
     have e80 := eqo (h 80 (by decide))
     exact Yk.fieldAt wr11_fo111_1 e80 ⟨Ext.refl _, rfl⟩
    ·refine stepFL (stepN rfl fun σ w1 hC h => ?_)
     have e81 := eqo (h 81 (by decide))
     exact Yk.cell1 wr11_ty3 rfl e81 (cellAt (eb hC hb) (show (rdC (rdX v b (j2)))[1]? = some (NI j2 : Value) from rd_g1 (rdX v b (j2)))) ⟨Ext.refl _, rfl⟩
    ·refine stepFL (stepN rfl fun σ w1 hC h => ?_)
     have e1 := (eqo (h 1 (by decide))).trans T1
     exact Yk.cell1 wr11_ty109 rfl e1 (cellAt (eb hC hb14) (show _ = some (PQ r 0 : Value) from rfl)) ⟨Ext.refl _, rfl⟩
    ·refine stepFL (stepN rfl fun σ w1 hC h => ?_)
     have e83 := eqo (h 83 (by decide))
     exact Yk.nilCheck e83 ⟨Ext.refl _, rfl⟩
    ·refine stepFL (stepN rfl fun σ w1 hC h => ?_)
     have e84 := eqo (h 84 (by decide))
     exact Yk.fieldAt wr11_fo111_0 e84 ⟨Ext.refl _, rfl⟩
    ·refine stepFL (stepN rfl fun σ w1 hC h => ?_)
     have e85 := eqo (h 85 (by decide))
     exact Yk.cell1 wr11_ty26 rfl e85 (cellAt (eb hC hb) (show (rdC (rdX v b (j2)))[0]? = some (v : Value) from rd_g0 (rdX v b (j2)))) ⟨Ext.refl _, rfl⟩
    ·refine stepFL (stepN rfl fun σ w1 hC h => ?_)
     have e86 := eqo (h 86 (by decide))
     exact Yk.lenRB wr11_ty26 (RB.of (hr.keep (hE0.trans hC)) e86) ⟨Ext.refl _, rfl⟩
    ·refine stepFL (stepN rfl fun σ w1 hC h => ?_)
     have e82 := eqo (h 82 (by decide))
     have e87 := eqo (h 87 (by decide))
     exact Yk.eqI (a := (j2 : Nat)) (b := (b.length : Nat)) e82 e87 (k_eql _ _ _ _) ⟨Ext.refl _, (congrArg Value.bool (decide_eq_true (hj)))⟩
    ·refine stepFL (stepN rfl fun σ w1 hC h => ?_)
     have e88 := eqo (h 88 (by decide))
     exact Yk.move e88 ⟨Ext.refl _, rfl⟩
    ·refine stepFL (stepY 10 true 89 rfl rfl (fun _ _ h => h) fun σ w1 hC h => ?_)
     have e2 := (eqo (h 2 (by decide))).trans T2
     exact Yk.loadAll e2 (eb hC hb31) (wr11_ty29).choose_spec rfl (st_isz (msg_len ((⟨c1, ((c2 : Nat) : Int), [], [], [], 0, 0, zid, [], [], zid, zid, false, 0⟩, ⟨(Value.slice none 0 0), (Value.slice none 0 0), (Value.slice none 0 0), (Value.slice none 0 0)⟩) : MsgV)) wr11_isz29) ⟨Ext.refl _, rfl⟩
    ·refine stepFL (stepY 10 true 89 rfl rfl (fun _ _ h => h) fun σ w1 hC h => ?_)
     have e90 := eqo (h 90 (by decide))
     refine Yk.callA1 wr11_pl19 e90 ((right_any _ ((⟨c1, ((c2 : Nat) : Int), [], [], [], 0, 0, zid, [], [], zid, zid, false, 0⟩, ⟨(Value.slice none 0 0), (Value.slice none 0 0), (Value.slice none 0 0), (Value.slice none 0 0)⟩) : MsgV) (MsgAt.mk (RG.nil _ _ _) (RG.nil _ _ _) (RG.nil _ _ _) (RB.nil _)) hMl).mono ?_)
     rintro e w2 ⟨rfl, hx⟩
     exact ⟨_, rfl, hx, rfl⟩
    ·refine stepFL (stepN rfl fun σ w1 hC h => ?_)
     have e89 := eqo (h 89 (by decide))
     have e91 := eqo (h 91 (by decide))
     exact Yk.pickT e89 e91 ⟨Ext.refl _, rfl⟩
    ·exact trivial
   intro ρ120 w121 hx122 he hf
   obtain ⟨-, -, -, -, -, -, -, -, -, -, -, -, -, k92, -⟩ := hf
   obtain ⟨T0, T1, T2, T3, T4, T22, T27, T35, T40, T45, T50, T56, T75, -⟩ := he.hold [(0, _), (1, _), (2, _), (3, _), (4, _), (22, .bool (false)), (27, .bool (false)), (35, .bool (false)), (40, .bool (false)), (45, .bool (false)), (50, .bool (false)), (56, .bool (false)), (75, .bool (false))] ⟨T0, T1, T2, T3, T15, rfl, rfl, rfl, rfl, rfl, rfl, rfl, rfl, trivial⟩ rfl
   clear he
   have hE0 := hE0.trans hx122
   have hb14 := eb hx122 hb14
   have hb82 := eb hx122 hb82
   have hb := eb hx122 hb
   have hb31 := eb hx122 hb31
   have T92 : ρ120 92 = .bool (rightB (((⟨c1, ((c2 : Nat) : Int), [], [], [], 0, 0, zid, [], [], zid, zid, false, 0⟩, ⟨(Value.slice none 0 0), (Value.slice none 0 0), (Value.slice none 0 0), (Value.slice none 0 0)⟩) : MsgV) : MsgV).1) := k92
   clear k92
   refine Yp.callA1 wr11_pl109 T92 ?_
   refine calls_either (needW_any _ (rightB (((⟨c1, ((c2 : Nat) : Int), [], [], [], 0, 0, zid, [], [], zid, zid, false, 0⟩, ⟨(Value.slice none 0 0), (Value.slice none 0 0), (Value.slice none 0 0), (Value.slice none 0 0)⟩) : MsgV) : MsgV).1)) ?_ ?_
   rotate_left
   ·
    rintro ch w125 ⟨rfl, hb, hx⟩
    refine thenF_panic (postP_panic ?_)
    exact .inr ⟨_, rfl, by rw [hD]; simp only [Option.bind_some]; refine if_neg ?_; rintro ⟨h1, h2⟩; exact Bool.noConfusion (h2.symm.trans hb), rfl, hE0.trans hx⟩
   rintro v_ w126 ⟨rfl, hb123, hx124⟩
   have hE0 := hE0.trans hx124
   have hb14 := eb hx124 hb14
   have hb82 := eb hx124 hb82
   have hb := eb hx124 hb
   have hb31 := eb hx124 hb31
   intro ρ127 hu128
   have T0 : ρ127 0 = (PQ r 0 : Value) := (hu128 0 (by decide)).trans T0
   have T1 : ρ127 1 = (PQ n2 0 : Value) := (hu128 1 (by decide)).trans T1
   have T2 : ρ127 2 = (PQ n16 0 : Value) := (hu128 2 (by decide)).trans T2
   have T3 : ρ127 3 = (PQ n79 0 : Value) := (hu128 3 (by decide)).trans T3
   have T4 : ρ127 4 = (.bool (true) : Value) := (hu128 4 (by decide)).trans T4
   have T22 : ρ127 22 = (.bool (false) : Value) := (hu128 22 (by decide)).trans T22
   have T27 : ρ127 27 = (.bool (false) : Value) := (hu128 27 (by decide)).trans T27
   have T35 : ρ127 35 = (.bool (false) : Value) := (hu128 35 (by decide)).trans T35
   have T40 : ρ127 40 = (.bool (false) : Value) := (hu128 40 (by decide)).trans T40
   have T45 : ρ127 45 = (.bool (false) : Value) := (hu128 45 (by decide)).trans T45
   have T50 : ρ127 50 = (.bool (false) : Value) := (hu128 50 (by decide)).trans T50
   have T56 : ρ127 56 = (.bool (false) : Value) := (hu128 56 (by decide)).trans T56
   have T75 : ρ127 75 = (.bool (false) : Value) := (hu128 75 (by decide)).trans T75
   refine tN (hK119 _ _ (sk fun K129 hK129 => (wt (oS rfl (Yk.loadAll T2 hb31 (wr11_ty29).choose_spec rfl (st_isz (msg_len ((⟨c1, ((c2 : Nat) : Int), [], [], [], 0, 0, zid, [], [], zid, zid, false, 0⟩, ⟨(Value.slice none 0 0), (Value.slice none 0 0), (Value.slice none 0 0), (Value.slice none 0 0)⟩) : MsgV)) wr11_isz29) (oS rfl (Yk.storeAll T2 (vr (.agg (msgC ((⟨c1, ((c2 : Nat) : Int), [], [], [], 0, 0, zid, [], [], zid, zid, false, 0⟩, ⟨(Value.slice none 0 0), (Value.slice none 0 0), (Value.slice none 0 0), (Value.slice none 0 0)⟩) : MsgV)).toArray) rfl) hb31 (by simp only [List.size_toArray, msg_len]) (st_isz (msg_len _) wr11_isz29) (msg_one (x := ((⟨c1, ((c2 : Nat) : Int), [], [], [], 0, 0, zid, [], [], zid, zid, false, 0⟩, ⟨(Value.slice none 0 0), (Value.slice none 0 0), (Value.slice none 0 0), (Value.slice none 0 0)⟩) : MsgV)) rfl rfl rfl rfl) fun w130 hb131 hg132 hs133 => ?_)))))))
   have hE0 := row_fresh hE0 hg132 (Nat.le_trans hz27 (by omega))
   have hb14 := kb hg132 hb14 (by omega)
   have hb82 := kb hg132 hb82 (by omega)
   have hb := kb hg132 hb (by omega)
   clear hb31
   have hb31 : w130.heap[n16]? = some (.cells (msgC ((⟨c1, ((c2 : Nat) : Int), [], [], [], 0, 0, zid, [], [], zid, zid, false, 0⟩, ⟨(Value.slice none 0 0), (Value.slice none 0 0), (Value.slice none 0 0), (Value.slice none 0 0)⟩) : MsgV)).toArray 29 (0, 0)) := hb131; clear hb131
   have hl134 := bl hb31
   refine oZ (tN (hK129 _ _ (wpF_ret (postP_ret (fn := Tryd.f67) _ rfl [.agg (msgC ((⟨c1, ((c2 : Nat) : Int), [], [], [], 0, 0, zid, [], [], zid, zid, false, 0⟩, ⟨(Value.slice none 0 0), (Value.slice none 0 0), (Value.slice none 0 0), (Value.slice none 0 0)⟩) : MsgV)).toArray] (.agg (msgC ((⟨c1, ((c2 : Nat) : Int), [], [], [], 0, 0, zid, [], [], zid, zid, false, 0⟩, ⟨(Value.slice none 0 0), (Value.slice none 0 0), (Value.slice none 0 0), (Value.slice none 0 0)⟩) : MsgV)).toArray) rfl ⟨ResF.row T2 hb31 (wr11_ty29).choose_spec rfl (st_isz (msg_len _) wr11_isz29), trivial⟩ ?_))))
   exact .inl ⟨_, rfl, ((⟨c1, ((c2 : Nat) : Int), [], [], [], 0, 0, zid, [], [], zid, zid, false, 0⟩, ⟨(Value.slice none 0 0), (Value.slice none 0 0), (Value.slice none 0 0), (Value.slice none 0 0)⟩) : MsgV), by rw [hD]; simp only [Option.bind_some]; refine if_pos ?_; exact ⟨hj, hb123⟩, rfl, (MsgAt.mk (RG.nil _ _ _) (RG.nil _ _ _) (RG.nil _ _ _) (RB.nil _)), ⟨(fun k h => by cases h), (fun k h => by cases h), (fun k h => by cases h), (fun k h => by cases h)⟩, hE0⟩
  refine tN (hK118 _ _ (wpF_false (vr (.bool (false)) rfl) (wpF_skip (tN (hK117 _ _ (sk fun K135 hK135 => ?_))))))
  refine wpF_draw_endE 14 _ [Is (PQ r 0), Is (PQ r 0), Is (PQ r 1), Is (NI j2), Is (PQ r 0), Is (PQ r 0), Is (PQ r 0), Is (v), Is (NI b.length), Is (.bool (false)), Is (.bool (false)), Is undef, Is undef, Is (.bool (false))] (by kernel_rfl) [79, 80, 81, 82, 83, 84, 85, 86, 87, 88, 89, 90, 91, 92, 93] (by kernel_rfl) (by kernel_rfl) (by kernel_rfl) rfl rfl rfl (fun _ _ => trivial) (si2 (si12 trivial)) ?hs4027 ?hQ4027
  case hs4027 =>
   refine ⟨?_, ?_, ?_, ?_, ?_, ?_, ?_, ?_, ?_, ?_, ?_, ?_, ?_, ?_, ?_, trivial⟩
   ·refine stepFL (stepN rfl fun σ w1 hC h => ?_)
    have e1 := (eqo (h 1 (by decide))).trans T1
    exact Yk.cell1 wr11_ty109 rfl e1 (cellAt (eb hC hb14) (show _ = some (PQ r 0 : Value) from rfl)) ⟨Ext.refl _, rfl⟩
   ·refine stepFL (stepN rfl fun σ w1 hC h => ?_)
    have e79 := eqo (h 79 (by decide))
    exact Yk.nilCheck e79 ⟨Ext.refl _, rfl⟩
   ·refine stepFL (stepN rfl fun σ w1 hC h => ?_)
    have e80 := eqo (h 80 (by decide))
    exact Yk.fieldAt wr11_fo111_1 e80 ⟨Ext.refl _, rfl⟩
   ·refine stepFL (stepN rfl fun σ w1 hC h => ?_)
    have e81 := eqo (h 81 (by decide))
    exact Yk.cell1 wr11_ty3 rfl e81 (cellAt (eb hC hb) (show (rdC (rdX v b (j2)))[1]? = some (NI j2 : Value) from rd_g1 (rdX v b (j2)))) ⟨Ext.refl _, rfl⟩
   ·refine stepFL (stepN rfl fun σ w1 hC h => ?_)
    have e1 := (eqo (h 1 (by decide))).trans T1
    exact Yk.cell1 wr11_ty109 rfl e1 (cellAt (eb hC hb14) (show _ = some (PQ r 0 : Value) from rfl)) ⟨Ext.refl _, rfl⟩
   ·refine stepFL (stepN rfl fun σ w1 hC h => ?_)
    have e83 := eqo (h 83 (by decide))
    exact Yk.nilCheck e83 ⟨Ext.refl _, rfl⟩
   ·refine stepFL (stepN rfl fun σ w1 hC h => ?_)
    have e84 := eqo (h 84 (by decide))
    exact Yk.fieldAt wr11_fo111_0 e84 ⟨Ext.refl _, rfl⟩
   ·refine stepFL (stepN rfl fun σ w1 hC h => ?_)
    have e85 := eqo (h 85 (by decide))
    exact Yk.cell1 wr11_ty26 rfl e85 (cellAt (eb hC hb) (show (rdC (rdX v b (j2)))[0]? = some (v : Value) from rd_g0 (rdX v b (j2)))) ⟨Ext.refl _, rfl⟩
   ·refine stepFL (stepN rfl fun σ w1 hC h => ?_)
    have e86 := eqo (h 86 (by decide))
    exact Yk.lenRB wr11_ty26 (RB.of (hr.keep (hE0.trans hC)) e86) ⟨Ext.refl _, rfl⟩
   ·refine stepFL (stepN rfl fun σ w1 hC h => ?_)
    have e82 := eqo (h 82 (by decide))
    have e87 := eqo (h 87 (by decide))
    exact Yk.eqI (a := (j2 : Nat)) (b := (b.length : Nat)) e82 e87 (k_eql _ _ _ _) ⟨Ext.refl _, (congrArg Value.bool (decide_eq_false (hj)))⟩
   ·refine stepFL (stepN rfl fun σ w1 hC h => ?_)
    have e88 := eqo (h 88 (by decide))
    exact Yk.move e88 ⟨Ext.refl _, rfl⟩
   ·refine stepFL (stepX 10 true 89 rfl rfl (fun x _ (h : x = .bool false) => by rw [h]; intro h; cases h) fun _ => rfl)
   ·refine stepFL (stepX 10 true 89 rfl rfl (fun x _ (h : x = .bool false) => by rw [h]; intro h; cases h) fun _ => rfl)
   ·refine stepFL (stepN rfl fun σ w1 hC h => ?_)
    have e89 := eqo (h 89 (by decide))
    exact Yk.pickF e89 (vr (.bool (false)) rfl) ⟨Ext.refl _, rfl⟩
   ·exact trivial
  intro ρ136 w137 hx138 he hf
  obtain ⟨-, -, -, -, -, -, -, -, -, -, -, -, -, k92, -⟩ := hf
  obtain ⟨T0, T1, T2, T3, T4, T22, T27, T35, T40, T45, T50, T56, T75, -⟩ := he.hold [(0, _), (1, _), (2, _), (3, _), (4, _), (22, .bool (false)), (27, .bool (false)), (35, .bool (false)), (40, .bool (false)), (45, .bool (false)), (50, .bool (false)), (56, .bool (false)), (75, .bool (false))] ⟨T0, T1, T2, T3, T15, rfl, rfl, rfl, rfl, rfl, rfl, rfl, rfl, trivial⟩ rfl
  clear he
  have hE0 := hE0.trans hx138
  have hb14 := eb hx138 hb14
  have hb82 := eb hx138 hb82
  have hb := eb hx138 hb
  have hb31 := eb hx138 hb31
  have T92 : ρ136 92 = .bool (false) := k92
  clear k92
  refine Yp.callA1 wr11_pl109 T92 ?_
  refine calls_either (needW_any _ (false)) ?_ ?_
  rotate_left
  ·
   rintro ch w141 ⟨rfl, hb, hx⟩
   refine thenF_panic (postP_panic ?_)
   exact .inr ⟨_, rfl, by rw [hD]; simp only [Option.bind_some]; refine if_neg ?_; rintro ⟨h1, h2⟩; exact hj h1, rfl, hE0.trans hx⟩
  rintro v_ w142 ⟨rfl, hb139, hx140⟩
  cases hb139
 ·have hD := decP_eq hP1 hK hP2
  rw [restP2 (m := (⟨c1, ((c2 : Nat) : Int), [], [], [], 0, 0, zid, [], [], zid, zid, false, 0⟩ : Msg)) hk] at hD
  refine tN (hK91 _ _ (sk fun K143 hK143 => (sk fun K144 hK144 => (wt (oS rfl (Yk.fieldAt wr11_fo92_0 T3 (oS rfl (Yk.cell1 wr11_ty4 rfl (vr (PQ n79 0) rfl) (cellAt hb82 (show (partsC (⟨true, false, false, false, false, false, false, false⟩ : Parts))[0]? = some (.bool (true) : Value) from parts_g0 (⟨true, false, false, false, false, false, false, false⟩ : Parts))) (oZ (tN (hK144 _ _ (wpF_true (vr (.bool (true)) rfl) (wt (oS rfl (Yk.cell1 wr11_ty109 rfl T1 (cellAt hb14 (show _ = some (PQ r 0 : Value) from rfl)) (oS rfl (Yk.mkFunc (vs := #[PQ n2 0, PQ n16 0]) (by simp only [List.map_toArray, List.map_cons, List.map_nil]; exact congrArg List.toArray (list2 T1 T2)) ?_)))))))))))))))))
  have hC1 : RC w0 r n16 n2 n79 v b := ⟨hr, lr, by omega, by omega, by omega, by omega, by omega, by omega, by omega, by omega, by omega, hl⟩
  refine oP rfl (Yp.callA3 wr11_pl111 (vr (PQ r 0) rfl) (vr (NI 128) rfl) (vr (.func (.func 112) #[] #[PQ n2 0, PQ n16 0]) rfl) ?_)
  refine calls_either (reads1_any hC1 (⟨hb, hb31, hb14, hb82, hE0, hle_j2⟩ : RS w0 r n16 n2 n79 v b (⟨true, false, false, false, false, false, false, false⟩ : Parts) _ j2 ((⟨c1, ((c2 : Nat) : Int), [], [], [], 0, 0, zid, [], [], zid, zid, false, 0⟩, ⟨(Value.slice none 0 0), (Value.slice none 0 0), (Value.slice none 0 0), (Value.slice none 0 0)⟩) : MsgV)) rfl (OG.nil _ _ _ _ _) ⟨(fun h => by cases h), (fun h => by cases h), (fun h => by cases h), (fun h => by cases h)⟩) ?_ ?_
  rotate_left
  ·
   rintro ch w145 ⟨hPx, rfl, hgx⟩
   refine thenF_panic (postP_panic ?_)
   exact .inr ⟨_, rfl, by rw [hD]; simp only [hPx, Option.bind_some, Option.bind_none], rfl, hgx⟩
  rintro v_ w147 ⟨rfl, l1, i1, u1, hPb1, hS1, ho1, ap_u1⟩
  obtain ⟨hb, hbm, hbg, hbn, hE0, hle_i1⟩ := hS1
  have hl148 := bl hb
  have hl149 := bl hbm
  have hl150 := bl hbg
  have hl151 := bl hbn
  refine oZ (tN (hK143 _ _ (sk fun K152 hK152 => (sk fun K153 hK153 => (wt (oS rfl (Yk.fieldAt wr11_fo92_1 T3 (oS rfl (Yk.cell1 wr11_ty4 rfl (vr (PQ n79 1) rfl) (cellAt hbn (show (partsC (⟨true, false, false, false, false, false, false, false⟩ : Parts))[1]? = some (.bool (false) : Value) from parts_g1 (⟨true, false, false, false, false, false, false, false⟩ : Parts))) (oZ (tN (hK153 _ _ (wpF_false (vr (.bool (false)) rfl) (wpF_skip (tN (hK152 _ _ (sk fun K154 hK154 => (sk fun K155 hK155 => (wt (oS rfl (Yk.fieldAt wr11_fo92_2 T3 ?_)))))))))))))))))))))
  refine oS rfl (Yk.cell1 wr11_ty4 rfl (vr (PQ n79 2) rfl) (cellAt hbn (show (partsC (⟨true, false, false, false, false, false, false, false⟩ : Parts))[2]? = some (.bool (false) : Value) from parts_g2 (⟨true, false, false, false, false, false, false, false⟩ : Parts))) (oZ (tN (hK155 _ _ (wpF_false (vr (.bool (false)) rfl) (wpF_skip (tN (hK154 _ _ (sk fun K156 hK156 => (sk fun K157 hK157 => (wt (oS rfl (Yk.fieldAt wr11_fo92_3 T3 (oS rfl (Yk.cell1 wr11_ty4 rfl (vr (PQ n79 3) rfl) (cellAt hbn (show (partsC (⟨true, false, false, false, false, false, false, false⟩ : Parts))[3]? = some (.bool (false) : Value) from parts_g3 (⟨true, false, false, false, false, false, false, false⟩ : Parts))) (oZ (tN (hK157 _ _ (wpF_false (vr (.bool (false)) rfl) (wpF_skip (tN (hK156 _ _ ?_))))))))))))))))))))))
  refine sk fun K158 hK158 => (sk fun K159 hK159 => (wt (oS rfl (Yk.fieldAt wr11_fo92_4 T3 (oS rfl (Yk.cell1 wr11_ty4 rfl (vr (PQ n79 4) rfl) (cellAt hbn (show (partsC (⟨true, false, false, false, false, false, false, false⟩ : Parts))[4]? = some (.bool (false) : Value) from parts_g4 (⟨true, false, false, false, false, false, false, false⟩ : Parts))) (oZ (tN (hK159 _ _ (wpF_false (vr (.bool (false)) rfl) (wpF_skip (tN (hK158 _ _ (sk fun K160 hK160 => (sk fun K161 hK161 => (wt (oS rfl (Yk.fieldAt wr11_fo92_5 T3 (oS rfl (Yk.cell1 wr11_ty4 rfl (vr (PQ n79 5) rfl) (cellAt hbn (show (partsC (⟨true, false, false, false, false, false, false, false⟩ : Parts))[5]? = some (.bool (false) : Value) from parts_g5 (⟨true, false, false, false, false, false, false, false⟩ : Parts))) (oZ ?_)))))))))))))))))))))
  refine tN (hK161 _ _ (wpF_false (vr (.bool (false)) rfl) (wpF_skip (tN (hK160 _ _ (sk fun K162 hK162 => (sk fun K163 hK163 => (wt (oS rfl (Yk.fieldAt wr11_fo92_6 T3 (oS rfl (Yk.cell1 wr11_ty4 rfl (vr (PQ n79 6) rfl) (cellAt hbn (show (partsC (⟨true, false, false, false, false, false, false, false⟩ : Parts))[6]? = some (.bool (false) : Value) from parts_g6 (⟨true, false, false, false, false, false, false, false⟩ : Parts))) (oZ (tN (hK163 _ _ (wpF_false (vr (.bool (false)) rfl) (wpF_skip (tN (hK162 _ _ (sk fun K164 hK164 => (sk fun K165 hK165 => ?_)))))))))))))))))))))
  refine wt (oS rfl (Yk.fieldAt wr11_fo92_7 T3 (oS rfl (Yk.cell1 wr11_ty4 rfl (vr (PQ n79 7) rfl) (cellAt hbn (show (partsC (⟨true, false, false, false, false, false, false, false⟩ : Parts))[7]? = some (.bool (false) : Value) from parts_g7 (⟨true, false, false, false, false, false, false, false⟩ : Parts))) (oZ ?_)))))
  have hMl : MsgLt (((⟨c1, ((c2 : Nat) : Int), l1, [], [], 0, 0, zid, [], [], zid, zid, false, 0⟩, ⟨u1, (Value.slice none 0 0), (Value.slice none 0 0), (Value.slice none 0 0)⟩) : MsgV) : MsgV).1 := ⟨by have := (updsP_lt hPb1).1; simp only at this ⊢; omega, fun u hu => by have := (updsP_lt hPb1).2 u hu; omega, by simp, by simp, by simp⟩
  by_cases hj : i1 = b.length
  ·refine tN (hK165 _ _ (wpF_false (vr (.bool (false)) rfl) (wpF_skip (tN (hK164 _ _ (sk fun K166 hK166 => ?_))))))
   refine wpF_draw_endE 14 _ [Is (PQ r 0), Is (PQ r 0), Is (PQ r 1), Is (NI i1), Is (PQ r 0), Is (PQ r 0), Is (PQ r 0), Is (v), Is (NI b.length), Is (.bool (true)), Is (.bool (true)), Is (.agg (msgC ((⟨c1, ((c2 : Nat) : Int), l1, [], [], 0, 0, zid, [], [], zid, zid, false, 0⟩, ⟨u1, (Value.slice none 0 0), (Value.slice none 0 0), (Value.slice none 0 0)⟩) : MsgV)).toArray), Is (.bool (rightB (((⟨c1, ((c2 : Nat) : Int), l1, [], [], 0, 0, zid, [], [], zid, zid, false, 0⟩, ⟨u1, (Value.slice none 0 0), (Value.slice none 0 0), (Value.slice none 0 0)⟩) : MsgV) : MsgV).1)), Is (.bool (rightB (((⟨c1, ((c2 : Nat) : Int), l1, [], [], 0, 0, zid, [], [], zid, zid, false, 0⟩, ⟨u1, (Value.slice none 0 0), (Value.slice none 0 0), (Value.slice none 0 0)⟩) : MsgV) : MsgV).1))] (by kernel_rfl) [79, 80, 81, 82, 83, 84, 85, 86, 87, 88, 89, 90, 91, 92, 93] (by kernel_rfl) (by kernel_rfl) (by kernel_rfl) rfl rfl rfl (fun _ _ => trivial) (si2 (si12 trivial)) ?hs5027 ?hQ5027
   case hs5027 =>
    refine ⟨?_, ?_, ?_, ?_, ?_, ?_, ?_, ?_, ?_, ?_, ?_, ?_, ?_, ?_, ?_, trivial⟩
    ·refine stepFL (stepN rfl fun σ w1 hC h => ?_)
     have e1 := (eqo (h 1 (by decide))).trans T1
     exact Yk.cell1 wr11_ty109 rfl e1 (cellAt (eb hC hbg) (show _ = some (PQ r 0 : Value) from rfl)) ⟨Ext.refl _, rfl⟩
    ·refine stepFL (stepN rfl fun σ w1 hC h => ?_)
     have e79 := eqo (h 79 (by decide))
     exact Yk.nilCheck e79 ⟨Ext.refl _, rfl⟩
    ·refine stepFL (stepN rfl fun σ w1 hC h => ?_)
     have e80 := eqo (h 80 (by decide))
     exact Yk.fieldAt wr11_fo111_1 e80 ⟨Ext.refl _, rfl⟩
    ·refine stepFL (stepN rfl fun σ w1 hC h => ?_)
     have e81 := eqo (h 81 (by decide))
     exact Yk.cell1 wr11_ty3 rfl e81 (cellAt (eb hC hb) (show (rdC (rdX v b (i1)))[1]? = some (NI i1 : Value) from rd_g1 (rdX v b (i1)))) ⟨Ext.refl _, rfl⟩
    ·refine stepFL (stepN rfl fun σ w1 hC h => ?_)
     have e1 := (eqo (h 1 (by decide))).trans T1
     exact Yk.cell1 wr11_ty109 rfl e1 (cellAt (eb hC hbg) (show _ = some (PQ r 0 : Value) from rfl)) ⟨Ext.refl _, rfl⟩
    ·refine stepFL (stepN rfl fun σ w1 hC h => ?_)
     have e83 := eqo (h 83 (by decide))
     exact Yk.nilCheck e83 ⟨Ext.refl _, rfl⟩
    ·refine stepFL (stepN rfl fun σ w1 hC h => ?_)
     have e84 := eqo (h 84 (by decide))
     exact Yk.fieldAt wr11_fo111_0 e84 ⟨Ext.refl _, rfl⟩
    ·refine stepFL (stepN rfl fun σ w1 hC h => ?_)
     have e85 := eqo (h 85 (by decide))
     exact Yk.cell1 wr11_ty26 rfl e85 (cellAt (eb hC hb) (show (rdC (rdX v b (i1)))[0]? = some (v : Value) from rd_g0 (rdX v b (i1)))) ⟨Ext.refl _, rfl⟩
    ·refine stepFL (stepN rfl fun σ w1 hC h => ?_)
     have e86 := eqo (h 86 (by decide))
     exact Yk.lenRB wr11_ty26 (RB.of (hr.keep (hE0.trans hC)) e86) ⟨Ext.refl _, rfl⟩
    ·refine stepFL (stepN rfl fun σ w1 hC h => ?_)
     have e82 := eqo (h 82 (by decide))
     have e87 := eqo (h 87 (by decide))
     exact Yk.eqI (a := (i1 : Nat)) (b := (b.length : Nat)) e82 e87 (k_eql _ _ _ _) ⟨Ext.refl _, (congrArg Value.bool (decide_eq_true (hj)))⟩
    ·refine stepFL (stepN rfl fun σ w1 hC h => ?_)
     have e88 := eqo (h 88 (by decide))
     exact Yk.move e88 ⟨Ext.refl _, rfl⟩
    ·refine stepFL (stepY 10 true 89 rfl rfl (fun _ _ h => h) fun σ w1 hC h => ?_)
     have e2 := (eqo (h 2 (by decide))).trans T2
     exact Yk.loadAll e2 (eb hC hbm) (wr11_ty29).choose_spec rfl (st_isz (msg_len ((⟨c1, ((c2 : Nat) : Int), l1, [], [], 0, 0, zid, [], [], zid, zid, false, 0⟩, ⟨u1, (Value.slice none 0 0), (Value.slice none 0 0), (Value.slice none 0 0)⟩) : MsgV)) wr11_isz29) ⟨Ext.refl _, rfl⟩
    ·refine stepFL (stepY 10 true 89 rfl rfl (fun _ _ h => h) fun σ w1 hC h => ?_)
     have e90 := eqo (h 90 (by decide))
     refine Yk.callA1 wr11_pl19 e90 ((right_any _ ((⟨c1, ((c2 : Nat) : Int), l1, [], [], 0, 0, zid, [], [], zid, zid, false, 0⟩, ⟨u1, (Value.slice none 0 0), (Value.slice none 0 0), (Value.slice none 0 0)⟩) : MsgV) (MsgAt.mk (RG.ofOwn (ho1.keep hC)) (RG.nil _ _ _) (RG.nil _ _ _) (RB.nil _)) hMl).mono ?_)
     rintro e w2 ⟨rfl, hx⟩
     exact ⟨_, rfl, hx, rfl⟩
    ·refine stepFL (stepN rfl fun σ w1 hC h => ?_)
     have e89 := eqo (h 89 (by decide))
     have e91 := eqo (h 91 (by decide))
     exact Yk.pickT e89 e91 ⟨Ext.refl _, rfl⟩
    ·exact trivial
   intro ρ167 w168 hx169 he hf
   obtain ⟨-, -, -, -, -, -, -, -, -, -, -, -, -, k92, -⟩ := hf
   obtain ⟨T0, T1, T2, T3, T4, T22, T27, T35, T40, T45, T50, T56, T75, -⟩ := he.hold [(0, _), (1, _), (2, _), (3, _), (4, _), (22, .bool (true)), (27, .bool (false)), (35, .bool (false)), (40, .bool (false)), (45, .bool (false)), (50, .bool (false)), (56, .bool (false)), (75, .bool (false))] ⟨T0, T1, T2, T3, T15, rfl, rfl, rfl, rfl, rfl, rfl, rfl, rfl, trivial⟩ rfl
   clear he
   have hE0 := hE0.trans hx169
   have hb := eb hx169 hb
   have hbm := eb hx169 hbm
   have hbg := eb hx169 hbg
   have hbn := eb hx169 hbn
   have ho1 := ho1.keep hx169
   have T92 : ρ167 92 = .bool (rightB (((⟨c1, ((c2 : Nat) : Int), l1, [], [], 0, 0, zid, [], [], zid, zid, false, 0⟩, ⟨u1, (Value.slice none 0 0), (Value.slice none 0 0), (Value.slice none 0 0)⟩) : MsgV) : MsgV).1) := k92
   clear k92
   refine Yp.callA1 wr11_pl109 T92 ?_
   refine calls_either (needW_any _ (rightB (((⟨c1, ((c2 : Nat) : Int), l1, [], [], 0, 0, zid, [], [], zid, zid, false, 0⟩, ⟨u1, (Value.slice none 0 0), (Value.slice none 0 0), (Value.slice none 0 0)⟩) : MsgV) : MsgV).1)) ?_ ?_
   rotate_left
   ·
    rintro ch w172 ⟨rfl, hb, hx⟩
    refine thenF_panic (postP_panic ?_)
    exact .inr ⟨_, rfl, by rw [hD]; simp only [hPb1, Option.bind_some]; refine if_neg ?_; rintro ⟨h1, h2⟩; exact Bool.noConfusion (h2.symm.trans hb), rfl, hE0.trans hx⟩
   rintro v_ w173 ⟨rfl, hb170, hx171⟩
   have hE0 := hE0.trans hx171
   have hb := eb hx171 hb
   have hbm := eb hx171 hbm
   have hbg := eb hx171 hbg
   have hbn := eb hx171 hbn
   have ho1 := ho1.keep hx171
   intro ρ174 hu175
   have T0 : ρ174 0 = (PQ r 0 : Value) := (hu175 0 (by decide)).trans T0
   have T1 : ρ174 1 = (PQ n2 0 : Value) := (hu175 1 (by decide)).trans T1
   have T2 : ρ174 2 = (PQ n16 0 : Value) := (hu175 2 (by decide)).trans T2
   have T3 : ρ174 3 = (PQ n79 0 : Value) := (hu175 3 (by decide)).trans T3
   have T4 : ρ174 4 = (.bool (true) : Value) := (hu175 4 (by decide)).trans T4
   have T22 : ρ174 22 = (.bool (true) : Value) := (hu175 22 (by decide)).trans T22
   have T27 : ρ174 27 = (.bool (false) : Value) := (hu175 27 (by decide)).trans T27
   have T35 : ρ174 35 = (.bool (false) : Value) := (hu175 35 (by decide)).trans T35
   have T40 : ρ174 40 = (.bool (false) : Value) := (hu175 40 (by decide)).trans T40
   have T45 : ρ174 45 = (.bool (false) : Value) := (hu175 45 (by decide)).trans T45
   have T50 : ρ174 50 = (.bool (false) : Value) := (hu175 50 (by decide)).trans T50
   have T56 : ρ174 56 = (.bool (false) : Value) := (hu175 56 (by decide)).trans T56
   have T75 : ρ174 75 = (.bool (false) : Value) := (hu175 75 (by decide)).trans T75
   refine tN (hK166 _ _ (sk fun K176 hK176 => (wt (oS rfl (Yk.loadAll T2 hbm (wr11_ty29).choose_spec rfl (st_isz (msg_len ((⟨c1, ((c2 : Nat) : Int), l1, [], [], 0, 0, zid, [], [], zid, zid, false, 0⟩, ⟨u1, (Value.slice none 0 0), (Value.slice none 0 0), (Value.slice none 0 0)⟩) : MsgV)) wr11_isz29) (oS rfl (Yk.storeAll T2 (vr (.agg (msgC ((⟨c1, ((c2 : Nat) : Int), l1, [], [], 0, 0, zid, [], [], zid, zid, false, 0⟩, ⟨u1, (Value.slice none 0 0), (Value.slice none 0 0), (Value.slice none 0 0)⟩) : MsgV)).toArray) rfl) hbm (by simp only [List.size_toArray, msg_len]) (st_isz (msg_len _) wr11_isz29) (msg_one (x := ((⟨c1, ((c2 : Nat) : Int), l1, [], [], 0, 0, zid, [], [], zid, zid, false, 0⟩, ⟨u1, (Value.slice none 0 0), (Value.slice none 0 0), (Value.slice none 0 0)⟩) : MsgV)) (RG.one (RG.ofOwn ho1)).2 rfl rfl rfl) fun w177 hb178 hg179 hs180 => ?_)))))))
   have hE0 := row_fresh hE0 hg179 (Nat.le_trans (Nat.le_refl _) (by omega))
   have hb := kb hg179 hb (by omega)
   clear hbm
   have hbg := kb hg179 hbg (by omega)
   have hbn := kb hg179 hbn (by omega)
   have ho1 := OG.kept ho1 hg179 ap_u1.m
   have hbm : w177.heap[n16]? = some (.cells (msgC ((⟨c1, ((c2 : Nat) : Int), l1, [], [], 0, 0, zid, [], [], zid, zid, false, 0⟩, ⟨u1, (Value.slice none 0 0), (Value.slice none 0 0), (Value.slice none 0 0)⟩) : MsgV)).toArray 29 (0, 0)) := hb178; clear hb178
   have hl181 := bl hbm
   refine oZ (tN (hK176 _ _ (wpF_ret (postP_ret (fn := Tryd.f67) _ rfl [.agg (msgC ((⟨c1, ((c2 : Nat) : Int), l1, [], [], 0, 0, zid, [], [], zid, zid, false, 0⟩, ⟨u1, (Value.slice none 0 0), (Value.slice none 0 0), (Value.slice none 0 0)⟩) : MsgV)).toArray] (.agg (msgC ((⟨c1, ((c2 : Nat) : Int), l1, [], [], 0, 0, zid, [], [], zid, zid, false, 0⟩, ⟨u1, (Value.slice none 0 0), (Value.slice none 0 0), (Value.slice none 0 0)⟩) : MsgV)).toArray) rfl ⟨ResF.row T2 hbm (wr11_ty29).choose_spec rfl (st_isz (msg_len _) wr11_isz29), trivial⟩ ?_))))
   exact .inl ⟨_, rfl, ((⟨c1, ((c2 : Nat) : Int), l1, [], [], 0, 0, zid, [], [], zid, zid, false, 0⟩, ⟨u1, (Value.slice none 0 0), (Value.slice none 0 0), (Value.slice none 0 0)⟩) : MsgV), by rw [hD]; simp only [hPb1, Option.bind_some]; refine if_pos ?_; exact ⟨hj, hb170⟩, rfl, (MsgAt.mk (RG.ofOwn ho1) (RG.nil _ _ _) (RG.nil _ _ _) (RB.nil _)), ⟨(fun k h => (ho1.2.lt k h).1), (fun k h => by cases h), (fun k h => by cases h), (fun k h => by cases h)⟩, hE0⟩
  refine tN (hK165 _ _ (wpF_false (vr (.bool (false)) rfl) (wpF_skip (tN (hK164 _ _ (sk fun K182 hK182 => ?_))))))
  refine wpF_draw_endE 14 _ [Is (PQ r 0), Is (PQ r 0), Is (PQ r 1), Is (NI i1), Is (PQ r 0), Is (PQ r 0), Is (PQ r 0), Is (v), Is (NI b.length), Is (.bool (false)), Is (.bool (false)), Is undef, Is undef, Is (.bool (false))] (by kernel_rfl) [79, 80, 81, 82, 83, 84, 85, 86, 87, 88, 89, 90, 91, 92, 93] (by kernel_rfl) (by kernel_rfl) (by kernel_rfl) rfl rfl rfl (fun _ _ => trivial) (si2 (si12 trivial)) ?hs6027 ?hQ6027
  case hs6027 =>
   refine ⟨?_, ?_, ?_, ?_, ?_, ?_, ?_, ?_, ?_, ?_, ?_, ?_, ?_, ?_, ?_, trivial⟩
   ·refine stepFL (stepN rfl fun σ w1 hC h => ?_)
    have e1 := (eqo (h 1 (by decide))).trans T1
    exact Yk.cell1 wr11_ty109 rfl e1 (cellAt (eb hC hbg) (show _ = some (PQ r 0 : Value) from rfl)) ⟨Ext.refl _, rfl⟩
   ·refine stepFL (stepN rfl fun σ w1 hC h => ?_)
    have e79 := eqo (h 79 (by decide))
    exact Yk.nilCheck e79 ⟨Ext.refl _, rfl⟩
   ·refine stepFL (stepN rfl fun σ w1 hC h => ?_)
    have e80 := eqo (h 80 (by decide))
    exact Yk.fieldAt wr11_fo111_1 e80 ⟨Ext.refl _, rfl⟩
   ·refine stepFL (stepN rfl fun σ w1 hC h => ?_)
    have e81 := eqo (h 81 (by decide))
    exact Yk.cell1 wr11_ty3 rfl e81 (cellAt (eb hC hb) (show (rdC (rdX v b (i1)))[1]? = some (NI i1 : Value) from rd_g1 (rdX v b (i1)))) ⟨Ext.refl _, rfl⟩
   ·refine stepFL (stepN rfl fun σ w1 hC h => ?_)
    have e1 := (eqo (h 1 (by decide))).trans T1
    exact Yk.cell1 wr11_ty109 rfl e1 (cellAt (eb hC hbg) (show _ = some (PQ r 0 : Value) from rfl)) ⟨Ext.refl _, rfl⟩
   ·refine stepFL (stepN rfl fun σ w1 hC h => ?_)
    have e83 := eqo (h 83 (by decide))
    exact Yk.nilCheck e83 ⟨Ext.refl _, rfl⟩
   ·refine stepFL (stepN rfl fun σ w1 hC h => ?_)
    have e84 := eqo (h 84 (by decide))
    exact Yk.fieldAt wr11_fo111_0 e84 ⟨Ext.refl _, rfl⟩
   ·refine stepFL (stepN rfl fun σ w1 hC h => ?_)
    have e85 := eqo (h 85 (by decide))
    exact Yk.cell1 wr11_ty26 rfl e85 (cellAt (eb hC hb) (show (rdC (rdX v b (i1)))[0]? = some (v : Value) from rd_g0 (rdX v b (i1)))) ⟨Ext.refl _, rfl⟩
   ·refine stepFL (stepN rfl fun σ w1 hC h => ?_)
    have e86 := eqo (h 86 (by decide))
    exact Yk.lenRB wr11_ty26 (RB.of (hr.keep (hE0.trans hC)) e86) ⟨Ext.refl _, rfl⟩
   ·refine stepFL (stepN rfl fun σ w1 hC h => ?_)
    have e82 := eqo (h 82 (by decide))
    have e87 := eqo (h 87 (by decide))
    exact Yk.eqI (a := (i1 : Nat)) (b := (b.length : Nat)) e82 e87 (k_eql _ _ _ _) ⟨Ext.refl _, (congrArg Value.bool (decide_eq_false (hj)))⟩
   ·refine stepFL (stepN rfl fun σ w1 hC h => ?_)
    have e88 := eqo (h 88 (by decide))
    exact Yk.move e88 ⟨Ext.refl _, rfl⟩
   ·refine stepFL (stepX 10 true 89 rfl rfl (fun x _ (h : x = .bool false) => by rw [h]; intro h; cases h) fun _ => rfl)
   ·refine stepFL (stepX 10 true 89 rfl rfl (fun x _ (h : x = .bool false) => by rw [h]; intro h; cases h) fun _ => rfl)
   ·refine stepFL (stepN rfl fun σ w1 hC h => ?_)
    have e89 := eqo (h 89 (by decide))
    exact Yk.pickF e89 (vr (.bool (false)) rfl) ⟨Ext.refl _, rfl⟩
   ·exact trivial
  intro ρ183 w184 hx185 he hf
  obtain ⟨-, -, -, -, -, -, -, -, -, -, -, -, -, k92, -⟩ := hf
  obtain ⟨T0, T1, T2, T3, T4, T22, T27, T35, T40, T45, T50, T56, T75, -⟩ := he.hold [(0, _), (1, _), (2, _), (3, _), (4, _), (22, .bool (true)), (27, .bool (false)), (35, .bool (false)), (40, .bool (false)), (45, .bool (false)), (50, .bool (false)), (56, .bool (false)), (75, .bool (false))] ⟨T0, T1, T2, T3, T15, rfl, rfl, rfl, rfl, rfl, rfl, rfl, rfl, trivial⟩ rfl
  clear he
  have hE0 := hE0.trans hx185
  have hb := eb hx185 hb
  have hbm := eb hx185 hbm
  have hbg := eb hx185 hbg
  have hbn := eb hx185 hbn
  have ho1 := ho1.keep hx185
  have T92 : ρ183 92 = .bool (false) := k92
  clear k92
  refine Yp.callA1 wr11_pl109 T92 ?_
  refine calls_either (needW_any _ (false)) ?_ ?_
  rotate_left
  ·
   rintro ch w188 ⟨rfl, hb, hx⟩
   refine thenF_panic (postP_panic ?_)
   exact .inr ⟨_, rfl, by rw [hD]; simp only [hPb1, Option.bind_some]; refine if_neg ?_; rintro ⟨h1, h2⟩; exact hj h1, rfl, hE0.trans hx⟩
  rintro v_ w189 ⟨rfl, hb186, hx187⟩
  cases hb186
 ·have hD := decP_eq hP1 hK hP2
  rw [restP3 (m := (⟨c1, ((c2 : Nat) : Int), [], [], [], 0, 0, zid, [], [], zid, zid, false, 0⟩ : Msg)) hk] at hD
  refine tN (hK91 _ _ (sk fun K190 hK190 => (sk fun K191 hK191 => (wt (oS rfl (Yk.fieldAt wr11_fo92_0 T3 (oS rfl (Yk.cell1 wr11_ty4 rfl (vr (PQ n79 0) rfl) (cellAt hb82 (show (partsC (⟨false, true, false, false, false, false, false, false⟩ : Parts))[0]? = some (.bool (false) : Value) from parts_g0 (⟨false, true, false, false, false, false, false, false⟩ : Parts))) (oZ (tN (hK191 _ _ (wpF_false (vr (.bool (false)) rfl) (wpF_skip (tN (hK190 _ _ (sk fun K192 hK192 => (sk fun K193 hK193 => (wt (oS rfl (Yk.fieldAt wr11_fo92_1 T3 (oS rfl (Yk.cell1 wr11_ty4 rfl (vr (PQ n79 1) rfl) (cellAt hb82 (show (partsC (⟨false, true, false, false, false, false, false, false⟩ : Parts))[1]? = some (.bool (true) : Value) from parts_g1 (⟨false, true, false, false, false, false, false, false⟩ : Parts))) ?_))))))))))))))))))))))
  refine oZ (tN (hK193 _ _ (wpF_true (vr (.bool (true)) rfl) (sk fun K194 hK194 => (wt (oS rfl (Yk.cell1 wr11_ty109 rfl T1 (cellAt hb14 (show _ = some (PQ r 0 : Value) from rfl)) (oS rfl (Yk.mkFunc (vs := #[PQ n16 0, PQ n2 0]) (by simp only [List.map_toArray, List.map_cons, List.map_nil]; exact congrArg List.toArray (list2 T2 T1)) ?_)))))))))
  have hC1 : RC w0 r n16 n2 n79 v b := ⟨hr, lr, by omega, by omega, by omega, by omega, by omega, by omega, by omega, by omega, by omega, hl⟩
  refine oP rfl (Yp.callA3 wr11_pl111 (vr (PQ r 0) rfl) (vr (NI 65536) rfl) (vr (.func (.func 115) #[] #[PQ n16 0, PQ n2 0]) rfl) ?_)
  refine calls_either (reads2_any hC1 (⟨hb, hb31, hb14, hb82, hE0, hle_j2⟩ : RS w0 r n16 n2 n79 v b (⟨false, true, false, false, false, false, false, false⟩ : Parts) _ j2 ((⟨c1, ((c2 : Nat) : Int), [], [], [], 0, 0, zid, [], [], zid, zid, false, 0⟩, ⟨(Value.slice none 0 0), (Value.slice none 0 0), (Value.slice none 0 0), (Value.slice none 0 0)⟩) : MsgV)) rfl (OG.nil _ _ _ _ _) ⟨(fun h => by cases h), (fun h => by cases h), (fun h => by cases h), (fun h => by cases h)⟩) ?_ ?_
  rotate_left
  ·
   rintro ch w195 ⟨hPx, rfl, hgx⟩
   refine thenF_panic (thenF_panic (postP_panic ?_))
   exact .inr ⟨_, rfl, by rw [hD]; simp only [hPx, Option.bind_some, Option.bind_none], rfl, hgx⟩
  rintro v_ w197 ⟨rfl, l1, i1, u1, hPb1, hS1, ho1, ap_u1⟩
  obtain ⟨hb, hbm, hbg, hbn, hE0, hle_i1⟩ := hS1
  have hl198 := bl hb
  have hl199 := bl hbm
  have hl200 := bl hbg
  have hl201 := bl hbn
  refine oZ (tN (hK194 _ _ (wt (oS rfl (Yk.cell1 wr11_ty109 rfl T1 (cellAt hbg (show _ = some (PQ r 0 : Value) from rfl)) (oS rfl (Yk.mkFunc (vs := #[PQ n16 0, PQ n2 0]) (by simp only [List.map_toArray, List.map_cons, List.map_nil]; exact congrArg List.toArray (list2 T2 T1)) ?_)))))))
  have hC2 : RC w0 r n16 n2 n79 v b := ⟨hr, lr, by omega, by omega, by omega, by omega, by omega, by omega, by omega, by omega, by omega, hl⟩
  refine oP rfl (Yp.callA3 wr11_pl111 (vr (PQ r 0) rfl) (vr (NI 65536) rfl) (vr (.func (.func 116) #[] #[PQ n16 0, PQ n2 0]) rfl) ?_)
  refine calls_either (reads3_any hC2 (⟨hb, hbm, hbg, hbn, hE0, hle_i1⟩ : RS w0 r n16 n2 n79 v b (⟨false, true, false, false, false, false, false, false⟩ : Parts) _ i1 ((⟨c1, ((c2 : Nat) : Int), [], l1, [], 0, 0, zid, [], [], zid, zid, false, 0⟩, ⟨(Value.slice none 0 0), u1, (Value.slice none 0 0), (Value.slice none 0 0)⟩) : MsgV)) rfl (OG.nil _ _ _ _ _) ⟨(fun h => by cases h), (fun h => by cases h), (fun h => by cases h), (fun h => by cases h)⟩ ho1 ap_u1 (apartv_nil _) (apartv_nil' _)) ?_ ?_
  rotate_left
  ·
   rintro ch w202 ⟨hPx, rfl, hgx⟩
   refine thenF_panic (postP_panic ?_)
   exact .inr ⟨_, rfl, by rw [hD]; simp only [hPb1, hPx, Option.bind_some, Option.bind_none], rfl, hgx⟩
  rintro v_ w204 ⟨rfl, l2, i2, u2, hPb2, hS2, ho2, ap_u2, hoq, aq_, qa_⟩
  obtain ⟨hb, hbm, hbg, hbn, hE0, hle_i2⟩ := hS2
  have hl205 := bl hb
  have hl206 := bl hbm
  have hl207 := bl hbg
  have hl208 := bl hbn
  refine oZ (tN (hK192 _ _ (sk fun K209 hK209 => (sk fun K210 hK210 => (wt (oS rfl (Yk.fieldAt wr11_fo92_2 T3 (oS rfl (Yk.cell1 wr11_ty4 rfl (vr (PQ n79 2) rfl) (cellAt hbn (show (partsC (⟨false, true, false, false, false, false, false, false⟩ : Parts))[2]? = some (.bool (false) : Value) from parts_g2 (⟨false, true, false, false, false, false, false, false⟩ : Parts))) (oZ (tN (hK210 _ _ (wpF_false (vr (.bool (false)) rfl) (wpF_skip (tN (hK209 _ _ (sk fun K211 hK211 => (sk fun K212 hK212 => (wt (oS rfl (Yk.fieldAt wr11_fo92_3 T3 ?_)))))))))))))))))))))
  refine oS rfl (Yk.cell1 wr11_ty4 rfl (vr (PQ n79 3) rfl) (cellAt hbn (show (partsC (⟨false, true, false, false, false, false, false, false⟩ : Parts))[3]? = some (.bool (false) : Value) from parts_g3 (⟨false, true, false, false, false, false, false, false⟩ : Parts))) (oZ (tN (hK212 _ _ (wpF_false (vr (.bool (false)) rfl) (wpF_skip (tN (hK211 _ _ (sk fun K213 hK213 => (sk fun K214 hK214 => (wt (oS rfl (Yk.fieldAt wr11_fo92_4 T3 (oS rfl (Yk.cell1 wr11_ty4 rfl (vr (PQ n79 4) rfl) (cellAt hbn (show (partsC (⟨false, true, false, false, false, false, false, false⟩ : Parts))[4]? = some (.bool (false) : Value) from parts_g4 (⟨false, true, false, false, false, false, false, false⟩ : Parts))) (oZ (tN (hK214 _ _ (wpF_false (vr (.bool (false)) rfl) (wpF_skip (tN (hK213 _ _ ?_))))))))))))))))))))))
  refine sk fun K215 hK215 => (sk fun K216 hK216 => (wt (oS rfl (Yk.fieldAt wr11_fo92_5 T3 (oS rfl (Yk.cell1 wr11_ty4 rfl (vr (PQ n79 5) rfl) (cellAt hbn (show (partsC (⟨false, true, false, false, false, false, false, false⟩ : Parts))[5]? = some (.bool (false) : Value) from parts_g5 (⟨false, true, false, false, false, false, false, false⟩ : Parts))) (oZ (tN (hK216 _ _ (wpF_false (vr (.bool (false)) rfl) (wpF_skip (tN (hK215 _ _ (sk fun K217 hK217 => (sk fun K218 hK218 => (wt (oS rfl (Yk.fieldAt wr11_fo92_6 T3 (oS rfl (Yk.cell1 wr11_ty4 rfl (vr (PQ n79 6) rfl) (cellAt hbn (show (partsC (⟨false, true, false, false, false, false, false, false⟩ : Parts))[6]? = some (.bool (false) : Value) from parts_g6 (⟨false, true, false, false, false, false, false, false⟩ : Parts))) (oZ ?_)))))))))))))))))))))
  refine tN (hK218 _ _ (wpF_false (vr (.bool (false)) rfl) (wpF_skip (tN (hK217 _ _ (sk fun K219 hK219 => (sk fun K220 hK220 => (wt (oS rfl (Yk.fieldAt wr11_fo92_7 T3 (oS rfl (Yk.cell1 wr11_ty4 rfl (vr (PQ n79 7) rfl) (cellAt hbn (show (partsC (⟨false, true, false, false, false, false, false, false⟩ : Parts))[7]? = some (.bool (false) : Value) from parts_g7 (⟨false, true, false, false, false, false, false, false⟩ : Parts))) (oZ ?_)))))))))))))
  have hMl : MsgLt (((⟨c1, ((c2 : Nat) : Int), [], l1, l2, 0, 0, zid, [], [], zid, zid, false, 0⟩, ⟨(Value.slice none 0 0), u1, u2, (Value.slice none 0 0)⟩) : MsgV) : MsgV).1 := ⟨by simp, fun u hu => (by cases hu), by have := idsP_lt hPb1; simp only at this ⊢; omega, by have := idsP_lt hPb2; simp only at this ⊢; omega, by simp⟩
  by_cases hj : i2 = b.length
  ·refine tN (hK220 _ _ (wpF_false (vr (.bool (false)) rfl) (wpF_skip (tN (hK219 _ _ (sk fun K221 hK221 => ?_))))))
   refine wpF_draw_endE 14 _ [Is (PQ r 0), Is (PQ r 0), Is (PQ r 1), Is (NI i2), Is (PQ r 0), Is (PQ r 0), Is (PQ r 0), Is (v), Is (NI b.length), Is (.bool (true)), Is (.bool (true)), Is (.agg (msgC ((⟨c1, ((c2 : Nat) : Int), [], l1, l2, 0, 0, zid, [], [], zid, zid, false, 0⟩, ⟨(Value.slice none 0 0), u1, u2, (Value.slice none 0 0)⟩) : MsgV)).toArray), Is (.bool (rightB (((⟨c1, ((c2 : Nat) : Int), [], l1, l2, 0, 0, zid, [], [], zid, zid, false, 0⟩, ⟨(Value.slice none 0 0), u1, u2, (Value.slice none 0 0)⟩) : MsgV) : MsgV).1)), Is (.bool (rightB (((⟨c1, ((c2 : Nat) : Int), [], l1, l2, 0, 0, zid, [], [], zid, zid, false, 0⟩, ⟨(Value.slice none 0 0), u1, u2, (Value.slice none 0 0)⟩) : MsgV) : MsgV).1))] (by kernel_rfl) [79, 80, 81, 82, 83, 84, 85, 86, 87, 88, 89, 90, 91, 92, 93] (by kernel_rfl) (by kernel_rfl) (by kernel_rfl) rfl rfl rfl (fun _ _ => trivial) (si2 (si12 trivial)) ?hs7027 ?hQ7027
   case hs7027 =>
    refine ⟨?_, ?_, ?_, ?_, ?_, ?_, ?_, ?_, ?_, ?_, ?_, ?_, ?_, ?_, ?_, trivial⟩
    ·refine stepFL (stepN rfl fun σ w1 hC h => ?_)
     have e1 := (eqo (h 1 (by decide))).trans T1
     exact Yk.cell1 wr11_ty109 rfl e1 (cellAt (eb hC hbg) (show _ = some (PQ r 0 : Value) from rfl)) ⟨Ext.refl _, rfl⟩
    ·refine stepFL (stepN rfl fun σ w1 hC h => ?_)
     have e79 := eqo (h 79 (by decide))
     exact Yk.nilCheck e79 ⟨Ext.refl _, rfl⟩
    ·refine stepFL (stepN rfl fun σ w1 hC h => ?_)
     have e80 := eqo (h 80 (by decide))
     exact Yk.fieldAt wr11_fo111_1 e80 ⟨Ext.refl _, rfl⟩
    ·refine stepFL (stepN rfl fun σ w1 hC h => ?_)
     have e81 := eqo (h 81 (by decide))
     exact Yk.cell1 wr11_ty3 rfl e81 (cellAt (eb hC hb) (show (rdC (rdX v b (i2)))[1]? = some (NI i2 : Value) from rd_g1 (rdX v b (i2)))) ⟨Ext.refl _, rfl⟩
    ·refine stepFL (stepN rfl fun σ w1 hC h => ?_)
     have e1 := (eqo (h 1 (by decide))).trans T1
     exact Yk.cell1 wr11_ty109 rfl e1 (cellAt (eb hC hbg) (show _ = some (PQ r 0 : Value) from rfl)) ⟨Ext.refl _, rfl⟩
    ·refine stepFL (stepN rfl fun σ w1 hC h => ?_)
     have e83 := eqo (h 83 (by decide))
     exact Yk.nilCheck e83 ⟨Ext.refl _, rfl⟩
    ·refine stepFL (stepN rfl fun σ w1 hC h => ?_)
     have e84 := eqo (h 84 (by decide))
     exact Yk.fieldAt wr11_fo111_0 e84 ⟨Ext.refl _, rfl⟩
    ·refine stepFL (stepN rfl fun σ w1 hC h => ?_)
     have e85 := eqo (h 85 (by decide))
     exact Yk.cell1 wr11_ty26 rfl e85 (cellAt (eb hC hb) (show (rdC (rdX v b (i2)))[0]? = some (v : Value) from rd_g0 (rdX v b (i2)))) ⟨Ext.refl _, rfl⟩
    ·refine stepFL (stepN rfl fun σ w1 hC h => ?_)
     have e86 := eqo (h 86 (by decide))
     exact Yk.lenRB wr11_ty26 (RB.of (hr.keep (hE0.trans hC)) e86) ⟨Ext.refl _, rfl⟩
    ·refine stepFL (stepN rfl fun σ w1 hC h => ?_)
     have e82 := eqo (h 82 (by decide))
     have e87 := eqo (h 87 (by decide))
     exact Yk.eqI (a := (i2 : Nat)) (b := (b.length : Nat)) e82 e87 (k_eql _ _ _ _) ⟨Ext.refl _, (congrArg Value.bool (decide_eq_true (hj)))⟩
    ·refine stepFL (stepN rfl fun σ w1 hC h => ?_)
     have e88 := eqo (h 88 (by decide))
     exact Yk.move e88 ⟨Ext.refl _, rfl⟩
    ·refine stepFL (stepY 10 true 89 rfl rfl (fun _ _ h => h) fun σ w1 hC h => ?_)
     have e2 := (eqo (h 2 (by decide))).trans T2
     exact Yk.loadAll e2 (eb hC hbm) (wr11_ty29).choose_spec rfl (st_isz (msg_len ((⟨c1, ((c2 : Nat) : Int), [], l1, l2, 0, 0, zid, [], [], zid, zid, false, 0⟩, ⟨(Value.slice none 0 0), u1, u2, (Value.slice none 0 0)⟩) : MsgV)) wr11_isz29) ⟨Ext.refl _, rfl⟩
    ·refine stepFL (stepY 10 true 89 rfl rfl (fun _ _ h => h) fun σ w1 hC h => ?_)
     have e90 := eqo (h 90 (by decide))
     refine Yk.callA1 wr11_pl19 e90 ((right_any _ ((⟨c1, ((c2 : Nat) : Int), [], l1, l2, 0, 0, zid, [], [], zid, zid, false, 0⟩, ⟨(Value.slice none 0 0), u1, u2, (Value.slice none 0 0)⟩) : MsgV) (MsgAt.mk (RG.nil _ _ _) (RG.ofOwn (hoq.keep hC)) (RG.ofOwn (ho2.keep hC)) (RB.nil _)) hMl).mono ?_)
     rintro e w2 ⟨rfl, hx⟩
     exact ⟨_, rfl, hx, rfl⟩
    ·refine stepFL (stepN rfl fun σ w1 hC h => ?_)
     have e89 := eqo (h 89 (by decide))
     have e91 := eqo (h 91 (by decide))
     exact Yk.pickT e89 e91 ⟨Ext.refl _, rfl⟩
    ·exact trivial
   intro ρ222 w223 hx224 he hf
   obtain ⟨-, -, -, -, -, -, -, -, -, -, -, -, -, k92, -⟩ := hf
   obtain ⟨T0, T1, T2, T3, T4, T22, T27, T35, T40, T45, T50, T56, T75, -⟩ := he.hold [(0, _), (1, _), (2, _), (3, _), (4, _), (22, .bool (false)), (27, .bool (true)), (35, .bool (false)), (40, .bool (false)), (45, .bool (false)), (50, .bool (false)), (56, .bool (false)), (75, .bool (false))] ⟨T0, T1, T2, T3, T15, rfl, rfl, rfl, rfl, rfl, rfl, rfl, rfl, trivial⟩ rfl
   clear he
   have hE0 := hE0.trans hx224
   have hb := eb hx224 hb
   have hbm := eb hx224 hbm
   have hbg := eb hx224 hbg
   have hbn := eb hx224 hbn
   have ho2 := ho2.keep hx224
   have hoq := hoq.keep hx224
   have T92 : ρ222 92 = .bool (rightB (((⟨c1, ((c2 : Nat) : Int), [], l1, l2, 0, 0, zid, [], [], zid, zid, false, 0⟩, ⟨(Value.slice none 0 0), u1, u2, (Value.slice none 0 0)⟩) : MsgV) : MsgV).1) := k92
   clear k92
   refine Yp.callA1 wr11_pl109 T92 ?_
   refine calls_either (needW_any _ (rightB (((⟨c1, ((c2 : Nat) : Int), [], l1, l2, 0, 0, zid, [], [], zid, zid, false, 0⟩, ⟨(Value.slice none 0 0), u1, u2, (Value.slice none 0 0)⟩) : MsgV) : MsgV).1)) ?_ ?_
   rotate_left
   ·
    rintro ch w227 ⟨rfl, hb, hx⟩
    refine thenF_panic (postP_panic ?_)
    exact .inr ⟨_, rfl, by rw [hD]; simp only [hPb1, hPb2, Option.bind_some]; refine if_neg ?_; rintro ⟨h1, h2⟩; exact Bool.noConfusion (h2.symm.trans hb), rfl, hE0.trans hx⟩
   rintro v_ w228 ⟨rfl, hb225, hx226⟩
   have hE0 := hE0.trans hx226
   have hb := eb hx226 hb
   have hbm := eb hx226 hbm
   have hbg := eb hx226 hbg
   have hbn := eb hx226 hbn
   have ho2 := ho2.keep hx226
   have hoq := hoq.keep hx226
   intro ρ229 hu230
   have T0 : ρ229 0 = (PQ r 0 : Value) := (hu230 0 (by decide)).trans T0
   have T1 : ρ229 1 = (PQ n2 0 : Value) := (hu230 1 (by decide)).trans T1
   have T2 : ρ229 2 = (PQ n16 0 : Value) := (hu230 2 (by decide)).trans T2
   have T3 : ρ229 3 = (PQ n79 0 : Value) := (hu230 3 (by decide)).trans T3
   have T4 : ρ229 4 = (.bool (true) : Value) := (hu230 4 (by decide)).trans T4
   have T22 : ρ229 22 = (.bool (false) : Value) := (hu230 22 (by decide)).trans T22
   have T27 : ρ229 27 = (.bool (true) : Value) := (hu230 27 (by decide)).trans T27
   have T35 : ρ229 35 = (.bool (false) : Value) := (hu230 35 (by decide)).trans T35
   have T40 : ρ229 40 = (.bool (false) : Value) := (hu230 40 (by decide)).trans T40
   have T45 : ρ229 45 = (.bool (false) : Value) := (hu230 45 (by decide)).trans T45
   have T50 : ρ229 50 = (.bool (false) : Value) := (hu230 50 (by decide)).trans T50
   have T56 : ρ229 56 = (.bool (false) : Value) := (hu230 56 (by decide)).trans T56
   have T75 : ρ229 75 = (.bool (false) : Value) := (hu230 75 (by decide)).trans T75
   refine tN (hK221 _ _ (sk fun K231 hK231 => (wt (oS rfl (Yk.loadAll T2 hbm (wr11_ty29).choose_spec rfl (st_isz (msg_len ((⟨c1, ((c2 : Nat) : Int), [], l1, l2, 0, 0, zid, [], [], zid, zid, false, 0⟩, ⟨(Value.slice none 0 0), u1, u2, (Value.slice none 0 0)⟩) : MsgV)) wr11_isz29) (oS rfl (Yk.storeAll T2 (vr (.agg (msgC ((⟨c1, ((c2 : Nat) : Int), [], l1, l2, 0, 0, zid, [], [], zid, zid, false, 0⟩, ⟨(Value.slice none 0 0), u1, u2, (Value.slice none 0 0)⟩) : MsgV)).toArray) rfl) hbm (by simp only [List.size_toArray, msg_len]) (st_isz (msg_len _) wr11_isz29) (msg_one (x := ((⟨c1, ((c2 : Nat) : Int), [], l1, l2, 0, 0, zid, [], [], zid, zid, false, 0⟩, ⟨(Value.slice none 0 0), u1, u2, (Value.slice none 0 0)⟩) : MsgV)) rfl (RG.one (RG.ofOwn hoq)).2 (RG.one (RG.ofOwn ho2)).2 rfl) fun w232 hb233 hg234 hs235 => ?_)))))))
   have hE0 := row_fresh hE0 hg234 (Nat.le_trans (Nat.le_refl _) (by omega))
   have hb := kb hg234 hb (by omega)
   clear hbm
   have hbg := kb hg234 hbg (by omega)
   have hbn := kb hg234 hbn (by omega)
   have ho2 := OG.kept ho2 hg234 ap_u2.m
   have hoq := OG.kept hoq hg234 ap_u1.m
   have hbm : w232.heap[n16]? = some (.cells (msgC ((⟨c1, ((c2 : Nat) : Int), [], l1, l2, 0, 0, zid, [], [], zid, zid, false, 0⟩, ⟨(Value.slice none 0 0), u1, u2, (Value.slice none 0 0)⟩) : MsgV)).toArray 29 (0, 0)) := hb233; clear hb233
   have hl236 := bl hbm
   refine oZ (tN (hK231 _ _ (wpF_ret (postP_ret (fn := Tryd.f67) _ rfl [.agg (msgC ((⟨c1, ((c2 : Nat) : Int), [], l1, l2, 0, 0, zid, [], [], zid, zid, false, 0⟩, ⟨(Value.slice none 0 0), u1, u2, (Value.slice none 0 0)⟩) : MsgV)).toArray] (.agg (msgC ((⟨c1, ((c2 : Nat) : Int), [], l1, l2, 0, 0, zid, [], [], zid, zid, false, 0⟩, ⟨(Value.slice none 0 0), u1, u2, (Value.slice none 0 0)⟩) : MsgV)).toArray) rfl ⟨ResF.row T2 hbm (wr11_ty29).choose_spec rfl (st_isz (msg_len _) wr11_isz29), trivial⟩ ?_))))
   exact .inl ⟨_, rfl, ((⟨c1, ((c2 : Nat) : Int), [], l1, l2, 0, 0, zid, [], [], zid, zid, false, 0⟩, ⟨(Value.slice none 0 0), u1, u2, (Value.slice none 0 0)⟩) : MsgV), by rw [hD]; simp only [hPb1, hPb2, Option.bind_some]; refine if_pos ?_; exact ⟨hj, hb225⟩, rfl, (MsgAt.mk (RG.nil _ _ _) (RG.ofOwn hoq) (RG.ofOwn ho2) (RB.nil _)), ⟨(fun k h => by cases h), (fun k h => (hoq.2.lt k h).1), (fun k h => (ho2.2.lt k h).1), (fun k h => by cases h)⟩, hE0⟩
  refine tN (hK220 _ _ (wpF_false (vr (.bool (false)) rfl) (wpF_skip (tN (hK219 _ _ (sk fun K237 hK237 => ?_))))))
  refine wpF_draw_endE 14 _ [Is (PQ r 0), Is (PQ r 0), Is (PQ r 1), Is (NI i2), Is (PQ r 0), Is (PQ r 0), Is (PQ r 0), Is (v), Is (NI b.length), Is (.bool (false)), Is (.bool (false)), Is undef, Is undef, Is (.bool (false))] (by kernel_rfl) [79, 80, 81, 82, 83, 84, 85, 86, 87, 88, 89, 90, 91, 92, 93] (by kernel_rfl) (by kernel_rfl) (by kernel_rfl) rfl rfl rfl (fun _ _ => trivial) (si2 (si12 trivial)) ?hs8027 ?hQ8027
  case hs8027 =>
   refine ⟨?_, ?_, ?_, ?_, ?_, ?_, ?_, ?_, ?_, ?_, ?_, ?_, ?_, ?_, ?_, trivial⟩
   ·refine stepFL (stepN rfl fun σ w1 hC h => ?_)
    have e1 := (eqo (h 1 (by decide))).trans T1
    exact Yk.cell1 wr11_ty109 rfl e1 (cellAt (eb hC hbg) (show _ = some (PQ r 0 : Value) from rfl)) ⟨Ext.refl _, rfl⟩
   ·refine stepFL (stepN rfl fun σ w1 hC h => ?_)
    have e79 := eqo (h 79 (by decide))
    exact Yk.nilCheck e79 ⟨Ext.refl _, rfl⟩
   ·refine stepFL (stepN rfl fun σ w1 hC h => ?_)
    have e80 := eqo (h 80 (by decide))
    exact Yk.fieldAt wr11_fo111_1 e80 ⟨Ext.refl _, rfl⟩
   ·refine stepFL (stepN rfl fun σ w1 hC h => ?_)
    have e81 := eqo (h 81 (by decide))
    exact Yk.cell1 wr11_ty3 rfl e81 (cellAt (eb hC hb) (show (rdC (rdX v b (i2)))[1]? = some (NI i2 : Value) from rd_g1 (rdX v b (i2)))) ⟨Ext.refl _, rfl⟩
   ·refine stepFL (stepN rfl fun σ w1 hC h => ?_)
    have e1 := (eqo (h 1 (by decide))).trans T1
    exact Yk.cell1 wr11_ty109 rfl e1 (cellAt (eb hC hbg) (show _ = some (PQ r 0 : Value) from rfl)) ⟨Ext.refl _, rfl⟩
   ·refine stepFL (stepN rfl fun σ w1 hC h => ?_)
    have e83 := eqo (h 83 (by decide))
    exact Yk.nilCheck e83 ⟨Ext.refl _, rfl⟩
   ·refine stepFL (stepN rfl fun σ w1 hC h => ?_)
    have e84 := eqo (h 84 (by decide))
    exact Yk.fieldAt wr11_fo111_0 e84 ⟨Ext.refl _, rfl⟩
   ·refine stepFL (stepN rfl fun σ w1 hC h => ?_)
    have e85 := eqo (h 85 (by decide))
    exact Yk.cell1 wr11_ty26 rfl e85 (cellAt (eb hC hb) (show (rdC (rdX v b (i2)))[0]? = some (v : Value) from rd_g0 (rdX v b (i2)))) ⟨Ext.refl _, rfl⟩
   ·refine stepFL (stepN rfl fun σ w1 hC h => ?_)
    have e86 := eqo (h 86 (by decide))
    exact Yk.lenRB wr11_ty26 (RB.of (hr.keep (hE0.trans hC)) e86) ⟨Ext.refl _, rfl⟩
   ·refine stepFL (stepN rfl fun σ w1 hC h => ?_)
    have e82 := eqo (h 82 (by decide))
    have e87 := eqo (h 87 (by decide))
    exact Yk.eqI (a := (i2 : Nat)) (b := (b.length : Nat)) e82 e87 (k_eql _ _ _ _) ⟨Ext.refl _, (congrArg Value.bool (decide_eq_false (hj)))⟩
   ·refine stepFL (stepN rfl fun σ w1 hC h => ?_)
    have e88 := eqo (h 88 (by decide))
    exact Yk.move e88 ⟨Ext.refl _, rfl⟩
   ·refine stepFL (stepX 10 true 89 rfl rfl (fun x _ (h : x = .bool false) => by rw [h]; intro h; cases h) fun _ => rfl)
   ·refine stepFL (stepX 10 true 89 rfl rfl (fun x _ (h : x = .bool false) => by rw [h]; intro h; cases h) fun _ => rfl)
   ·refine stepFL (stepN rfl fun σ w1 hC h => ?_)
    have e89 := eqo (h 89 (by decide))
    exact Yk.pickF e89 (vr (.bool (false)) rfl) ⟨Ext.refl _, rfl⟩
   ·exact trivial
  intro ρ238 w239 hx240 he hf
  obtain ⟨-, -, -, -, -, -, -, -, -, -, -, -, -, k92, -⟩ := hf
  obtain ⟨T0, T1, T2, T3, T4, T22, T27, T35, T40, T45, T50, T56, T75, -⟩ := he.hold [(0, _), (1, _), (2, _), (3, _), (4, _), (22, .bool (false)), (27, .bool (true)), (35, .bool (false)), (40, .bool (false)), (45, .bool (false)), (50, .bool (false)), (56, .bool (false)), (75, .bool (false))] ⟨T0, T1, T2, T3, T15, rfl, rfl, rfl, rfl, rfl, rfl, rfl, rfl, trivial⟩ rfl
  clear he
  have hE0 := hE0.trans hx240
  have hb := eb hx240 hb
  have hbm := eb hx240 hbm
  have hbg := eb hx240 hbg
  have hbn := eb hx240 hbn
  have ho2 := ho2.keep hx240
  have hoq := hoq.keep hx240
  have T92 : ρ238 92 = .bool (false) := k92
  clear k92
  refine Yp.callA1 wr11_pl109 T92 ?_
  refine calls_either (needW_any _ (false)) ?_ ?_
  rotate_left
  ·
   rintro ch w243 ⟨rfl, hb, hx⟩
   refine thenF_panic (postP_panic ?_)
   exact .inr ⟨_, rfl, by rw [hD]; simp only [hPb1, hPb2, Option.bind_some]; refine if_neg ?_; rintro ⟨h1, h2⟩; exact hj h1, rfl, hE0.trans hx⟩
  rintro v_ w244 ⟨rfl, hb241, hx242⟩
  cases hb241
 ·have hD := decP_eq hP1 hK hP2
  rw [restP4 (m := (⟨c1, ((c2 : Nat) : Int), [], [], [], 0, 0, zid, [], [], zid, zid, false, 0⟩ : Msg)) hk] at hD
  refine tN (hK91 _ _ (sk fun K245 hK245 => (sk fun K246 hK246 => (wt (oS rfl (Yk.fieldAt wr11_fo92_0 T3 (oS rfl (Yk.cell1 wr11_ty4 rfl (vr (PQ n79 0) rfl) (cellAt hb82 (show (partsC (⟨false, false, true, false, true, false, false, false⟩ : Parts))[0]? = some (.bool (false) : Value) from parts_g0 (⟨false, false, true, false, true, false, false, false⟩ : Parts))) (oZ (tN (hK246 _ _ (wpF_false (vr (.bool (false)) rfl) (wpF_skip (tN (hK245 _ _ (sk fun K247 hK247 => (sk fun K248 hK248 => (wt (oS rfl (Yk.fieldAt wr11_fo92_1 T3 (oS rfl (Yk.cell1 wr11_ty4 rfl (vr (PQ n79 1) rfl) (cellAt hb82 (show (partsC (⟨false, false, true, false, true, false, false, false⟩ : Parts))[1]? = some (.bool (false) : Value) from parts_g1 (⟨false, false, true, false, true, false, false, false⟩ : Parts))) ?_))))))))))))))))))))))
  refine oZ (tN (hK248 _ _ (wpF_false (vr (.bool (false)) rfl) (wpF_skip (tN (hK247 _ _ (sk fun K249 hK249 => (sk fun K250 hK250 => (wt (oS rfl (Yk.fieldAt wr11_fo92_2 T3 (oS rfl (Yk.cell1 wr11_ty4 rfl (vr (PQ n79 2) rfl) (cellAt hb82 (show (partsC (⟨false, false, true, false, true, false, false, false⟩ : Parts))[2]? = some (.bool (true) : Value) from parts_g2 (⟨false, false, true, false, true, false, false, false⟩ : Parts))) (oZ (tN (hK250 _ _ (wpF_true (vr (.bool (true)) rfl) (wt (oS rfl (Yk.cell1 wr11_ty109 rfl T1 (cellAt hb14 (show _ = some (PQ r 0 : Value) from rfl)) (oP rfl (Yp.callA1 wr11_pl110 (vr (PQ r 0) rfl) ?_))))))))))))))))))))))
  refine calls_either (numberW_any _ r v b j2 hb (hr.keep hE0) hapr hle_j2 hl) ?_ ?_
  rotate_left
  ·
   rintro ch w253 ⟨hPx, rfl, hgx⟩
   refine thenF_panic (postP_panic ?_)
   exact .inr ⟨_, rfl, by rw [hD]; simp only [hPx, Option.bind_some, Option.bind_none], rfl, (row_fresh hE0 hgx lr)⟩
  rintro v_ w255 ⟨d1, i1, hPb1, rfl, hb251, hg252⟩
  have hE0 := row_fresh hE0 hg252 (Nat.le_trans (Nat.le_refl _) lr)
  have hb14 := kb hg252 hb14 (by omega)
  have hb82 := kb hg252 hb82 (by omega)
  clear hb
  have hb31 := kb hg252 hb31 (by omega)
  have hb := hb251; clear hb251
  have hle_i1 := numP_le hle_j2 hPb1
  have hl256 := bl hb
  refine oS rfl (Yk.fieldAt wr11_fo29_5 T2 (oS rfl (Yk.storeC (i := 5) (v := NI d1) (vr (PQ n16 5) rfl) (vr (NI d1) rfl) hb31 (by rw [msg_len]; decide) wr11_isz3 rfl rfl fun w257 hb258 hg259 hs260 => ?_)))
  have hE0 := row_fresh hE0 hg259 (Nat.le_trans (Nat.le_refl _) (by omega))
  have hb14 := kb hg259 hb14 (by omega)
  have hb82 := kb hg259 hb82 (by omega)
  clear hb31
  have hb := kb hg259 hb (by omega)
  have hb31 : w257.heap[n16]? = some (.cells (msgC ((⟨c1, ((c2 : Nat) : Int), [], [], [], ((d1 : Nat) : Int), 0, zid, [], [], zid, zid, false, 0⟩, ⟨(Value.slice none 0 0), (Value.slice none 0 0), (Value.slice none 0 0), (Value.slice none 0 0)⟩) : MsgV)).toArray 29 (0, 0)) := blk_eq hb258 (msg_s5 ((⟨c1, ((c2 : Nat) : Int), [], [], [], 0, 0, zid, [], [], zid, zid, false, 0⟩, ⟨(Value.slice none 0 0), (Value.slice none 0 0), (Value.slice none 0 0), (Value.slice none 0 0)⟩) : MsgV) ((d1 : Nat) : Int)); clear hb258
  have hl261 := bl hb31
  refine oZ (tN (hK249 _ _ (sk fun K262 hK262 => (sk fun K263 hK263 => (wt (oS rfl (Yk.fieldAt wr11_fo92_3 T3 (oS rfl (Yk.cell1 wr11_ty4 rfl (vr (PQ n79 3) rfl) (cellAt hb82 (show (partsC (⟨false, false, true, false, true, false, false, false⟩ : Parts))[3]? = some (.bool (false) : Value) from parts_g3 (⟨false, false, true, false, true, false, false, false⟩ : Parts))) (oZ (tN (hK263 _ _ (wpF_false (vr (.bool (false)) rfl) (wpF_skip (tN (hK262 _ _ (sk fun K264 hK264 => (sk fun K265 hK265 => (wt (oS rfl (Yk.fieldAt wr11_fo92_4 T3 ?_)))))))))))))))))))))
  refine oS rfl (Yk.cell1 wr11_ty4 rfl (vr (PQ n79 4) rfl) (cellAt hb82 (show (partsC (⟨false, false, true, false, true, false, false, false⟩ : Parts))[4]? = some (.bool (true) : Value) from parts_g4 (⟨false, false, true, false, true, false, false, false⟩ : Parts))) (oZ (tN (hK265 _ _ (wpF_true (vr (.bool (true)) rfl) (wt (oS rfl (Yk.cell1 wr11_ty109 rfl T1 (cellAt hb14 (show _ = some (PQ r 0 : Value) from rfl)) (oP rfl (Yp.callA1 wr11_pl114 (vr (PQ r 0) rfl) ?_))))))))))
  refine calls_either (idW_any _ r v b i1 hb (hr.keep hE0) hapr hle_i1 hl) ?_ ?_
  rotate_left
  ·
   rintro ch w268 ⟨hPx, rfl, hgx⟩
   refine thenF_panic (postP_panic ?_)
   exact .inr ⟨_, rfl, by rw [hD]; simp only [hPb1, hPx, Option.bind_some, Option.bind_none], rfl, (row_fresh hE0 hgx lr)⟩
  rintro v_ w270 ⟨d2, i2, hPb2, rfl, hb266, hg267⟩
  have hE0 := row_fresh hE0 hg267 (Nat.le_trans (Nat.le_refl _) lr)
  have hb14 := kb hg267 hb14 (by omega)
  have hb82 := kb hg267 hb82 (by omega)
  clear hb
  have hb31 := kb hg267 hb31 (by omega)
  have hb := hb266; clear hb266
  have hle_i2 := idP_le hPb2
  have hl271 := bl hb
  refine oS rfl (Yk.fieldAt wr11_fo29_7 T2 (oS rfl (Yk.storeMid (a := msg_a7 ((⟨c1, ((c2 : Nat) : Int), [], [], [], ((d1 : Nat) : Int), 0, zid, [], [], zid, zid, false, 0⟩, ⟨(Value.slice none 0 0), (Value.slice none 0 0), (Value.slice none 0 0), (Value.slice none 0 0)⟩) : MsgV)) (m := Lib.byteCells zid.1) (z := msg_z7 ((⟨c1, ((c2 : Nat) : Int), [], [], [], ((d1 : Nat) : Int), 0, zid, [], [], zid, zid, false, 0⟩, ⟨(Value.slice none 0 0), (Value.slice none 0 0), (Value.slice none 0 0), (Value.slice none 0 0)⟩) : MsgV)) (cells := Lib.byteCells d2.1) (vr (PQ n16 7) rfl) (vr (AB d2.1) rfl) (msg_m7 ((⟨c1, ((c2 : Nat) : Int), [], [], [], ((d1 : Nat) : Int), 0, zid, [], [], zid, zid, false, 0⟩, ⟨(Value.slice none 0 0), (Value.slice none 0 0), (Value.slice none 0 0), (Value.slice none 0 0)⟩) : MsgV) ▸ hb31) (msg_n7 ((⟨c1, ((c2 : Nat) : Int), [], [], [], ((d1 : Nat) : Int), 0, zid, [], [], zid, zid, false, 0⟩, ⟨(Value.slice none 0 0), (Value.slice none 0 0), (Value.slice none 0 0), (Value.slice none 0 0)⟩) : MsgV)) (by rw [Lib.byteCells_length, Lib.byteCells_length, zid.2, d2.2]) (by rw [Lib.byteCells_length, d2.2]; exact wr11_isz25) (byteCells_one _) fun w272 hb273 hg274 hs275 => ?_)))
  have hE0 := row_fresh hE0 hg274 (Nat.le_trans (Nat.le_refl _) (by omega))
  have hb14 := kb hg274 hb14 (by omega)
  have hb82 := kb hg274 hb82 (by omega)
  clear hb31
  have hb := kb hg274 hb (by omega)
  have hb31 : w272.heap[n16]? = some (.cells (msgC ((⟨c1, ((c2 : Nat) : Int), [], [], [], ((d1 : Nat) : Int), 0, d2, [], [], zid, zid, false, 0⟩, ⟨(Value.slice none 0 0), (Value.slice none 0 0), (Value.slice none 0 0), (Value.slice none 0 0)⟩) : MsgV)).toArray 29 (0, 0)) := blk_eq hb273 (msg_s7 ((⟨c1, ((c2 : Nat) : Int), [], [], [], ((d1 : Nat) : Int), 0, zid, [], [], zid, zid, false, 0⟩, ⟨(Value.slice none 0 0), (Value.slice none 0 0), (Value.slice none 0 0), (Value.slice none 0 0)⟩) : MsgV) d2); clear hb273
  have hl276 := bl hb31
  refine oZ (tN (hK264 _ _ (sk fun K277 hK277 => (sk fun K278 hK278 => (wt (oS rfl (Yk.fieldAt wr11_fo92_5 T3 (oS rfl (Yk.cell1 wr11_ty4 rfl (vr (PQ n79 5) rfl) (cellAt hb82 (show (partsC (⟨false, false, true, false, true, false, false, false⟩ : Parts))[5]? = some (.bool (false) : Value) from parts_g5 (⟨false, false, true, false, true, false, false, false⟩ : Parts))) (oZ (tN (hK278 _ _ (wpF_false (vr (.bool (false)) rfl) (wpF_skip (tN (hK277 _ _ (sk fun K279 hK279 => (sk fun K280 hK280 => (wt (oS rfl (Yk.fieldAt wr11_fo92_6 T3 ?_)))))))))))))))))))))
  refine oS rfl (Yk.cell1 wr11_ty4 rfl (vr (PQ n79 6) rfl) (cellAt hb82 (show (partsC (⟨false, false, true, false, true, false, false, false⟩ : Parts))[6]? = some (.bool (false) : Value) from parts_g6 (⟨false, false, true, false, true, false, false, false⟩ : Parts))) (oZ (tN (hK280 _ _ (wpF_false (vr (.bool (false)) rfl) (wpF_skip (tN (hK279 _ _ (sk fun K281 hK281 => (sk fun K282 hK282 => (wt (oS rfl (Yk.fieldAt wr11_fo92_7 T3 (oS rfl (Yk.cell1 wr11_ty4 rfl (vr (PQ n79 7) rfl) (cellAt hb82 (show (partsC (⟨false, false, true, false, true, false, false, false⟩ : Parts))[7]? = some (.bool (false) : Value) from parts_g7 (⟨false, false, true, false, true, false, false, false⟩ : Parts))) (oZ ?_))))))))))))))))
  have hMl : MsgLt (((⟨c1, ((c2 : Nat) : Int), [], [], [], ((d1 : Nat) : Int), 0, d2, [], [], zid, zid, false, 0⟩, ⟨(Value.slice none 0 0), (Value.slice none 0 0), (Value.slice none 0 0), (Value.slice none 0 0)⟩) : MsgV) : MsgV).1 := ⟨by simp, fun u hu => (by cases hu), by simp, by simp, by simp⟩
  by_cases hj : i2 = b.length
  ·refine tN (hK282 _ _ (wpF_false (vr (.bool (false)) rfl) (wpF_skip (tN (hK281 _ _ (sk fun K283 hK283 => ?_))))))
   refine wpF_draw_endE 14 _ [Is (PQ r 0), Is (PQ r 0), Is (PQ r 1), Is (NI i2), Is (PQ r 0), Is (PQ r 0), Is (PQ r 0), Is (v), Is (NI b.length), Is (.bool (true)), Is (.bool (true)), Is (.agg (msgC ((⟨c1, ((c2 : Nat) : Int), [], [], [], ((d1 : Nat) : Int), 0, d2, [], [], zid, zid, false, 0⟩, ⟨(Value.slice none 0 0), (Value.slice none 0 0), (Value.slice none 0 0), (Value.slice none 0 0)⟩) : MsgV)).toArray), Is (.bool (rightB (((⟨c1, ((c2 : Nat) : Int), [], [], [], ((d1 : Nat) : Int), 0, d2, [], [], zid, zid, false, 0⟩, ⟨(Value.slice none 0 0), (Value.slice none 0 0), (Value.slice none 0 0), (Value.slice none 0 0)⟩) : MsgV) : MsgV).1)), Is (.bool (rightB (((⟨c1, ((c2 : Nat) : Int), [], [], [], ((d1 : Nat) : Int), 0, d2, [], [], zid, zid, false, 0⟩, ⟨(Value.slice none 0 0), (Value.slice none 0 0), (Value.slice none 0 0), (Value.slice none 0 0)⟩) : MsgV) : MsgV).1))] (by kernel_rfl) [79, 80, 81, 82, 83, 84, 85, 86, 87, 88, 89, 90, 91, 92, 93] (by kernel_rfl) (by kernel_rfl) (by kernel_rfl) rfl rfl rfl (fun _ _ => trivial) (si2 (si12 trivial)) ?hs9027 ?hQ9027
   case hs9027 =>
    refine ⟨?_, ?_, ?_, ?_, ?_, ?_, ?_, ?_, ?_, ?_, ?_, ?_, ?_, ?_, ?_, trivial⟩
    ·refine stepFL (stepN rfl fun σ w1 hC h => ?_)
     have e1 := (eqo (h 1 (by decide))).trans T1
     exact Yk.cell1 wr11_ty109 rfl e1 (cellAt (eb hC hb14) (show _ = some (PQ r 0 : Value) from rfl)) ⟨Ext.refl _, rfl⟩
    ·refine stepFL (stepN rfl fun σ w1 hC h => ?_)
     have e79 := eqo (h 79 (by decide))
     exact Yk.nilCheck e79 ⟨Ext.refl _, rfl⟩
    ·refine stepFL (stepN rfl fun σ w1 hC h => ?_)
     have e80 := eqo (h 80 (by decide))
     exact Yk.fieldAt wr11_fo111_1 e80 ⟨Ext.refl _, rfl⟩
    ·refine stepFL (stepN rfl fun σ w1 hC h => ?_)
     have e81 := eqo (h 81 (by decide))
     exact Yk.cell1 wr11_ty3 rfl e81 (cellAt (eb hC hb) (show (rdC (rdX v b (i2)))[1]? = some (NI i2 : Value) from rd_g1 (rdX v b (i2)))) ⟨Ext.refl _, rfl⟩
    ·refine stepFL (stepN rfl fun σ w1 hC h => ?_)
     have e1 := (eqo (h 1 (by decide))).trans T1
     exact Yk.cell1 wr11_ty109 rfl e1 (cellAt (eb hC hb14) (show _ = some (PQ r 0 : Value) from rfl)) ⟨Ext.refl _, rfl⟩
    ·refine stepFL (stepN rfl fun σ w1 hC h => ?_)
     have e83 := eqo (h 83 (by decide))
     exact Yk.nilCheck e83 ⟨Ext.refl _, rfl⟩
    ·refine stepFL (stepN rfl fun σ w1 hC h => ?_)
     have e84 := eqo (h 84 (by decide))
     exact Yk.fieldAt wr11_fo111_0 e84 ⟨Ext.refl _, rfl⟩
    ·refine stepFL (stepN rfl fun σ w1 hC h => ?_)
     have e85 := eqo (h 85 (by decide))
     exact Yk.cell1 wr11_ty26 rfl e85 (cellAt (eb hC hb) (show (rdC (rdX v b (i2)))[0]? = some (v : Value) from rd_g0 (rdX v b (i2)))) ⟨Ext.refl _, rfl⟩
    ·refine stepFL (stepN rfl fun σ w1 hC h => ?_)
     have e86 := eqo (h 86 (by decide))
     exact Yk.lenRB wr11_ty26 (RB.of (hr.keep (hE0.trans hC)) e86) ⟨Ext.refl _, rfl⟩
    ·refine stepFL (stepN rfl fun σ w1 hC h => ?_)
     have e82 := eqo (h 82 (by decide))
     have e87 := eqo (h 87 (by decide))
     exact Yk.eqI (a := (i2 : Nat)) (b := (b.length : Nat)) e82 e87 (k_eql _ _ _ _) ⟨Ext.refl _, (congrArg Value.bool (decide_eq_true (hj)))⟩
    ·refine stepFL (stepN rfl fun σ w1 hC h => ?_)
     have e88 := eqo (h 88 (by decide))
     exact Yk.move e88 ⟨Ext.refl _, rfl⟩
    ·refine stepFL (stepY 10 true 89 rfl rfl (fun _ _ h => h) fun σ w1 hC h => ?_)
     have e2 := (eqo (h 2 (by decide))).trans T2
     exact Yk.loadAll e2 (eb hC hb31) (wr11_ty29).choose_spec rfl (st_isz (msg_len ((⟨c1, ((c2 : Nat) : Int), [], [], [], ((d1 : Nat) : Int), 0, d2, [], [], zid, zid, false, 0⟩, ⟨(Value.slice none 0 0), (Value.slice none 0 0), (Value.slice none 0 0), (Value.slice none 0 0)⟩) : MsgV)) wr11_isz29) ⟨Ext.refl _, rfl⟩
    ·refine stepFL (stepY 10 true 89 rfl rfl (fun _ _ h => h) fun σ w1 hC h => ?_)
     have e90 := eqo (h 90 (by decide))
     refine Yk.callA1 wr11_pl19 e90 ((right_any _ ((⟨c1, ((c2 : Nat) : Int), [], [], [], ((d1 : Nat) : Int), 0, d2, [], [], zid, zid, false, 0⟩, ⟨(Value.slice none 0 0), (Value.slice none 0 0), (Value.slice none 0 0), (Value.slice none 0 0)⟩) : MsgV) (MsgAt.mk (RG.nil _ _ _) (RG.nil _ _ _) (RG.nil _ _ _) (RB.nil _)) hMl).mono ?_)
     rintro e w2 ⟨rfl, hx⟩
     exact ⟨_, rfl, hx, rfl⟩
    ·refine stepFL (stepN rfl fun σ w1 hC h => ?_)
     have e89 := eqo (h 89 (by decide))
     have e91 := eqo (h 91 (by decide))
     exact Yk.pickT e89 e91 ⟨Ext.refl _, rfl⟩
    ·exact trivial
   intro ρ284 w285 hx286 he hf
   obtain ⟨-, -, -, -, -, -, -, -, -, -, -, -, -, k92, -⟩ := hf
   obtain ⟨T0, T1, T2, T3, T4, T22, T27, T35, T40, T45, T50, T56, T75, -⟩ := he.hold [(0, _), (1, _), (2, _), (3, _), (4, _), (22, .bool (false)), (27, .bool (false)), (35, .bool (true)), (40, .bool (false)), (45, .bool (true)), (50, .bool (false)), (56, .bool (false)), (75, .bool (false))] ⟨T0, T1, T2, T3, T15, rfl, rfl, rfl, rfl, rfl, rfl, rfl, rfl, trivial⟩ rfl
   clear he
   have hE0 := hE0.trans hx286
   have hb14 := eb hx286 hb14
   have hb82 := eb hx286 hb82
   have hb := eb hx286 hb
   have hb31 := eb hx286 hb31
   have T92 : ρ284 92 = .bool (rightB (((⟨c1, ((c2 : Nat) : Int), [], [], [], ((d1 : Nat) : Int), 0, d2, [], [], zid, zid, false, 0⟩, ⟨(Value.slice none 0 0), (Value.slice none 0 0), (Value.slice none 0 0), (Value.slice none 0 0)⟩) : MsgV) : MsgV).1) := k92
   clear k92
   refine Yp.callA1 wr11_pl109 T92 ?_
   refine calls_either (needW_any _ (rightB (((⟨c1, ((c2 : Nat) : Int), [], [], [], ((d1 : Nat) : Int), 0, d2, [], [], zid, zid, false, 0⟩, ⟨(Value.slice none 0 0), (Value.slice none 0 0), (Value.slice none 0 0), (Value.slice none 0 0)⟩) : MsgV) : MsgV).1)) ?_ ?_
   rotate_left
   ·
    rintro ch w289 ⟨rfl, hb, hx⟩
    refine thenF_panic (postP_panic ?_)
    exact .inr ⟨_, rfl, by rw [hD]; simp only [hPb1, hPb2, Option.bind_some]; refine if_neg ?_; rintro ⟨h1, h2⟩; exact Bool.noConfusion (h2.symm.trans hb), rfl, hE0.trans hx⟩
   rintro v_ w290 ⟨rfl, hb287, hx288⟩
   have hE0 := hE0.trans hx288
   have hb14 := eb hx288 hb14
   have hb82 := eb hx288 hb82
   have hb := eb hx288 hb
   have hb31 := eb hx288 hb31
   intro ρ291 hu292
   have T0 : ρ291 0 = (PQ r 0 : Value) := (hu292 0 (by decide)).trans T0
   have T1 : ρ291 1 = (PQ n2 0 : Value) := (hu292 1 (by decide)).trans T1
   have T2 : ρ291 2 = (PQ n16 0 : Value) := (hu292 2 (by decide)).trans T2
   have T3 : ρ291 3 = (PQ n79 0 : Value) := (hu292 3 (by decide)).trans T3
   have T4 : ρ291 4 = (.bool (true) : Value) := (hu292 4 (by decide)).trans T4
   have T22 : ρ291 22 = (.bool (false) : Value) := (hu292 22 (by decide)).trans T22
   have T27 : ρ291 27 = (.bool (false) : Value) := (hu292 27 (by decide)).trans T27
   have T35 : ρ291 35 = (.bool (true) : Value) := (hu292 35 (by decide)).trans T35
   have T40 : ρ291 40 = (.bool (false) : Value) := (hu292 40 (by decide)).trans T40
   have T45 : ρ291 45 = (.bool (true) : Value) := (hu292 45 (by decide)).trans T45
   have T50 : ρ291 50 = (.bool (false) : Value) := (hu292 50 (by decide)).trans T50
   have T56 : ρ291 56 = (.bool (false) : Value) := (hu292 56 (by decide)).trans T56
   have T75 : ρ291 75 = (.bool (false) : Value) := (hu292 75 (by decide)).trans T75
   refine tN (hK283 _ _ (sk fun K293 hK293 => (wt (oS rfl (Yk.loadAll T2 hb31 (wr11_ty29).choose_spec rfl (st_isz (msg_len ((⟨c1, ((c2 : Nat) : Int), [], [], [], ((d1 : Nat) : Int), 0, d2, [], [], zid, zid, false, 0⟩, ⟨(Value.slice none 0 0), (Value.slice none 0 0), (Value.slice none 0 0), (Value.slice none 0 0)⟩) : MsgV)) wr11_isz29) (oS rfl (Yk.storeAll T2 (vr (.agg (msgC ((⟨c1, ((c2 : Nat) : Int), [], [], [], ((d1 : Nat) : Int), 0, d2, [], [], zid, zid, false, 0⟩, ⟨(Value.slice none 0 0), (Value.slice none 0 0), (Value.slice none 0 0), (Value.slice none 0 0)⟩) : MsgV)).toArray) rfl) hb31 (by simp only [List.size_toArray, msg_len]) (st_isz (msg_len _) wr11_isz29) (msg_one (x := ((⟨c1, ((c2 : Nat) : Int), [], [], [], ((d1 : Nat) : Int), 0, d2, [], [], zid, zid, false, 0⟩, ⟨(Value.slice none 0 0), (Value.slice none 0 0), (Value.slice none 0 0), (Value.slice none 0 0)⟩) : MsgV)) rfl rfl rfl rfl) fun w294 hb295 hg296 hs297 => ?_)))))))
   have hE0 := row_fresh hE0 hg296 (Nat.le_trans (Nat.le_refl _) (by omega))
   have hb14 := kb hg296 hb14 (by omega)
   have hb82 := kb hg296 hb82 (by omega)
   have hb := kb hg296 hb (by omega)
   clear hb31
   have hb31 : w294.heap[n16]? = some (.cells (msgC ((⟨c1, ((c2 : Nat) : Int), [], [], [], ((d1 : Nat) : Int), 0, d2, [], [], zid, zid, false, 0⟩, ⟨(Value.slice none 0 0), (Value.slice none 0 0), (Value.slice none 0 0), (Value.slice none 0 0)⟩) : MsgV)).toArray 29 (0, 0)) := hb295; clear hb295
   have hl298 := bl hb31
   refine oZ (tN (hK293 _ _ (wpF_ret (postP_ret (fn := Tryd.f67) _ rfl [.agg (msgC ((⟨c1, ((c2 : Nat) : Int), [], [], [], ((d1 : Nat) : Int), 0, d2, [], [], zid, zid, false, 0⟩, ⟨(Value.slice none 0 0), (Value.slice none 0 0), (Value.slice none 0 0), (Value.slice none 0 0)⟩) : MsgV)).toArray] (.agg (msgC ((⟨c1, ((c2 : Nat) : Int), [], [], [], ((d1 : Nat) : Int), 0, d2, [], [], zid, zid, false, 0⟩, ⟨(Value.slice none 0 0), (Value.slice none 0 0), (Value.slice none 0 0), (Value.slice none 0 0)⟩) : MsgV)).toArray) rfl ⟨ResF.row T2 hb31 (wr11_ty29).choose_spec rfl (st_isz (msg_len _) wr11_isz29), trivial⟩ ?_))))
   exact .inl ⟨_, rfl, ((⟨c1, ((c2 : Nat) : Int), [], [], [], ((d1 : Nat) : Int), 0, d2, [], [], zid, zid, false, 0⟩, ⟨(Value.slice none 0 0), (Value.slice none 0 0), (Value.slice none 0 0), (Value.slice none 0 0)⟩) : MsgV), by rw [hD]; simp only [hPb1, hPb2, Option.bind_some]; refine if_pos ?_; exact ⟨hj, hb287⟩, rfl, (MsgAt.mk (RG.nil _ _ _) (RG.nil _ _ _) (RG.nil _ _ _) (RB.nil _)), ⟨(fun k h => by cases h), (fun k h => by cases h), (fun k h => by cases h), (fun k h => by cases h)⟩, hE0⟩
  refine tN (hK282 _ _ (wpF_false (vr (.bool (false)) rfl) (wpF_skip (tN (hK281 _ _ (sk fun K299 hK299 => ?_))))))
  refine wpF_draw_endE 14 _ [Is (PQ r 0), Is (PQ r 0), Is (PQ r 1), Is (NI i2), Is (PQ r 0), Is (PQ r 0), Is (PQ r 0), Is (v), Is (NI b.length), Is (.bool (false)), Is (.bool (false)), Is undef, Is undef, Is (.bool (false))] (by kernel_rfl) [79, 80, 81, 82, 83, 84, 85, 86, 87, 88, 89, 90, 91, 92, 93] (by kernel_rfl) (by kernel_rfl) (by kernel_rfl) rfl rfl rfl (fun _ _ => trivial) (si2 (si12 trivial)) ?hs10027 ?hQ10027
  case hs10027 =>
   refine ⟨?_, ?_, ?_, ?_, ?_, ?_, ?_, ?_, ?_, ?_, ?_, ?_, ?_, ?_, ?_, trivial⟩
   ·refine stepFL (stepN rfl fun σ w1 hC h => ?_)
    have e1 := (eqo (h 1 (by decide))).trans T1
    exact Yk.cell1 wr11_ty109 rfl e1 (cellAt (eb hC hb14) (show _ = some (PQ r 0 : Value) from rfl)) ⟨Ext.refl _, rfl⟩
   ·refine stepFL (stepN rfl fun σ w1 hC h => ?_)
    have e79 := eqo (h 79 (by decide))
    exact Yk.nilCheck e79 ⟨Ext.refl _, rfl⟩
   ·refine stepFL (stepN rfl fun σ w1 hC h => ?_)
    have e80 := eqo (h 80 (by decide))
    exact Yk.fieldAt wr11_fo111_1 e80 ⟨Ext.refl _, rfl⟩
   ·refine stepFL (stepN rfl fun σ w1 hC h => ?_)
    have e81 := eqo (h 81 (by decide))
    exact Yk.cell1 wr11_ty3 rfl e81 (cellAt (eb hC hb) (show (rdC (rdX v b (i2)))[1]? = some (NI i2 : Value) from rd_g1 (rdX v b (i2)))) ⟨Ext.refl _, rfl⟩
   ·refine stepFL (stepN rfl fun σ w1 hC h => ?_)
    have e1 := (eqo (h 1 (by decide))).trans T1
    exact Yk.cell1 wr11_ty109 rfl e1 (cellAt (eb hC hb14) (show _ = some (PQ r 0 : Value) from rfl)) ⟨Ext.refl _, rfl⟩
   ·refine stepFL (stepN rfl fun σ w1 hC h => ?_)
    have e83 := eqo (h 83 (by decide))
    exact Yk.nilCheck e83 ⟨Ext.refl _, rfl⟩
   ·refine stepFL (stepN rfl fun σ w1 hC h => ?_)
    have e84 := eqo (h 84 (by decide))
    exact Yk.fieldAt wr11_fo111_0 e84 ⟨Ext.refl _, rfl⟩
   ·refine stepFL (stepN rfl fun σ w1 hC h => ?_)
    have e85 := eqo (h 85 (by decide))
    exact Yk.cell1 wr11_ty26 rfl e85 (cellAt (eb hC hb) (show (rdC (rdX v b (i2)))[0]? = some (v : Value) from rd_g0 (rdX v b (i2)))) ⟨Ext.refl _, rfl⟩
   ·refine stepFL (stepN rfl fun σ w1 hC h => ?_)
    have e86 := eqo (h 86 (by decide))
    exact Yk.lenRB wr11_ty26 (RB.of (hr.keep (hE0.trans hC)) e86) ⟨Ext.refl _, rfl⟩
   ·refine stepFL (stepN rfl fun σ w1 hC h => ?_)
    have e82 := eqo (h 82 (by decide))
    have e87 := eqo (h 87 (by decide))
    exact Yk.eqI (a := (i2 : Nat)) (b := (b.length : Nat)) e82 e87 (k_eql _ _ _ _) ⟨Ext.refl _, (congrArg Value.bool (decide_eq_false (hj)))⟩
   ·refine stepFL (stepN rfl fun σ w1 hC h => ?_)
    have e88 := eqo (h 88 (by decide))
    exact Yk.move e88 ⟨Ext.refl _, rfl⟩
   ·refine stepFL (stepX 10 true 89 rfl rfl (fun x _ (h : x = .bool false) => by rw [h]; intro h; cases h) fun _ => rfl)
   ·refine stepFL (stepX 10 true 89 rfl rfl (fun x _ (h : x = .bool false) => by rw [h]; intro h; cases h) fun _ => rfl)
   ·refine stepFL (stepN rfl fun σ w1 hC h => ?_)
    have e89 := eqo (h 89 (by decide))
    exact Yk.pickF e89 (vr (.bool (false)) rfl) ⟨Ext.refl _, rfl⟩
   ·exact trivial
  intro ρ300 w301 hx302 he hf
  obtain ⟨-, -, -, -, -, -, -, -, -, -, -, -, -, k92, -⟩ := hf
  obtain ⟨T0, T1, T2, T3, T4, T22, T27, T35, T40, T45, T50, T56, T75, -⟩ := he.hold [(0, _), (1, _), (2, _), (3, _), (4, _), (22, .bool (false)), (27, .bool (false)), (35, .bool (true)), (40, .bool (false)), (45, .bool (true)), (50, .bool (false)), (56, .bool (false)), (75, .bool (false))] ⟨T0, T1, T2, T3, T15, rfl, rfl, rfl, rfl, rfl, rfl, rfl, rfl, trivial⟩ rfl
  clear he
  have hE0 := hE0.trans hx302
  have hb14 := eb hx302 hb14
  have hb82 := eb hx302 hb82
  have hb := eb hx302 hb
  have hb31 := eb hx302 hb31
  have T92 : ρ300 92 = .bool (false) := k92
  clear k92
  refine Yp.callA1 wr11_pl109 T92 ?_
  refine calls_either (needW_any _ (false)) ?_ ?_
  rotate_left
  ·
   rintro ch w305 ⟨rfl, hb, hx⟩
   refine thenF_panic (postP_panic ?_)
   exact .inr ⟨_, rfl, by rw [hD]; simp only [hPb1, hPb2, Option.bind_some]; refine if_neg ?_; rintro ⟨h1, h2⟩; exact hj h1, rfl, hE0.trans hx⟩
  rintro v_ w306 ⟨rfl, hb303, hx304⟩
  cases hb303
 ·have hD := decP_eq hP1 hK hP2
  rw [restP5 (m := (⟨c1, ((c2 : Nat) : Int), [], [], [], 0, 0, zid, [], [], zid, zid, false, 0⟩ : Msg)) hk] at hD
  refine tN (hK91 _ _ (sk fun K307 hK307 => (sk fun K308 hK308 => (wt (oS rfl (Yk.fieldAt wr11_fo92_0 T3 (oS rfl (Yk.cell1 wr11_ty4 rfl (vr (PQ n79 0) rfl) (cellAt hb82 (show (partsC (⟨false, false, false, true, false, false, false, false⟩ : Parts))[0]? = some (.bool (false) : Value) from parts_g0 (⟨false, false, false, true, false, false, false, false⟩ : Parts))) (oZ (tN (hK308 _ _ (wpF_false (vr (.bool (false)) rfl) (wpF_skip (tN (hK307 _ _ (sk fun K309 hK309 => (sk fun K310 hK310 => (wt (oS rfl (Yk.fieldAt wr11_fo92_1 T3 (oS rfl (Yk.cell1 wr11_ty4 rfl (vr (PQ n79 1) rfl) (cellAt hb82 (show (partsC (⟨false, false, false, true, false, false, false, false⟩ : Parts))[1]? = some (.bool (false) : Value) from parts_g1 (⟨false, false, false, true, false, false, false, false⟩ : Parts))) ?_))))))))))))))))))))))
  refine oZ (tN (hK310 _ _ (wpF_false (vr (.bool (false)) rfl) (wpF_skip (tN (hK309 _ _ (sk fun K311 hK311 => (sk fun K312 hK312 => (wt (oS rfl (Yk.fieldAt wr11_fo92_2 T3 (oS rfl (Yk.cell1 wr11_ty4 rfl (vr (PQ n79 2) rfl) (cellAt hb82 (show (partsC (⟨false, false, false, true, false, false, false, false⟩ : Parts))[2]? = some (.bool (false) : Value) from parts_g2 (⟨false, false, false, true, false, false, false, false⟩ : Parts))) (oZ (tN (hK312 _ _ (wpF_false (vr (.bool (false)) rfl) (wpF_skip (tN (hK311 _ _ (sk fun K313 hK313 => ?_)))))))))))))))))))))
  refine sk fun K314 hK314 => (wt (oS rfl (Yk.fieldAt wr11_fo92_3 T3 (oS rfl (Yk.cell1 wr11_ty4 rfl (vr (PQ n79 3) rfl) (cellAt hb82 (show (partsC (⟨false, false, false, true, false, false, false, false⟩ : Parts))[3]? = some (.bool (true) : Value) from parts_g3 (⟨false, false, false, true, false, false, false, false⟩ : Parts))) (oZ (tN (hK314 _ _ (wpF_true (vr (.bool (true)) rfl) (wt (oS rfl (Yk.cell1 wr11_ty109 rfl T1 (cellAt hb14 (show _ = some (PQ r 0 : Value) from rfl)) (oP rfl (Yp.callA1 wr11_pl110 (vr (PQ r 0) rfl) ?_))))))))))))))
  refine calls_either (numberW_any _ r v b j2 hb (hr.keep hE0) hapr hle_j2 hl) ?_ ?_
  rotate_left
  ·
   rintro ch w317 ⟨hPx, rfl, hgx⟩
   refine thenF_panic (postP_panic ?_)
   exact .inr ⟨_, rfl, by rw [hD]; simp only [hPx, Option.bind_some, Option.bind_none], rfl, (row_fresh hE0 hgx lr)⟩
  rintro v_ w319 ⟨d1, i1, hPb1, rfl, hb315, hg316⟩
  have hE0 := row_fresh hE0 hg316 (Nat.le_trans (Nat.le_refl _) lr)
  have hb14 := kb hg316 hb14 (by omega)
  have hb82 := kb hg316 hb82 (by omega)
  clear hb
  have hb31 := kb hg316 hb31 (by omega)
  have hb := hb315; clear hb315
  have hle_i1 := numP_le hle_j2 hPb1
  have hl320 := bl hb
  refine oS rfl (Yk.fieldAt wr11_fo29_6 T2 (oS rfl (Yk.storeC (i := 6) (v := NI d1) (vr (PQ n16 6) rfl) (vr (NI d1) rfl) hb31 (by rw [msg_len]; decide) wr11_isz3 rfl rfl fun w321 hb322 hg323 hs324 => ?_)))
  have hE0 := row_fresh hE0 hg323 (Nat.le_trans (Nat.le_refl _) (by omega))
  have hb14 := kb hg323 hb14 (by omega)
  have hb82 := kb hg323 hb82 (by omega)
  clear hb31
  have hb := kb hg323 hb (by omega)
  have hb31 : w321.heap[n16]? = some (.cells (msgC ((⟨c1, ((c2 : Nat) : Int), [], [], [], 0, ((d1 : Nat) : Int), zid, [], [], zid, zid, false, 0⟩, ⟨(Value.slice none 0 0), (Value.slice none 0 0), (Value.slice none 0 0), (Value.slice none 0 0)⟩) : MsgV)).toArray 29 (0, 0)) := blk_eq hb322 (msg_s6 ((⟨c1, ((c2 : Nat) : Int), [], [], [], 0, 0, zid, [], [], zid, zid, false, 0⟩, ⟨(Value.slice none 0 0), (Value.slice none 0 0), (Value.slice none 0 0), (Value.slice none 0 0)⟩) : MsgV) ((d1 : Nat) : Int)); clear hb322
  have hl325 := bl hb31
  refine oZ (tN (hK313 _ _ (sk fun K326 hK326 => (sk fun K327 hK327 => (wt (oS rfl (Yk.fieldAt wr11_fo92_4 T3 (oS rfl (Yk.cell1 wr11_ty4 rfl (vr (PQ n79 4) rfl) (cellAt hb82 (show (partsC (⟨false, false, false, true, false, false, false, false⟩ : Parts))[4]? = some (.bool (false) : Value) from parts_g4 (⟨false, false, false, true, false, false, false, false⟩ : Parts))) (oZ (tN (hK327 _ _ (wpF_false (vr (.bool (false)) rfl) (wpF_skip (tN (hK326 _ _ (sk fun K328 hK328 => (sk fun K329 hK329 => (wt (oS rfl (Yk.fieldAt wr11_fo92_5 T3 ?_)))))))))))))))))))))
  refine oS rfl (Yk.cell1 wr11_ty4 rfl (vr (PQ n79 5) rfl) (cellAt hb82 (show (partsC (⟨false, false, false, true, false, false, false, false⟩ : Parts))[5]? = some (.bool (false) : Value) from parts_g5 (⟨false, false, false, true, false, false, false, false⟩ : Parts))) (oZ (tN (hK329 _ _ (wpF_false (vr (.bool (false)) rfl) (wpF_skip (tN (hK328 _ _ (sk fun K330 hK330 => (sk fun K331 hK331 => (wt (oS rfl (Yk.fieldAt wr11_fo92_6 T3 (oS rfl (Yk.cell1 wr11_ty4 rfl (vr (PQ n79 6) rfl) (cellAt hb82 (show (partsC (⟨false, false, false, true, false, false, false, false⟩ : Parts))[6]? = some (.bool (false) : Value) from parts_g6 (⟨false, false, false, true, false, false, false, false⟩ : Parts))) (oZ (tN (hK331 _ _ (wpF_false (vr (.bool (false)) rfl) (wpF_skip (tN (hK330 _ _ ?_))))))))))))))))))))))
  refine sk fun K332 hK332 => (sk fun K333 hK333 => (wt (oS rfl (Yk.fieldAt wr11_fo92_7 T3 (oS rfl (Yk.cell1 wr11_ty4 rfl (vr (PQ n79 7) rfl) (cellAt hb82 (show (partsC (⟨false, false, false, true, false, false, false, false⟩ : Parts))[7]? = some (.bool (false) : Value) from parts_g7 (⟨false, false, false, true, false, false, false, false⟩ : Parts))) (oZ ?_)))))))
  have hMl : MsgLt (((⟨c1, ((c2 : Nat) : Int), [], [], [], 0, ((d1 : Nat) : Int), zid, [], [], zid, zid, false, 0⟩, ⟨(Value.slice none 0 0), (Value.slice none 0 0), (Value.slice none 0 0), (Value.slice none 0 0)⟩) : MsgV) : MsgV).1 := ⟨by simp, fun u hu => (by cases hu), by simp, by simp, by simp⟩
  by_cases hj : i1 = b.length
  ·refine tN (hK333 _ _ (wpF_false (vr (.bool (false)) rfl) (wpF_skip (tN (hK332 _ _ (sk fun K334 hK334 => ?_))))))
   refine wpF_draw_endE 14 _ [Is (PQ r 0), Is (PQ r 0), Is (PQ r 1), Is (NI i1), Is (PQ r 0), Is (PQ r 0), Is (PQ r 0), Is (v), Is (NI b.length), Is (.bool (true)), Is (.bool (true)), Is (.agg (msgC ((⟨c1, ((c2 : Nat) : Int), [], [], [], 0, ((d1 : Nat) : Int), zid, [], [], zid, zid, false, 0⟩, ⟨(Value.slice none 0 0), (Value.slice none 0 0), (Value.slice none 0 0), (Value.slice none 0 0)⟩) : MsgV)).toArray), Is (.bool (rightB (((⟨c1, ((c2 : Nat) : Int), [], [], [], 0, ((d1 : Nat) : Int), zid, [], [], zid, zid, false, 0⟩, ⟨(Value.slice none 0 0), (Value.slice none 0 0), (Value.slice none 0 0), (Value.slice none 0 0)⟩) : MsgV) : MsgV).1)), Is (.bool (rightB (((⟨c1, ((c2 : Nat) : Int), [], [], [], 0, ((d1 : Nat) : Int), zid, [], [], zid, zid, false, 0⟩, ⟨(Value.slice none 0 0), (Value.slice none 0 0), (Value.slice none 0 0), (Value.slice none 0 0)⟩) : MsgV) : MsgV).1))] (by kernel_rfl) [79, 80, 81, 82, 83, 84, 85, 86, 87, 88, 89, 90, 91, 92, 93] (by kernel_rfl) (by kernel_rfl) (by kernel_rfl) rfl rfl rfl (fun _ _ => trivial) (si2 (si12 trivial)) ?hs11027 ?hQ11027
   case hs11027 =>
    refine ⟨?_, ?_, ?_, ?_, ?_, ?_, ?_, ?_, ?_, ?_, ?_, ?_, ?_, ?_, ?_, trivial⟩
    ·refine stepFL (stepN rfl fun σ w1 hC h => ?_)
     have e1 := (eqo (h 1 (by decide))).trans T1
     exact Yk.cell1 wr11_ty109 rfl e1 (cellAt (eb hC hb14) (show _ = some (PQ r 0 : Value) from rfl)) ⟨Ext.refl _, rfl⟩
    ·refine stepFL (stepN rfl fun σ w1 hC h => ?_)
     have e79 := eqo (h 79 (by decide))
     exact Yk.nilCheck e79 ⟨Ext.refl _, rfl⟩
    ·refine stepFL (stepN rfl fun σ w1 hC h => ?_)
     have e80 := eqo (h 80 (by decide))
     exact Yk.fieldAt wr11_fo111_1 e80 ⟨Ext.refl _, rfl⟩
    ·refine stepFL (stepN rfl fun σ w1 hC h => ?_)
     have e81 := eqo (h 81 (by decide))
     exact Yk.cell1 wr11_ty3 rfl e81 (cellAt (eb hC hb) (show (rdC (rdX v b (i1)))[1]? = some (NI i1 : Value) from rd_g1 (rdX v b (i1)))) ⟨Ext.refl _, rfl⟩
    ·refine stepFL (stepN rfl fun σ w1 hC h => ?_)
     have e1 := (eqo (h 1 (by decide))).trans T1
     exact Yk.cell1 wr11_ty109 rfl e1 (cellAt (eb hC hb14) (show _ = some (PQ r 0 : Value) from rfl)) ⟨Ext.refl _, rfl⟩
    ·refine stepFL (stepN rfl fun σ w1 hC h => ?_)
     have e83 := eqo (h 83 (by decide))
     exact Yk.nilCheck e83 ⟨Ext.refl _, rfl⟩
    ·refine stepFL (stepN rfl fun σ w1 hC h => ?_)
     have e84 := eqo (h 84 (by decide))
     exact Yk.fieldAt wr11_fo111_0 e84 ⟨Ext.refl _, rfl⟩
    ·refine stepFL (stepN rfl fun σ w1 hC h => ?_)
     have e85 := eqo (h 85 (by decide))
     exact Yk.cell1 wr11_ty26 rfl e85 (cellAt (eb hC hb) (show (rdC (rdX v b (i1)))[0]? = some (v : Value) from rd_g0 (rdX v b (i1)))) ⟨Ext.refl _, rfl⟩
    ·refine stepFL (stepN rfl fun σ w1 hC h => ?_)
     have e86 := eqo (h 86 (by decide))
     exact Yk.lenRB wr11_ty26 (RB.of (hr.keep (hE0.trans hC)) e86) ⟨Ext.refl _, rfl⟩
    ·refine stepFL (stepN rfl fun σ w1 hC h => ?_)
     have e82 := eqo (h 82 (by decide))
     have e87 := eqo (h 87 (by decide))
     exact Yk.eqI (a := (i1 : Nat)) (b := (b.length : Nat)) e82 e87 (k_eql _ _ _ _) ⟨Ext.refl _, (congrArg Value.bool (decide_eq_true (hj)))⟩
    ·refine stepFL (stepN rfl fun σ w1 hC h => ?_)
     have e88 := eqo (h 88 (by decide))
     exact Yk.move e88 ⟨Ext.refl _, rfl⟩
    ·refine stepFL (stepY 10 true 89 rfl rfl (fun _ _ h => h) fun σ w1 hC h => ?_)
     have e2 := (eqo (h 2 (by decide))).trans T2
     exact Yk.loadAll e2 (eb hC hb31) (wr11_ty29).choose_spec rfl (st_isz (msg_len ((⟨c1, ((c2 : Nat) : Int), [], [], [], 0, ((d1 : Nat) : Int), zid, [], [], zid, zid, false, 0⟩, ⟨(Value.slice none 0 0), (Value.slice none 0 0), (Value.slice none 0 0), (Value.slice none 0 0)⟩) : MsgV)) wr11_isz29) ⟨Ext.refl _, rfl⟩
    ·refine stepFL (stepY 10 true 89 rfl rfl (fun _ _ h => h) fun σ w1 hC h => ?_)
     have e90 := eqo (h 90 (by decide))
     refine Yk.callA1 wr11_pl19 e90 ((right_any _ ((⟨c1, ((c2 : Nat) : Int), [], [], [], 0, ((d1 : Nat) : Int), zid, [], [], zid, zid, false, 0⟩, ⟨(Value.slice none 0 0), (Value.slice none 0 0), (Value.slice none 0 0), (Value.slice none 0 0)⟩) : MsgV) (MsgAt.mk (RG.nil _ _ _) (RG.nil _ _ _) (RG.nil _ _ _) (RB.nil _)) hMl).mono ?_)
     rintro e w2 ⟨rfl, hx⟩
     exact ⟨_, rfl, hx, rfl⟩
    ·refine stepFL (stepN rfl fun σ w1 hC h => ?_)
     have e89 := eqo (h 89 (by decide))
     have e91 := eqo (h 91 (by decide))
     exact Yk.pickT e89 e91 ⟨Ext.refl _, rfl⟩
    ·exact trivial
   intro ρ335 w336 hx337 he hf
   obtain ⟨-, -, -, -, -, -, -, -, -, -, -, -, -, k92, -⟩ := hf
   obtain ⟨T0, T1, T2, T3, T4, T22, T27, T35, T40, T45, T50, T56, T75, -⟩ := he.hold [(0, _), (1, _), (2, _), (3, _), (4, _), (22, .bool (false)), (27, .bool (false)), (35, .bool (false)), (40, .bool (true)), (45, .bool (false)), (50, .bool (false)), (56, .bool (false)), (75, .bool (false))] ⟨T0, T1, T2, T3, T15, rfl, rfl, rfl, rfl, rfl, rfl, rfl, rfl, trivial⟩ rfl
   clear he
   have hE0 := hE0.trans hx337
   have hb14 := eb hx337 hb14
   have hb82 := eb hx337 hb82
   have hb := eb hx337 hb
   have hb31 := eb hx337 hb31
   have T92 : ρ335 92 = .bool (rightB (((⟨c1, ((c2 : Nat) : Int), [], [], [], 0, ((d1 : Nat) : Int), zid, [], [], zid, zid, false, 0⟩, ⟨(Value.slice none 0 0), (Value.slice none 0 0), (Value.slice none 0 0), (Value.slice none 0 0)⟩) : MsgV) : MsgV).1) := k92
   clear k92
   refine Yp.callA1 wr11_pl109 T92 ?_
   refine calls_either (needW_any _ (rightB (((⟨c1, ((c2 : Nat) : Int), [], [], [], 0, ((d1 : Nat) : Int), zid, [], [], zid, zid, false, 0⟩, ⟨(Value.slice none 0 0), (Value.slice none 0 0), (Value.slice none 0 0), (Value.slice none 0 0)⟩) : MsgV) : MsgV).1)) ?_ ?_
   rotate_left
   ·
    rintro ch w340 ⟨rfl, hb, hx⟩
    refine thenF_panic (postP_panic ?_)
    exact .inr ⟨_, rfl, by rw [hD]; simp only [hPb1, Option.bind_some]; refine if_neg ?_; rintro ⟨h1, h2⟩; exact Bool.noConfusion (h2.symm.trans hb), rfl, hE0.trans hx⟩
   rintro v_ w341 ⟨rfl, hb338, hx339⟩
   have hE0 := hE0.trans hx339
   have hb14 := eb hx339 hb14
   have hb82 := eb hx339 hb82
   have hb := eb hx339 hb
   have hb31 := eb hx339 hb31
   intro ρ342 hu343
   have T0 : ρ342 0 = (PQ r 0 : Value) := (hu343 0 (by decide)).trans T0
   have T1 : ρ342 1 = (PQ n2 0 : Value) := (hu343 1 (by decide)).trans T1
   have T2 : ρ342 2 = (PQ n16 0 : Value) := (hu343 2 (by decide)).trans T2
   have T3 : ρ342 3 = (PQ n79 0 : Value) := (hu343 3 (by decide)).trans T3
   have T4 : ρ342 4 = (.bool (true) : Value) := (hu343 4 (by decide)).trans T4
   have T22 : ρ342 22 = (.bool (false) : Value) := (hu343 22 (by decide)).trans T22
   have T27 : ρ342 27 = (.bool (false) : Value) := (hu343 27 (by decide)).trans T27
   have T35 : ρ342 35 = (.bool (false) : Value) := (hu343 35 (by decide)).trans T35
   have T40 : ρ342 40 = (.bool (true) : Value) := (hu343 40 (by decide)).trans T40
   have T45 : ρ342 45 = (.bool (false) : Value) := (hu343 45 (by decide)).trans T45
   have T50 : ρ342 50 = (.bool (false) : Value) := (hu343 50 (by decide)).trans T50
   have T56 : ρ342 56 = (.bool (false) : Value) := (hu343 56 (by decide)).trans T56
   have T75 : ρ342 75 = (.bool (false) : Value) := (hu343 75 (by decide)).trans T75
   refine tN (hK334 _ _ (sk fun K344 hK344 => (wt (oS rfl (Yk.loadAll T2 hb31 (wr11_ty29).choose_spec rfl (st_isz (msg_len ((⟨c1, ((c2 : Nat) : Int), [], [], [], 0, ((d1 : Nat) : Int), zid, [], [], zid, zid, false, 0⟩, ⟨(Value.slice none 0 0), (Value.slice none 0 0), (Value.slice none 0 0), (Value.slice none 0 0)⟩) : MsgV)) wr11_isz29) (oS rfl (Yk.storeAll T2 (vr (.agg (msgC ((⟨c1, ((c2 : Nat) : Int), [], [], [], 0, ((d1 : Nat) : Int), zid, [], [], zid, zid, false, 0⟩, ⟨(Value.slice none 0 0), (Value.slice none 0 0), (Value.slice none 0 0), (Value.slice none 0 0)⟩) : MsgV)).toArray) rfl) hb31 (by simp only [List.size_toArray, msg_len]) (st_isz (msg_len _) wr11_isz29) (msg_one (x := ((⟨c1, ((c2 : Nat) : Int), [], [], [], 0, ((d1 : Nat) : Int), zid, [], [], zid, zid, false, 0⟩, ⟨(Value.slice none 0 0), (Value.slice none 0 0), (Value.slice none 0 0), (Value.slice none 0 0)⟩) : MsgV)) rfl rfl rfl rfl) fun w345 hb346 hg347 hs348 => ?_)))))))
   have hE0 := row_fresh hE0 hg347 (Nat.le_trans (Nat.le_refl _) (by omega))
   have hb14 := kb hg347 hb14 (by omega)
   have hb82 := kb hg347 hb82 (by omega)
   have hb := kb hg347 hb (by omega)
   clear hb31
   have hb31 : w345.heap[n16]? = some (.cells (msgC ((⟨c1, ((c2 : Nat) : Int), [], [], [], 0, ((d1 : Nat) : Int), zid, [], [], zid, zid, false, 0⟩, ⟨(Value.slice none 0 0), (Value.slice none 0 0), (Value.slice none 0 0), (Value.slice none 0 0)⟩) : MsgV)).toArray 29 (0, 0)) := hb346; clear hb346
   have hl349 := bl hb31
   refine oZ (tN (hK344 _ _ (wpF_ret (postP_ret (fn := Tryd.f67) _ rfl [.agg (msgC ((⟨c1, ((c2 : Nat) : Int), [], [], [], 0, ((d1 : Nat) : Int), zid, [], [], zid, zid, false, 0⟩, ⟨(Value.slice none 0 0), (Value.slice none 0 0), (Value.slice none 0 0), (Value.slice none 0 0)⟩) : MsgV)).toArray] (.agg (msgC ((⟨c1, ((c2 : Nat) : Int), [], [], [], 0, ((d1 : Nat) : Int), zid, [], [], zid, zid, false, 0⟩, ⟨(Value.slice none 0 0), (Value.slice none 0 0), (Value.slice none 0 0), (Value.slice none 0 0)⟩) : MsgV)).toArray) rfl ⟨ResF.row T2 hb31 (wr11_ty29).choose_spec rfl (st_isz (msg_len _) wr11_isz29), trivial⟩ ?_))))
   exact .inl ⟨_, rfl, ((⟨c1, ((c2 : Nat) : Int), [], [], [], 0, ((d1 : Nat) : Int), zid, [], [], zid, zid, false, 0⟩, ⟨(Value.slice none 0 0), (Value.slice none 0 0), (Value.slice none 0 0), (Value.slice none 0 0)⟩) : MsgV), by rw [hD]; simp only [hPb1, Option.bind_some]; refine if_pos ?_; exact ⟨hj, hb338⟩, rfl, (MsgAt.mk (RG.nil _ _ _) (RG.nil _ _ _) (RG.nil _ _ _) (RB.nil _)), ⟨(fun k h => by cases h), (fun k h => by cases h), (fun k h => by cases h), (fun k h => by cases h)⟩, hE0⟩
  refine tN (hK333 _ _ (wpF_false (vr (.bool (false)) rfl) (wpF_skip (tN (hK332 _ _ (sk fun K350 hK350 => ?_))))))
  refine wpF_draw_endE 14 _ [Is (PQ r 0), Is (PQ r 0), Is (PQ r 1), Is (NI i1), Is (PQ r 0), Is (PQ r 0), Is (PQ r 0), Is (v), Is (NI b.length), Is (.bool (false)), Is (.bool (false)), Is undef, Is undef, Is (.bool (false))] (by kernel_rfl) [79, 80, 81, 82, 83, 84, 85, 86, 87, 88, 89, 90, 91, 92, 93] (by kernel_rfl) (by kernel_rfl) (by kernel_rfl) rfl rfl rfl (fun _ _ => trivial) (si2 (si12 trivial)) ?hs12027 ?hQ12027
  case hs12027 =>
   refine ⟨?_, ?_, ?_, ?_, ?_, ?_, ?_, ?_, ?_, ?_, ?_, ?_, ?_, ?_, ?_, trivial⟩
   ·refine stepFL (stepN rfl fun σ w1 hC h => ?_)
    have e1 := (eqo (h 1 (by decide))).trans T1
    exact Yk.cell1 wr11_ty109 rfl e1 (cellAt (eb hC hb14) (show _ = some (PQ r 0 : Value) from rfl)) ⟨Ext.refl _, rfl⟩
   ·refine stepFL (stepN rfl fun σ w1 hC h => ?_)
    have e79 := eqo (h 79 (by decide))
    exact Yk.nilCheck e79 ⟨Ext.refl _, rfl⟩
   ·refine stepFL (stepN rfl fun σ w1 hC h => ?_)
    have e80 := eqo (h 80 (by decide))
    exact Yk.fieldAt wr11_fo111_1 e80 ⟨Ext.refl _, rfl⟩
   ·refine stepFL (stepN rfl fun σ w1 hC h => ?_)
    have e81 := eqo (h 81 (by decide))
    exact Yk.cell1 wr11_ty3 rfl e81 (cellAt (eb hC hb) (show (rdC (rdX v b (i1)))[1]? = some (NI i1 : Value) from rd_g1 (rdX v b (i1)))) ⟨Ext.refl _, rfl⟩
   ·refine stepFL (stepN rfl fun σ w1 hC h => ?_)
    have e1 := (eqo (h 1 (by decide))).trans T1
    exact Yk.cell1 wr11_ty109 rfl e1 (cellAt (eb hC hb14) (show _ = some (PQ r 0 : Value) from rfl)) ⟨Ext.refl _, rfl⟩
   ·refine stepFL (stepN rfl fun σ w1 hC h => ?_)
    have e83 := eqo (h 83 (by decide))
    exact Yk.nilCheck e83 ⟨Ext.refl _, rfl⟩
   ·refine stepFL (stepN rfl fun σ w1 hC h => ?_)
    have e84 := eqo (h 84 (by decide))
    exact Yk.fieldAt wr11_fo111_0 e84 ⟨Ext.refl _, rfl⟩
   ·refine stepFL (stepN rfl fun σ w1 hC h => ?_)
    have e85 := eqo (h 85 (by decide))
    exact Yk.cell1 wr11_ty26 rfl e85 (cellAt (eb hC hb) (show (rdC (rdX v b (i1)))[0]? = some (v : Value) from rd_g0 (rdX v b (i1)))) ⟨Ext.refl _, rfl⟩
   ·refine stepFL (stepN rfl fun σ w1 hC h => ?_)
    have e86 := eqo (h 86 (by decide))
    exact Yk.lenRB wr11_ty26 (RB.of (hr.keep (hE0.trans hC)) e86) ⟨Ext.refl _, rfl⟩
   ·refine stepFL (stepN rfl fun σ w1 hC h => ?_)
    have e82 := eqo (h 82 (by decide))
    have e87 := eqo (h 87 (by decide))
    exact Yk.eqI (a := (i1 : Nat)) (b := (b.length : Nat)) e82 e87 (k_eql _ _ _ _) ⟨Ext.refl _, (congrArg Value.bool (decide_eq_false (hj)))⟩
   ·refine stepFL (stepN rfl fun σ w1 hC h => ?_)
    have e88 := eqo (h 88 (by decide))
    exact Yk.move e88 ⟨Ext.refl _, rfl⟩
   ·refine stepFL (stepX 10 true 89 rfl rfl (fun x _ (h : x = .bool false) => by rw [h]; intro h; cases h) fun _ => rfl)
   ·refine stepFL (stepX 10 true 89 rfl rfl (fun x _ (h : x = .bool false) => by rw [h]; intro h; cases h) fun _ => rfl)
   ·refine stepFL (stepN rfl fun σ w1 hC h => ?_)
    have e89 := eqo (h 89 (by decide))
    exact Yk.pickF e89 (vr (.bool (false)) rfl) ⟨Ext.refl _, rfl⟩
   ·exact trivial
  intro ρ351 w352 hx353 he hf
  obtain ⟨-, -, -, -, -, -, -, -, -, -, -, -, -, k92, -⟩ := hf
  obtain ⟨T0, T1, T2, T3, T4, T22, T27, T35, T40, T45, T50, T56, T75, -⟩ := he.hold [(0, _), (1, _), (2, _), (3, _), (4, _), (22, .bool (false)), (27, .bool (false)), (35, .bool (false)), (40, .bool (true)), (45, .bool (false)), (50, .bool (false)), (56, .bool (false)), (75, .bool (false))] ⟨T0, T1, T2, T3, T15, rfl, rfl, rfl, rfl, rfl, rfl, rfl, rfl, trivial⟩ rfl
  clear he
  have hE0 := hE0.trans hx353
  have hb14 := eb hx353 hb14
  have hb82 := eb hx353 hb82
  have hb := eb hx353 hb
  have hb31 := eb hx353 hb31
  have T92 : ρ351 92 = .bool (false) := k92
  clear k92
  refine Yp.callA1 wr11_pl109 T92 ?_
  refine calls_either (needW_any _ (false)) ?_ ?_
  rotate_left
  ·
   rintro ch w356 ⟨rfl, hb, hx⟩
   refine thenF_panic (postP_panic ?_)
   exact .inr ⟨_, rfl, by rw [hD]; simp only [hPb1, Option.bind_some]; refine if_neg ?_; rintro ⟨h1, h2⟩; exact hj h1, rfl, hE0.trans hx⟩
  rintro v_ w357 ⟨rfl, hb354, hx355⟩
  cases hb354
 ·have hD := decP_eq hP1 hK hP2
  rw [restP6 (m := (⟨c1, ((c2 : Nat) : Int), [], [], [], 0, 0, zid, [], [], zid, zid, false, 0⟩ : Msg)) hk] at hD
  refine tN (hK91 _ _ (sk fun K358 hK358 => (sk fun K359 hK359 => (wt (oS rfl (Yk.fieldAt wr11_fo92_0 T3 (oS rfl (Yk.cell1 wr11_ty4 rfl (vr (PQ n79 0) rfl) (cellAt hb82 (show (partsC (⟨false, false, false, true, false, true, false, false⟩ : Parts))[0]? = some (.bool (false) : Value) from parts_g0 (⟨false, false, false, true, false, true, false, false⟩ : Parts))) (oZ (tN (hK359 _ _ (wpF_false (vr (.bool (false)) rfl) (wpF_skip (tN (hK358 _ _ (sk fun K360 hK360 => (sk fun K361 hK361 => (wt (oS rfl (Yk.fieldAt wr11_fo92_1 T3 (oS rfl (Yk.cell1 wr11_ty4 rfl (vr (PQ n79 1) rfl) (cellAt hb82 (show (partsC (⟨false, false, false, true, false, true, false, false⟩ : Parts))[1]? = some (.bool (false) : Value) from parts_g1 (⟨false, false, false, true, false, true, false, false⟩ : Parts))) ?_))))))))))))))))))))))
  refine oZ (tN (hK361 _ _ (wpF_false (vr (.bool (false)) rfl) (wpF_skip (tN (hK360 _ _ (sk fun K362 hK362 => (sk fun K363 hK363 => (wt (oS rfl (Yk.fieldAt wr11_fo92_2 T3 (oS rfl (Yk.cell1 wr11_ty4 rfl (vr (PQ n79 2) rfl) (cellAt hb82 (show (partsC (⟨false, false, false, true, false, true, false, false⟩ : Parts))[2]? = some (.bool (false) : Value) from parts_g2 (⟨false, false, false, true, false, true, false, false⟩ : Parts))) (oZ (tN (hK363 _ _ (wpF_false (vr (.bool (false)) rfl) (wpF_skip (tN (hK362 _ _ (sk fun K364 hK364 => ?_)))))))))))))))))))))
  refine sk fun K365 hK365 => (wt (oS rfl (Yk.fieldAt wr11_fo92_3 T3 (oS rfl (Yk.cell1 wr11_ty4 rfl (vr (PQ n79 3) rfl) (cellAt hb82 (show (partsC (⟨false, false, false, true, false, true, false, false⟩ : Parts))[3]? = some (.bool (true) : Value) from parts_g3 (⟨false, false, false, true, false, true, false, false⟩ : Parts))) (oZ (tN (hK365 _ _ (wpF_true (vr (.bool (true)) rfl) (wt (oS rfl (Yk.cell1 wr11_ty109 rfl T1 (cellAt hb14 (show _ = some (PQ r 0 : Value) from rfl)) (oP rfl (Yp.callA1 wr11_pl110 (vr (PQ r 0) rfl) ?_))))))))))))))
  refine calls_either (numberW_any _ r v b j2 hb (hr.keep hE0) hapr hle_j2 hl) ?_ ?_
  rotate_left
  ·
   rintro ch w368 ⟨hPx, rfl, hgx⟩
   refine thenF_panic (postP_panic ?_)
   exact .inr ⟨_, rfl, by rw [hD]; simp only [hPx, Option.bind_some, Option.bind_none], rfl, (row_fresh hE0 hgx lr)⟩
  rintro v_ w370 ⟨d1, i1, hPb1, rfl, hb366, hg367⟩
  have hE0 := row_fresh hE0 hg367 (Nat.le_trans (Nat.le_refl _) lr)
  have hb14 := kb hg367 hb14 (by omega)
  have hb82 := kb hg367 hb82 (by omega)
  clear hb
  have hb31 := kb hg367 hb31 (by omega)
  have hb := hb366; clear hb366
  have hle_i1 := numP_le hle_j2 hPb1
  have hl371 := bl hb
  refine oS rfl (Yk.fieldAt wr11_fo29_6 T2 (oS rfl (Yk.storeC (i := 6) (v := NI d1) (vr (PQ n16 6) rfl) (vr (NI d1) rfl) hb31 (by rw [msg_len]; decide) wr11_isz3 rfl rfl fun w372 hb373 hg374 hs375 => ?_)))
  have hE0 := row_fresh hE0 hg374 (Nat.le_trans (Nat.le_refl _) (by omega))
  have hb14 := kb hg374 hb14 (by omega)
  have hb82 := kb hg374 hb82 (by omega)
  clear hb31
  have hb := kb hg374 hb (by omega)
  have hb31 : w372.heap[n16]? = some (.cells (msgC ((⟨c1, ((c2 : Nat) : Int), [], [], [], 0, ((d1 : Nat) : Int), zid, [], [], zid, zid, false, 0⟩, ⟨(Value.slice none 0 0), (Value.slice none 0 0), (Value.slice none 0 0), (Value.slice none 0 0)⟩) : MsgV)).toArray 29 (0, 0)) := blk_eq hb373 (msg_s6 ((⟨c1, ((c2 : Nat) : Int), [], [], [], 0, 0, zid, [], [], zid, zid, false, 0⟩, ⟨(Value.slice none 0 0), (Value.slice none 0 0), (Value.slice none 0 0), (Value.slice none 0 0)⟩) : MsgV) ((d1 : Nat) : Int)); clear hb373
  have hl376 := bl hb31
  refine oZ (tN (hK364 _ _ (sk fun K377 hK377 => (sk fun K378 hK378 => (wt (oS rfl (Yk.fieldAt wr11_fo92_4 T3 (oS rfl (Yk.cell1 wr11_ty4 rfl (vr (PQ n79 4) rfl) (cellAt hb82 (show (partsC (⟨false, false, false, true, false, true, false, false⟩ : Parts))[4]? = some (.bool (false) : Value) from parts_g4 (⟨false, false, false, true, false, true, false, false⟩ : Parts))) (oZ (tN (hK378 _ _ (wpF_false (vr (.bool (false)) rfl) (wpF_skip (tN (hK377 _ _ (sk fun K379 hK379 => (sk fun K380 hK380 => (wt (oS rfl (Yk.fieldAt wr11_fo92_5 T3 ?_)))))))))))))))))))))
  refine oS rfl (Yk.cell1 wr11_ty4 rfl (vr (PQ n79 5) rfl) (cellAt hb82 (show (partsC (⟨false, false, false, true, false, true, false, false⟩ : Parts))[5]? = some (.bool (true) : Value) from parts_g5 (⟨false, false, false, true, false, true, false, false⟩ : Parts))) (oZ (tN (hK380 _ _ (wpF_true (vr (.bool (true)) rfl) (wt (oS rfl (Yk.cell1 wr11_ty109 rfl T1 (cellAt hb14 (show _ = some (PQ r 0 : Value) from rfl)) (oP rfl (Yp.callA2 wr11_pl113 (vr (PQ r 0) rfl) (vr (NI 256) rfl) ?_))))))))))
  refine calls_either (textW_any _ r v b i1 hb (hr.keep hE0) hapr hle_i1 hl 256) ?_ ?_
  rotate_left
  ·
   rintro ch w383 ⟨hPx, rfl, hgx⟩
   refine thenF_panic (postP_panic ?_)
   exact .inr ⟨_, rfl, by rw [hD]; simp only [hPb1, hPx, Option.bind_some, Option.bind_none], rfl, (row_fresh hE0 hgx lr)⟩
  rintro v_ w385 ⟨d2, i2, hPb2, rfl, hb381, hg382⟩
  have hE0 := row_fresh hE0 hg382 (Nat.le_trans (Nat.le_refl _) lr)
  have hb14 := kb hg382 hb14 (by omega)
  have hb82 := kb hg382 hb82 (by omega)
  clear hb
  have hb31 := kb hg382 hb31 (by omega)
  have hb := hb381; clear hb381
  have hle_i2 :=   (txtP_le hPb2).1
  have hl386 := bl hb
  refine oS rfl (Yk.convStr wr11_ty9 wr11_ty26 wr11_ty5 (vr (St (d2)) rfl) (by have := (txtP_le hPb2).2; omega) fun v387 w388 hr389 hx390 hq391 => ?_)
  have hap392 : OB v387 n2 := fun e => by have := (hq391 _ e).1; have := (bl hb14); omega
  have hap393 : OB v387 n79 := fun e => by have := (hq391 _ e).1; have := (bl hb82); omega
  have hap394 : OB v387 n16 := fun e => by have := (hq391 _ e).1; have := (bl hb31); omega
  have hap395 : OB v387 r := fun e => by have := (hq391 _ e).1; have := (bl hb); omega
  have hzq := hE0.size
  have hE0 := hE0.trans hx390
  have hb14 := eb hx390 hb14
  have hb82 := eb hx390 hb82
  have hb31 := eb hx390 hb31
  have hb := eb hx390 hb
  refine oS rfl (Yk.fieldAt wr11_fo29_8 T2 (oS rfl (Yk.storeC (i := 39) (v := v387) (vr (PQ n16 39) rfl) (vr v387 rfl) hb31 (by rw [msg_len]; decide) wr11_isz26 (RB.one hr389).1 (RB.one hr389).2 fun w396 hb397 hg398 hs399 => ?_)))
  have hE0 := row_fresh hE0 hg398 (Nat.le_trans (Nat.le_refl _) (by omega))
  have hb14 := kb hg398 hb14 (by omega)
  have hb82 := kb hg398 hb82 (by omega)
  clear hb31
  have hb := kb hg398 hb (by omega)
  have hr389 := RB.kept hr389 hg398 (.inr hap394)
  have hb31 : w396.heap[n16]? = some (.cells (msgC ((⟨c1, ((c2 : Nat) : Int), [], [], [], 0, ((d1 : Nat) : Int), zid, d2, [], zid, zid, false, 0⟩, ⟨(Value.slice none 0 0), (Value.slice none 0 0), (Value.slice none 0 0), v387⟩) : MsgV)).toArray 29 (0, 0)) := blk_eq hb397 (msg_s8 ((⟨c1, ((c2 : Nat) : Int), [], [], [], 0, ((d1 : Nat) : Int), zid, [], [], zid, zid, false, 0⟩, ⟨(Value.slice none 0 0), (Value.slice none 0 0), (Value.slice none 0 0), (Value.slice none 0 0)⟩) : MsgV) v387 (d2)); clear hb397
  have hl400 := bl hb31
  refine oZ (tN (hK379 _ _ (sk fun K401 hK401 => (sk fun K402 hK402 => (wt (oS rfl (Yk.fieldAt wr11_fo92_6 T3 (oS rfl (Yk.cell1 wr11_ty4 rfl (vr (PQ n79 6) rfl) (cellAt hb82 (show (partsC (⟨false, false, false, true, false, true, false, false⟩ : Parts))[6]? = some (.bool (false) : Value) from parts_g6 (⟨false, false, false, true, false, true, false, false⟩ : Parts))) (oZ (tN (hK402 _ _ (wpF_false (vr (.bool (false)) rfl) (wpF_skip (tN (hK401 _ _ (sk fun K403 hK403 => (sk fun K404 hK404 => (wt (oS rfl (Yk.fieldAt wr11_fo92_7 T3 ?_)))))))))))))))))))))
  refine oS rfl (Yk.cell1 wr11_ty4 rfl (vr (PQ n79 7) rfl) (cellAt hb82 (show (partsC (⟨false, false, false, true, false, true, false, false⟩ : Parts))[7]? = some (.bool (false) : Value) from parts_g7 (⟨false, false, false, true, false, true, false, false⟩ : Parts))) (oZ ?_))
  have hMl : MsgLt (((⟨c1, ((c2 : Nat) : Int), [], [], [], 0, ((d1 : Nat) : Int), zid, d2, [], zid, zid, false, 0⟩, ⟨(Value.slice none 0 0), (Value.slice none 0 0), (Value.slice none 0 0), v387⟩) : MsgV) : MsgV).1 := ⟨by simp, fun u hu => (by cases hu), by simp, by simp, by simp⟩
  by_cases hj : i2 = b.length
  ·refine tN (hK404 _ _ (wpF_false (vr (.bool (false)) rfl) (wpF_skip (tN (hK403 _ _ (sk fun K405 hK405 => ?_))))))
   refine wpF_draw_endE 14 _ [Is (PQ r 0), Is (PQ r 0), Is (PQ r 1), Is (NI i2), Is (PQ r 0), Is (PQ r 0), Is (PQ r 0), Is (v), Is (NI b.length), Is (.bool (true)), Is (.bool (true)), Is (.agg (msgC ((⟨c1, ((c2 : Nat) : Int), [], [], [], 0, ((d1 : Nat) : Int), zid, d2, [], zid, zid, false, 0⟩, ⟨(Value.slice none 0 0), (Value.slice none 0 0), (Value.slice none 0 0), v387⟩) : MsgV)).toArray), Is (.bool (rightB (((⟨c1, ((c2 : Nat) : Int), [], [], [], 0, ((d1 : Nat) : Int), zid, d2, [], zid, zid, false, 0⟩, ⟨(Value.slice none 0 0), (Value.slice none 0 0), (Value.slice none 0 0), v387⟩) : MsgV) : MsgV).1)), Is (.bool (rightB (((⟨c1, ((c2 : Nat) : Int), [], [], [], 0, ((d1 : Nat) : Int), zid, d2, [], zid, zid, false, 0⟩, ⟨(Value.slice none 0 0), (Value.slice none 0 0), (Value.slice none 0 0), v387⟩) : MsgV) : MsgV).1))] (by kernel_rfl) [79, 80, 81, 82, 83, 84, 85, 86, 87, 88, 89, 90, 91, 92, 93] (by kernel_rfl) (by kernel_rfl) (by kernel_rfl) rfl rfl rfl (fun _ _ => trivial) (si2 (si12 trivial)) ?hs13027 ?hQ13027
   case hs13027 =>
    refine ⟨?_, ?_, ?_, ?_, ?_, ?_, ?_, ?_, ?_, ?_, ?_, ?_, ?_, ?_, ?_, trivial⟩
    ·refine stepFL (stepN rfl fun σ w1 hC h => ?_)
     have e1 := (eqo (h 1 (by decide))).trans T1
     exact Yk.cell1 wr11_ty109 rfl e1 (cellAt (eb hC hb14) (show _ = some (PQ r 0 : Value) from rfl)) ⟨Ext.refl _, rfl⟩
    ·refine stepFL (stepN rfl fun σ w1 hC h => ?_)
     have e79 := eqo (h 79 (by decide))
     exact Yk.nilCheck e79 ⟨Ext.refl _, rfl⟩
    ·refine stepFL (stepN rfl fun σ w1 hC h => ?_)
     have e80 := eqo (h 80 (by decide))
     exact Yk.fieldAt wr11_fo111_1 e80 ⟨Ext.refl _, rfl⟩
    ·refine stepFL (stepN rfl fun σ w1 hC h => ?_)
     have e81 := eqo (h 81 (by decide))
     exact Yk.cell1 wr11_ty3 rfl e81 (cellAt (eb hC hb) (show (rdC (rdX v b (i2)))[1]? = some (NI i2 : Value) from rd_g1 (rdX v b (i2)))) ⟨Ext.refl _, rfl⟩
    ·refine stepFL (stepN rfl fun σ w1 hC h => ?_)
     have e1 := (eqo (h 1 (by decide))).trans T1
     exact Yk.cell1 wr11_ty109 rfl e1 (cellAt (eb hC hb14) (show _ = some (PQ r 0 : Value) from rfl)) ⟨Ext.refl _, rfl⟩
    ·refine stepFL (stepN rfl fun σ w1 hC h => ?_)
     have e83 := eqo (h 83 (by decide))
     exact Yk.nilCheck e83 ⟨Ext.refl _, rfl⟩
    ·refine stepFL (stepN rfl fun σ w1 hC h => ?_)
     have e84 := eqo (h 84 (by decide))
     exact Yk.fieldAt wr11_fo111_0 e84 ⟨Ext.refl _, rfl⟩
    ·refine stepFL (stepN rfl fun σ w1 hC h => ?_)
     have e85 := eqo (h 85 (by decide))
     exact Yk.cell1 wr11_ty26 rfl e85 (cellAt (eb hC hb) (show (rdC (rdX v b (i2)))[0]? = some (v : Value) from rd_g0 (rdX v b (i2)))) ⟨Ext.refl _, rfl⟩
    ·refine stepFL (stepN rfl fun σ w1 hC h => ?_)
     have e86 := eqo (h 86 (by decide))
     exact Yk.lenRB wr11_ty26 (RB.of (hr.keep (hE0.trans hC)) e86) ⟨Ext.refl _, rfl⟩
    ·refine stepFL (stepN rfl fun σ w1 hC h => ?_)
     have e82 := eqo (h 82 (by decide))
     have e87 := eqo (h 87 (by decide))
     exact Yk.eqI (a := (i2 : Nat)) (b := (b.length : Nat)) e82 e87 (k_eql _ _ _ _) ⟨Ext.refl _, (congrArg Value.bool (decide_eq_true (hj)))⟩
    ·refine stepFL (stepN rfl fun σ w1 hC h => ?_)
     have e88 := eqo (h 88 (by decide))
     exact Yk.move e88 ⟨Ext.refl _, rfl⟩
    ·refine stepFL (stepY 10 true 89 rfl rfl (fun _ _ h => h) fun σ w1 hC h => ?_)
     have e2 := (eqo (h 2 (by decide))).trans T2
     exact Yk.loadAll e2 (eb hC hb31) (wr11_ty29).choose_spec rfl (st_isz (msg_len ((⟨c1, ((c2 : Nat) : Int), [], [], [], 0, ((d1 : Nat) : Int), zid, d2, [], zid, zid, false, 0⟩, ⟨(Value.slice none 0 0), (Value.slice none 0 0), (Value.slice none 0 0), v387⟩) : MsgV)) wr11_isz29) ⟨Ext.refl _, rfl⟩
    ·refine stepFL (stepY 10 true 89 rfl rfl (fun _ _ h => h) fun σ w1 hC h => ?_)
     have e90 := eqo (h 90 (by decide))
     refine Yk.callA1 wr11_pl19 e90 ((right_any _ ((⟨c1, ((c2 : Nat) : Int), [], [], [], 0, ((d1 : Nat) : Int), zid, d2, [], zid, zid, false, 0⟩, ⟨(Value.slice none 0 0), (Value.slice none 0 0), (Value.slice none 0 0), v387⟩) : MsgV) (MsgAt.mk (RG.nil _ _ _) (RG.nil _ _ _) (RG.nil _ _ _) (hr389.keep hC)) hMl).mono ?_)
     rintro e w2 ⟨rfl, hx⟩
     exact ⟨_, rfl, hx, rfl⟩
    ·refine stepFL (stepN rfl fun σ w1 hC h => ?_)
     have e89 := eqo (h 89 (by decide))
     have e91 := eqo (h 91 (by decide))
     exact Yk.pickT e89 e91 ⟨Ext.refl _, rfl⟩
    ·exact trivial
   intro ρ406 w407 hx408 he hf
   obtain ⟨-, -, -, -, -, -, -, -, -, -, -, -, -, k92, -⟩ := hf
   obtain ⟨T0, T1, T2, T3, T4, T22, T27, T35, T40, T45, T50, T56, T75, -⟩ := he.hold [(0, _), (1, _), (2, _), (3, _), (4, _), (22, .bool (false)), (27, .bool (false)), (35, .bool (false)), (40, .bool (true)), (45, .bool (false)), (50, .bool (true)), (56, .bool (false)), (75, .bool (false))] ⟨T0, T1, T2, T3, T15, rfl, rfl, rfl, rfl, rfl, rfl, rfl, rfl, trivial⟩ rfl
   clear he
   have hE0 := hE0.trans hx408
   have hb14 := eb hx408 hb14
   have hb82 := eb hx408 hb82
   have hb := eb hx408 hb
   have hr389 := hr389.keep hx408
   have hb31 := eb hx408 hb31
   have T92 : ρ406 92 = .bool (rightB (((⟨c1, ((c2 : Nat) : Int), [], [], [], 0, ((d1 : Nat) : Int), zid, d2, [], zid, zid, false, 0⟩, ⟨(Value.slice none 0 0), (Value.slice none 0 0), (Value.slice none 0 0), v387⟩) : MsgV) : MsgV).1) := k92
   clear k92
   refine Yp.callA1 wr11_pl109 T92 ?_
   refine calls_either (needW_any _ (rightB (((⟨c1, ((c2 : Nat) : Int), [], [], [], 0, ((d1 : Nat) : Int), zid, d2, [], zid, zid, false, 0⟩, ⟨(Value.slice none 0 0), (Value.slice none 0 0), (Value.slice none 0 0), v387⟩) : MsgV) : MsgV).1)) ?_ ?_
   rotate_left
   ·
    rintro ch w411 ⟨rfl, hb, hx⟩
    refine thenF_panic (postP_panic ?_)
    exact .inr ⟨_, rfl, by rw [hD]; simp only [hPb1, hPb2, Option.bind_some]; refine if_neg ?_; rintro ⟨h1, h2⟩; exact Bool.noConfusion (h2.symm.trans hb), rfl, hE0.trans hx⟩
   rintro v_ w412 ⟨rfl, hb409, hx410⟩
   have hE0 := hE0.trans hx410
   have hb14 := eb hx410 hb14
   have hb82 := eb hx410 hb82
   have hb := eb hx410 hb
   have hr389 := hr389.keep hx410
   have hb31 := eb hx410 hb31
   intro ρ413 hu414
   have T0 : ρ413 0 = (PQ r 0 : Value) := (hu414 0 (by decide)).trans T0
   have T1 : ρ413 1 = (PQ n2 0 : Value) := (hu414 1 (by decide)).trans T1
   have T2 : ρ413 2 = (PQ n16 0 : Value) := (hu414 2 (by decide)).trans T2
   have T3 : ρ413 3 = (PQ n79 0 : Value) := (hu414 3 (by decide)).trans T3
   have T4 : ρ413 4 = (.bool (true) : Value) := (hu414 4 (by decide)).trans T4
   have T22 : ρ413 22 = (.bool (false) : Value) := (hu414 22 (by decide)).trans T22
   have T27 : ρ413 27 = (.bool (false) : Value) := (hu414 27 (by decide)).trans T27
   have T35 : ρ413 35 = (.bool (false) : Value) := (hu414 35 (by decide)).trans T35
   have T40 : ρ413 40 = (.bool (true) : Value) := (hu414 40 (by decide)).trans T40
   have T45 : ρ413 45 = (.bool (false) : Value) := (hu414 45 (by decide)).trans T45
   have T50 : ρ413 50 = (.bool (true) : Value) := (hu414 50 (by decide)).trans T50
   have T56 : ρ413 56 = (.bool (false) : Value) := (hu414 56 (by decide)).trans T56
   have T75 : ρ413 75 = (.bool (false) : Value) := (hu414 75 (by decide)).trans T75
   refine tN (hK405 _ _ (sk fun K415 hK415 => (wt (oS rfl (Yk.loadAll T2 hb31 (wr11_ty29).choose_spec rfl (st_isz (msg_len ((⟨c1, ((c2 : Nat) : Int), [], [], [], 0, ((d1 : Nat) : Int), zid, d2, [], zid, zid, false, 0⟩, ⟨(Value.slice none 0 0), (Value.slice none 0 0), (Value.slice none 0 0), v387⟩) : MsgV)) wr11_isz29) (oS rfl (Yk.storeAll T2 (vr (.agg (msgC ((⟨c1, ((c2 : Nat) : Int), [], [], [], 0, ((d1 : Nat) : Int), zid, d2, [], zid, zid, false, 0⟩, ⟨(Value.slice none 0 0), (Value.slice none 0 0), (Value.slice none 0 0), v387⟩) : MsgV)).toArray) rfl) hb31 (by simp only [List.size_toArray, msg_len]) (st_isz (msg_len _) wr11_isz29) (msg_one (x := ((⟨c1, ((c2 : Nat) : Int), [], [], [], 0, ((d1 : Nat) : Int), zid, d2, [], zid, zid, false, 0⟩, ⟨(Value.slice none 0 0), (Value.slice none 0 0), (Value.slice none 0 0), v387⟩) : MsgV)) rfl rfl rfl (RB.one hr389).2) fun w416 hb417 hg418 hs419 => ?_)))))))
   have hE0 := row_fresh hE0 hg418 (Nat.le_trans (Nat.le_refl _) (by omega))
   have hb14 := kb hg418 hb14 (by omega)
   have hb82 := kb hg418 hb82 (by omega)
   have hb := kb hg418 hb (by omega)
   have hr389 := RB.kept hr389 hg418 (.inr hap394)
   clear hb31
   have hb31 : w416.heap[n16]? = some (.cells (msgC ((⟨c1, ((c2 : Nat) : Int), [], [], [], 0, ((d1 : Nat) : Int), zid, d2, [], zid, zid, false, 0⟩, ⟨(Value.slice none 0 0), (Value.slice none 0 0), (Value.slice none 0 0), v387⟩) : MsgV)).toArray 29 (0, 0)) := hb417; clear hb417
   have hl420 := bl hb31
   refine oZ (tN (hK415 _ _ (wpF_ret (postP_ret (fn := Tryd.f67) _ rfl [.agg (msgC ((⟨c1, ((c2 : Nat) : Int), [], [], [], 0, ((d1 : Nat) : Int), zid, d2, [], zid, zid, false, 0⟩, ⟨(Value.slice none 0 0), (Value.slice none 0 0), (Value.slice none 0 0), v387⟩) : MsgV)).toArray] (.agg (msgC ((⟨c1, ((c2 : Nat) : Int), [], [], [], 0, ((d1 : Nat) : Int), zid, d2, [], zid, zid, false, 0⟩, ⟨(Value.slice none 0 0), (Value.slice none 0 0), (Value.slice none 0 0), v387⟩) : MsgV)).toArray) rfl ⟨ResF.row T2 hb31 (wr11_ty29).choose_spec rfl (st_isz (msg_len _) wr11_isz29), trivial⟩ ?_))))
   exact .inl ⟨_, rfl, ((⟨c1, ((c2 : Nat) : Int), [], [], [], 0, ((d1 : Nat) : Int), zid, d2, [], zid, zid, false, 0⟩, ⟨(Value.slice none 0 0), (Value.slice none 0 0), (Value.slice none 0 0), v387⟩) : MsgV), by rw [hD]; simp only [hPb1, hPb2, Option.bind_some]; refine if_pos ?_; exact ⟨hj, hb409⟩, rfl, (MsgAt.mk (RG.nil _ _ _) (RG.nil _ _ _) (RG.nil _ _ _) hr389), ⟨(fun k h => by cases h), (fun k h => by cases h), (fun k h => by cases h), (fun k h => by have := (hq391 k h).1; omega)⟩, hE0⟩
  refine tN (hK404 _ _ (wpF_false (vr (.bool (false)) rfl) (wpF_skip (tN (hK403 _ _ (sk fun K421 hK421 => ?_))))))
  refine wpF_draw_endE 14 _ [Is (PQ r 0), Is (PQ r 0), Is (PQ r 1), Is (NI i2), Is (PQ r 0), Is (PQ r 0), Is (PQ r 0), Is (v), Is (NI b.length), Is (.bool (false)), Is (.bool (false)), Is undef, Is undef, Is (.bool (false))] (by kernel_rfl) [79, 80, 81, 82, 83, 84, 85, 86, 87, 88, 89, 90, 91, 92, 93] (by kernel_rfl) (by kernel_rfl) (by kernel_rfl) rfl rfl rfl (fun _ _ => trivial) (si2 (si12 trivial)) ?hs14027 ?hQ14027
  case hs14027 =>
   refine ⟨?_, ?_, ?_, ?_, ?_, ?_, ?_, ?_, ?_, ?_, ?_, ?_, ?_, ?_, ?_, trivial⟩
   ·refine stepFL (stepN rfl fun σ w1 hC h => ?_)
    have e1 := (eqo (h 1 (by decide))).trans T1
    exact Yk.cell1 wr11_ty109 rfl e1 (cellAt (eb hC hb14) (show _ = some (PQ r 0 : Value) from rfl)) ⟨Ext.refl _, rfl⟩
   ·refine stepFL (stepN rfl fun σ w1 hC h => ?_)
    have e79 := eqo (h 79 (by decide))
    exact Yk.nilCheck e79 ⟨Ext.refl _, rfl⟩
   ·refine stepFL (stepN rfl fun σ w1 hC h => ?_)
    have e80 := eqo (h 80 (by decide))
    exact Yk.fieldAt wr11_fo111_1 e80 ⟨Ext.refl _, rfl⟩
   ·refine stepFL (stepN rfl fun σ w1 hC h => ?_)
    have e81 := eqo (h 81 (by decide))
    exact Yk.cell1 wr11_ty3 rfl e81 (cellAt (eb hC hb) (show (rdC (rdX v b (i2)))[1]? = some (NI i2 : Value) from rd_g1 (rdX v b (i2)))) ⟨Ext.refl _, rfl⟩
   ·refine stepFL (stepN rfl fun σ w1 hC h => ?_)
    have e1 := (eqo (h 1 (by decide))).trans T1
    exact Yk.cell1 wr11_ty109 rfl e1 (cellAt (eb hC hb14) (show _ = some (PQ r 0 : Value) from rfl)) ⟨Ext.refl _, rfl⟩
   ·refine stepFL (stepN rfl fun σ w1 hC h => ?_)
    have e83 := eqo (h 83 (by decide))
    exact Yk.nilCheck e83 ⟨Ext.refl _, rfl⟩
   ·refine stepFL (stepN rfl fun σ w1 hC h => ?_)
    have e84 := eqo (h 84 (by decide))
    exact Yk.fieldAt wr11_fo111_0 e84 ⟨Ext.refl _, rfl⟩
   ·refine stepFL (stepN rfl fun σ w1 hC h => ?_)
    have e85 := eqo (h 85 (by decide))
    exact Yk.cell1 wr11_ty26 rfl e85 (cellAt (eb hC hb) (show (rdC (rdX v b (i2)))[0]? = some (v : Value) from rd_g0 (rdX v b (i2)))) ⟨Ext.refl _, rfl⟩
   ·refine stepFL (stepN rfl fun σ w1 hC h => ?_)
    have e86 := eqo (h 86 (by decide))
    exact Yk.lenRB wr11_ty26 (RB.of (hr.keep (hE0.trans hC)) e86) ⟨Ext.refl _, rfl⟩
   ·refine stepFL (stepN rfl fun σ w1 hC h => ?_)
    have e82 := eqo (h 82 (by decide))
    have e87 := eqo (h 87 (by decide))
    exact Yk.eqI (a := (i2 : Nat)) (b := (b.length : Nat)) e82 e87 (k_eql _ _ _ _) ⟨Ext.refl _, (congrArg Value.bool (decide_eq_false (hj)))⟩
   ·refine stepFL (stepN rfl fun σ w1 hC h => ?_)
    have e88 := eqo (h 88 (by decide))
    exact Yk.move e88 ⟨Ext.refl _, rfl⟩
   ·refine stepFL (stepX 10 true 89 rfl rfl (fun x _ (h : x = .bool false) => by rw [h]; intro h; cases h) fun _ => rfl)
   ·refine stepFL (stepX 10 true 89 rfl rfl (fun x _ (h : x = .bool false) => by rw [h]; intro h; cases h) fun _ => rfl)
   ·refine stepFL (stepN rfl fun σ w1 hC h => ?_)
    have e89 := eqo (h 89 (by decide))
    exact Yk.pickF e89 (vr (.bool (false)) rfl) ⟨Ext.refl _, rfl⟩
   ·exact trivial
  intro ρ422 w423 hx424 he hf
  obtain ⟨-, -, -, -, -, -, -, -, -, -, -, -, -, k92, -⟩ := hf
  obtain ⟨T0, T1, T2, T3, T4, T22, T27, T35, T40, T45, T50, T56, T75, -⟩ := he.hold [(0, _), (1, _), (2, _), (3, _), (4, _), (22, .bool (false)), (27, .bool (false)), (35, .bool (false)), (40, .bool (true)), (45, .bool (false)), (50, .bool (true)), (56, .bool (false)), (75, .bool (false))] ⟨T0, T1, T2, T3, T15, rfl, rfl, rfl, rfl, rfl, rfl, rfl, rfl, trivial⟩ rfl
  clear he
  have hE0 := hE0.trans hx424
  have hb14 := eb hx424 hb14
  have hb82 := eb hx424 hb82
  have hb := eb hx424 hb
  have hr389 := hr389.keep hx424
  have hb31 := eb hx424 hb31
  have T92 : ρ422 92 = .bool (false) := k92
  clear k92
  refine Yp.callA1 wr11_pl109 T92 ?_
  refine calls_either (needW_any _ (false)) ?_ ?_
  rotate_left
  ·
   rintro ch w427 ⟨rfl, hb, hx⟩
   refine thenF_panic (postP_panic ?_)
   exact .inr ⟨_, rfl, by rw [hD]; simp only [hPb1, hPb2, Option.bind_some]; refine if_neg ?_; rintro ⟨h1, h2⟩; exact hj h1, rfl, hE0.trans hx⟩
  rintro v_ w428 ⟨rfl, hb425, hx426⟩
  cases hb425
 ·have hD := decP_eq hP1 hK hP2
  rw [restP7 (m := (⟨c1, ((c2 : Nat) : Int), [], [], [], 0, 0, zid, [], [], zid, zid, false, 0⟩ : Msg)) hk] at hD
  refine tN (hK91 _ _ (sk fun K429 hK429 => (sk fun K430 hK430 => (wt (oS rfl (Yk.fieldAt wr11_fo92_0 T3 (oS rfl (Yk.cell1 wr11_ty4 rfl (vr (PQ n79 0) rfl) (cellAt hb82 (show (partsC (⟨false, false, true, false, true, false, true, false⟩ : Parts))[0]? = some (.bool (false) : Value) from parts_g0 (⟨false, false, true, false, true, false, true, false⟩ : Parts))) (oZ (tN (hK430 _ _ (wpF_false (vr (.bool (false)) rfl) (wpF_skip (tN (hK429 _ _ (sk fun K431 hK431 => (sk fun K432 hK432 => (wt (oS rfl (Yk.fieldAt wr11_fo92_1 T3 (oS rfl (Yk.cell1 wr11_ty4 rfl (vr (PQ n79 1) rfl) (cellAt hb82 (show (partsC (⟨false, false, true, false, true, false, true, false⟩ : Parts))[1]? = some (.bool (false) : Value) from parts_g1 (⟨false, false, true, false, true, false, true, false⟩ : Parts))) ?_))))))))))))))))))))))
  refine oZ (tN (hK432 _ _ (wpF_false (vr (.bool (false)) rfl) (wpF_skip (tN (hK431 _ _ (sk fun K433 hK433 => (sk fun K434 hK434 => (wt (oS rfl (Yk.fieldAt wr11_fo92_2 T3 (oS rfl (Yk.cell1 wr11_ty4 rfl (vr (PQ n79 2) rfl) (cellAt hb82 (show (partsC (⟨false, false, true, false, true, false, true, false⟩ : Parts))[2]? = some (.bool (true) : Value) from parts_g2 (⟨false, false, true, false, true, false, true, false⟩ : Parts))) (oZ (tN (hK434 _ _ (wpF_true (vr (.bool (true)) rfl) (wt (oS rfl (Yk.cell1 wr11_ty109 rfl T1 (cellAt hb14 (show _ = some (PQ r 0 : Value) from rfl)) (oP rfl (Yp.callA1 wr11_pl110 (vr (PQ r 0) rfl) ?_))))))))))))))))))))))
  refine calls_either (numberW_any _ r v b j2 hb (hr.keep hE0) hapr hle_j2 hl) ?_ ?_
  rotate_left
  ·
   rintro ch w437 ⟨hPx, rfl, hgx⟩
   refine thenF_panic (postP_panic ?_)
   exact .inr ⟨_, rfl, by rw [hD]; simp only [hPx, Option.bind_some, Option.bind_none], rfl, (row_fresh hE0 hgx lr)⟩
  rintro v_ w439 ⟨d1, i1, hPb1, rfl, hb435, hg436⟩
  have hE0 := row_fresh hE0 hg436 (Nat.le_trans (Nat.le_refl _) lr)
  have hb14 := kb hg436 hb14 (by omega)
  have hb82 := kb hg436 hb82 (by omega)
  clear hb
  have hb31 := kb hg436 hb31 (by omega)
  have hb := hb435; clear hb435
  have hle_i1 := numP_le hle_j2 hPb1
  have hl440 := bl hb
  refine oS rfl (Yk.fieldAt wr11_fo29_5 T2 (oS rfl (Yk.storeC (i := 5) (v := NI d1) (vr (PQ n16 5) rfl) (vr (NI d1) rfl) hb31 (by rw [msg_len]; decide) wr11_isz3 rfl rfl fun w441 hb442 hg443 hs444 => ?_)))
  have hE0 := row_fresh hE0 hg443 (Nat.le_trans (Nat.le_refl _) (by omega))
  have hb14 := kb hg443 hb14 (by omega)
  have hb82 := kb hg443 hb82 (by omega)
  clear hb31
  have hb := kb hg443 hb (by omega)
  have hb31 : w441.heap[n16]? = some (.cells (msgC ((⟨c1, ((c2 : Nat) : Int), [], [], [], ((d1 : Nat) : Int), 0, zid, [], [], zid, zid, false, 0⟩, ⟨(Value.slice none 0 0), (Value.slice none 0 0), (Value.slice none 0 0), (Value.slice none 0 0)⟩) : MsgV)).toArray 29 (0, 0)) := blk_eq hb442 (msg_s5 ((⟨c1, ((c2 : Nat) : Int), [], [], [], 0, 0, zid, [], [], zid, zid, false, 0⟩, ⟨(Value.slice none 0 0), (Value.slice none 0 0), (Value.slice none 0 0), (Value.slice none 0 0)⟩) : MsgV) ((d1 : Nat) : Int)); clear hb442
  have hl445 := bl hb31
  refine oZ (tN (hK433 _ _ (sk fun K446 hK446 => (sk fun K447 hK447 => (wt (oS rfl (Yk.fieldAt wr11_fo92_3 T3 (oS rfl (Yk.cell1 wr11_ty4 rfl (vr (PQ n79 3) rfl) (cellAt hb82 (show (partsC (⟨false, false, true, false, true, false, true, false⟩ : Parts))[3]? = some (.bool (false) : Value) from parts_g3 (⟨false, false, true, false, true, false, true, false⟩ : Parts))) (oZ (tN (hK447 _ _ (wpF_false (vr (.bool (false)) rfl) (wpF_skip (tN (hK446 _ _ (sk fun K448 hK448 => (sk fun K449 hK449 => (wt (oS rfl (Yk.fieldAt wr11_fo92_4 T3 ?_)))))))))))))))))))))
  refine oS rfl (Yk.cell1 wr11_ty4 rfl (vr (PQ n79 4) rfl) (cellAt hb82 (show (partsC (⟨false, false, true, false, true, false, true, false⟩ : Parts))[4]? = some (.bool (true) : Value) from parts_g4 (⟨false, false, true, false, true, false, true, false⟩ : Parts))) (oZ (tN (hK449 _ _ (wpF_true (vr (.bool (true)) rfl) (wt (oS rfl (Yk.cell1 wr11_ty109 rfl T1 (cellAt hb14 (show _ = some (PQ r 0 : Value) from rfl)) (oP rfl (Yp.callA1 wr11_pl114 (vr (PQ r 0) rfl) ?_))))))))))
  refine calls_either (idW_any _ r v b i1 hb (hr.keep hE0) hapr hle_i1 hl) ?_ ?_
  rotate_left
  ·
   rintro ch w452 ⟨hPx, rfl, hgx⟩
   refine thenF_panic (postP_panic ?_)
   exact .inr ⟨_, rfl, by rw [hD]; simp only [hPb1, hPx, Option.bind_some, Option.bind_none], rfl, (row_fresh hE0 hgx lr)⟩
  rintro v_ w454 ⟨d2, i2, hPb2, rfl, hb450, hg451⟩
  have hE0 := row_fresh hE0 hg451 (Nat.le_trans (Nat.le_refl _) lr)
  have hb14 := kb hg451 hb14 (by omega)
  have hb82 := kb hg451 hb82 (by omega)
  clear hb
  have hb31 := kb hg451 hb31 (by omega)
  have hb := hb450; clear hb450
  have hle_i2 := idP_le hPb2
  have hl455 := bl hb
  refine oS rfl (Yk.fieldAt wr11_fo29_7 T2 (oS rfl (Yk.storeMid (a := msg_a7 ((⟨c1, ((c2 : Nat) : Int), [], [], [], ((d1 : Nat) : Int), 0, zid, [], [], zid, zid, false, 0⟩, ⟨(Value.slice none 0 0), (Value.slice none 0 0), (Value.slice none 0 0), (Value.slice none 0 0)⟩) : MsgV)) (m := Lib.byteCells zid.1) (z := msg_z7 ((⟨c1, ((c2 : Nat) : Int), [], [], [], ((d1 : Nat) : Int), 0, zid, [], [], zid, zid, false, 0⟩, ⟨(Value.slice none 0 0), (Value.slice none 0 0), (Value.slice none 0 0), (Value.slice none 0 0)⟩) : MsgV)) (cells := Lib.byteCells d2.1) (vr (PQ n16 7) rfl) (vr (AB d2.1) rfl) (msg_m7 ((⟨c1, ((c2 : Nat) : Int), [], [], [], ((d1 : Nat) : Int), 0, zid, [], [], zid, zid, false, 0⟩, ⟨(Value.slice none 0 0), (Value.slice none 0 0), (Value.slice none 0 0), (Value.slice none 0 0)⟩) : MsgV) ▸ hb31) (msg_n7 ((⟨c1, ((c2 : Nat) : Int), [], [], [], ((d1 : Nat) : Int), 0, zid, [], [], zid, zid, false, 0⟩, ⟨(Value.slice none 0 0), (Value.slice none 0 0), (Value.slice none 0 0), (Value.slice none 0 0)⟩) : MsgV)) (by rw [Lib.byteCells_length, Lib.byteCells_length, zid.2, d2.2]) (by rw [Lib.byteCells_length, d2.2]; exact wr11_isz25) (byteCells_one _) fun w456 hb457 hg458 hs459 => ?_)))
  have hE0 := row_fresh hE0 hg458 (Nat.le_trans (Nat.le_refl _) (by omega))
  have hb14 := kb hg458 hb14 (by omega)
  have hb82 := kb hg458 hb82 (by omega)
  clear hb31
  have hb := kb hg458 hb (by omega)
  have hb31 : w456.heap[n16]? = some (.cells (msgC ((⟨c1, ((c2 : Nat) : Int), [], [], [], ((d1 : Nat) : Int), 0, d2, [], [], zid, zid, false, 0⟩, ⟨(Value.slice none 0 0), (Value.slice none 0 0), (Value.slice none 0 0), (Value.slice none 0 0)⟩) : MsgV)).toArray 29 (0, 0)) := blk_eq hb457 (msg_s7 ((⟨c1, ((c2 : Nat) : Int), [], [], [], ((d1 : Nat) : Int), 0, zid, [], [], zid, zid, false, 0⟩, ⟨(Value.slice none 0 0), (Value.slice none 0 0), (Value.slice none 0 0), (Value.slice none 0 0)⟩) : MsgV) d2); clear hb457
  have hl460 := bl hb31
  refine oZ (tN (hK448 _ _ (sk fun K461 hK461 => (sk fun K462 hK462 => (wt (oS rfl (Yk.fieldAt wr11_fo92_5 T3 (oS rfl (Yk.cell1 wr11_ty4 rfl (vr (PQ n79 5) rfl) (cellAt hb82 (show (partsC (⟨false, false, true, false, true, false, true, false⟩ : Parts))[5]? = some (.bool (false) : Value) from parts_g5 (⟨false, false, true, false, true, false, true, false⟩ : Parts))) (oZ (tN (hK462 _ _ (wpF_false (vr (.bool (false)) rfl) (wpF_skip (tN (hK461 _ _ (sk fun K463 hK463 => (sk fun K464 hK464 => (wt (oS rfl (Yk.fieldAt wr11_fo92_6 T3 ?_)))))))))))))))))))))
  refine oS rfl (Yk.cell1 wr11_ty4 rfl (vr (PQ n79 6) rfl) (cellAt hb82 (show (partsC (⟨false, false, true, false, true, false, true, false⟩ : Parts))[6]? = some (.bool (true) : Value) from parts_g6 (⟨false, false, true, false, true, false, true, false⟩ : Parts))) (oZ (tN (hK464 _ _ (wpF_true (vr (.bool (true)) rfl) (sk fun K465 hK465 => (wt (oS rfl (Yk.cell1 wr11_ty109 rfl T1 (cellAt hb14 (show _ = some (PQ r 0 : Value) from rfl)) (oP rfl (Yp.callA2 wr11_pl113 (vr (PQ r 0) rfl) (vr (NI 32) rfl) ?_)))))))))))
  refine calls_either (textW_any _ r v b i2 hb (hr.keep hE0) hapr hle_i2 hl 32) ?_ ?_
  rotate_left
  ·
   rintro ch w468 ⟨hPx, rfl, hgx⟩
   refine thenF_panic (thenF_panic (postP_panic ?_))
   exact .inr ⟨_, rfl, by rw [hD]; simp only [hPb1, hPb2, hPx, Option.bind_some, Option.bind_none], rfl, (row_fresh hE0 hgx lr)⟩
  rintro v_ w470 ⟨d3, i3, hPb3, rfl, hb466, hg467⟩
  have hE0 := row_fresh hE0 hg467 (Nat.le_trans (Nat.le_refl _) lr)
  have hb14 := kb hg467 hb14 (by omega)
  have hb82 := kb hg467 hb82 (by omega)
  clear hb
  have hb31 := kb hg467 hb31 (by omega)
  have hb := hb466; clear hb466
  have hle_i3 :=   (txtP_le hPb3).1
  have hl471 := bl hb
  refine oS rfl (Yk.fieldAt wr11_fo29_9 T2 (oS rfl (Yk.storeC (i := 40) (v := St (d3)) (vr (PQ n16 40) rfl) (vr (St (d3)) rfl) hb31 (by rw [msg_len]; decide) wr11_isz9 rfl rfl fun w472 hb473 hg474 hs475 => ?_)))
  have hE0 := row_fresh hE0 hg474 (Nat.le_trans (Nat.le_refl _) (by omega))
  have hb14 := kb hg474 hb14 (by omega)
  have hb82 := kb hg474 hb82 (by omega)
  clear hb31
  have hb := kb hg474 hb (by omega)
  have hb31 : w472.heap[n16]? = some (.cells (msgC ((⟨c1, ((c2 : Nat) : Int), [], [], [], ((d1 : Nat) : Int), 0, d2, [], d3, zid, zid, false, 0⟩, ⟨(Value.slice none 0 0), (Value.slice none 0 0), (Value.slice none 0 0), (Value.slice none 0 0)⟩) : MsgV)).toArray 29 (0, 0)) := blk_eq hb473 (msg_s9 ((⟨c1, ((c2 : Nat) : Int), [], [], [], ((d1 : Nat) : Int), 0, d2, [], [], zid, zid, false, 0⟩, ⟨(Value.slice none 0 0), (Value.slice none 0 0), (Value.slice none 0 0), (Value.slice none 0 0)⟩) : MsgV) d3); clear hb473
  have hl476 := bl hb31
  refine oZ (tN (hK465 _ _ (sk fun K477 hK477 => (wt (oS rfl (Yk.cell1 wr11_ty109 rfl T1 (cellAt hb14 (show _ = some (PQ r 0 : Value) from rfl)) (oP rfl (Yp.callA1 wr11_pl114 (vr (PQ r 0) rfl) ?_))))))))
  refine calls_either (idW_any _ r v b i3 hb (hr.keep hE0) hapr hle_i3 hl) ?_ ?_
  rotate_left
  ·
   rintro ch w480 ⟨hPx, rfl, hgx⟩
   refine thenF_panic (thenF_panic (postP_panic ?_))
   exact .inr ⟨_, rfl, by rw [hD]; simp only [hPb1, hPb2, hPb3, hPx, Option.bind_some, Option.bind_none], rfl, (row_fresh hE0 hgx lr)⟩
  rintro v_ w482 ⟨d4, i4, hPb4, rfl, hb478, hg479⟩
  have hE0 := row_fresh hE0 hg479 (Nat.le_trans (Nat.le_refl _) lr)
  have hb14 := kb hg479 hb14 (by omega)
  have hb82 := kb hg479 hb82 (by omega)
  clear hb
  have hb31 := kb hg479 hb31 (by omega)
  have hb := hb478; clear hb478
  have hle_i4 := idP_le hPb4
  have hl483 := bl hb
  refine oS rfl (Yk.fieldAt wr11_fo29_10 T2 (oS rfl (Yk.storeMid (a := msg_a10 ((⟨c1, ((c2 : Nat) : Int), [], [], [], ((d1 : Nat) : Int), 0, d2, [], d3, zid, zid, false, 0⟩, ⟨(Value.slice none 0 0), (Value.slice none 0 0), (Value.slice none 0 0), (Value.slice none 0 0)⟩) : MsgV)) (m := Lib.byteCells zid.1) (z := msg_z10 ((⟨c1, ((c2 : Nat) : Int), [], [], [], ((d1 : Nat) : Int), 0, d2, [], d3, zid, zid, false, 0⟩, ⟨(Value.slice none 0 0), (Value.slice none 0 0), (Value.slice none 0 0), (Value.slice none 0 0)⟩) : MsgV)) (cells := Lib.byteCells d4.1) (vr (PQ n16 41) rfl) (vr (AB d4.1) rfl) (msg_m10 ((⟨c1, ((c2 : Nat) : Int), [], [], [], ((d1 : Nat) : Int), 0, d2, [], d3, zid, zid, false, 0⟩, ⟨(Value.slice none 0 0), (Value.slice none 0 0), (Value.slice none 0 0), (Value.slice none 0 0)⟩) : MsgV) ▸ hb31) (msg_n10 ((⟨c1, ((c2 : Nat) : Int), [], [], [], ((d1 : Nat) : Int), 0, d2, [], d3, zid, zid, false, 0⟩, ⟨(Value.slice none 0 0), (Value.slice none 0 0), (Value.slice none 0 0), (Value.slice none 0 0)⟩) : MsgV)) (by rw [Lib.byteCells_length, Lib.byteCells_length, zid.2, d4.2]) (by rw [Lib.byteCells_length, d4.2]; exact wr11_isz25) (byteCells_one _) fun w484 hb485 hg486 hs487 => ?_)))
  have hE0 := row_fresh hE0 hg486 (Nat.le_trans (Nat.le_refl _) (by omega))
  have hb14 := kb hg486 hb14 (by omega)
  have hb82 := kb hg486 hb82 (by omega)
  clear hb31
  have hb := kb hg486 hb (by omega)
  have hb31 : w484.heap[n16]? = some (.cells (msgC ((⟨c1, ((c2 : Nat) : Int), [], [], [], ((d1 : Nat) : Int), 0, d2, [], d3, d4, zid, false, 0⟩, ⟨(Value.slice none 0 0), (Value.slice none 0 0), (Value.slice none 0 0), (Value.slice none 0 0)⟩) : MsgV)).toArray 29 (0, 0)) := blk_eq hb485 (msg_s10 ((⟨c1, ((c2 : Nat) : Int), [], [], [], ((d1 : Nat) : Int), 0, d2, [], d3, zid, zid, false, 0⟩, ⟨(Value.slice none 0 0), (Value.slice none 0 0), (Value.slice none 0 0), (Value.slice none 0 0)⟩) : MsgV) d4); clear hb485
  have hl488 := bl hb31
  refine oL_ [(0, PQ r 0), (1, PQ n2 0), (2, PQ n16 0), (3, PQ n79 0), (4, .bool (true)), (22, .bool (false)), (27, .bool (false)), (35, .bool (true)), (40, .bool (false)), (45, .bool (true)), (50, .bool (false)), (56, .bool (true))] ⟨T0, T1, T2, T3, T15, rfl, rfl, rfl, rfl, rfl, rfl, rfl, trivial⟩ fun ρ489 ⟨T0, T1, T2, T3, T4, T22, T27, T35, T40, T45, T50, T56, _⟩ => (tN (hK477 _ _ (sk fun K490 hK490 => (wt (oS rfl (Yk.cell1 wr11_ty109 rfl T1 (cellAt hb14 (show _ = some (PQ r 0 : Value) from rfl)) (oP rfl (Yp.callA1 wr11_pl114 (vr (PQ r 0) rfl) ?_))))))))
  refine calls_either (idW_any _ r v b i4 hb (hr.keep hE0) hapr hle_i4 hl) ?_ ?_
  rotate_left
  ·
   rintro ch w493 ⟨hPx, rfl, hgx⟩
   refine thenF_panic (thenF_panic (postP_panic ?_))
   exact .inr ⟨_, rfl, by rw [hD]; simp only [hPb1, hPb2, hPb3, hPb4, hPx, Option.bind_some, Option.bind_none], rfl, (row_fresh hE0 hgx lr)⟩
  rintro v_ w495 ⟨d5, i5, hPb5, rfl, hb491, hg492⟩
  have hE0 := row_fresh hE0 hg492 (Nat.le_trans (Nat.le_refl _) lr)
  have hb14 := kb hg492 hb14 (by omega)
  have hb82 := kb hg492 hb82 (by omega)
  clear hb
  have hb31 := kb hg492 hb31 (by omega)
  have hb := hb491; clear hb491
  have hle_i5 := idP_le hPb5
  have hl496 := bl hb
  refine oS rfl (Yk.fieldAt wr11_fo29_11 T2 (oS rfl (Yk.storeMid (a := msg_a11 ((⟨c1, ((c2 : Nat) : Int), [], [], [], ((d1 : Nat) : Int), 0, d2, [], d3, d4, zid, false, 0⟩, ⟨(Value.slice none 0 0), (Value.slice none 0 0), (Value.slice none 0 0), (Value.slice none 0 0)⟩) : MsgV)) (m := Lib.byteCells zid.1) (z := msg_z11 ((⟨c1, ((c2 : Nat) : Int), [], [], [], ((d1 : Nat) : Int), 0, d2, [], d3, d4, zid, false, 0⟩, ⟨(Value.slice none 0 0), (Value.slice none 0 0), (Value.slice none 0 0), (Value.slice none 0 0)⟩) : MsgV)) (cells := Lib.byteCells d5.1) (vr (PQ n16 73) rfl) (vr (AB d5.1) rfl) (msg_m11 ((⟨c1, ((c2 : Nat) : Int), [], [], [], ((d1 : Nat) : Int), 0, d2, [], d3, d4, zid, false, 0⟩, ⟨(Value.slice none 0 0), (Value.slice none 0 0), (Value.slice none 0 0), (Value.slice none 0 0)⟩) : MsgV) ▸ hb31) (msg_n11 ((⟨c1, ((c2 : Nat) : Int), [], [], [], ((d1 : Nat) : Int), 0, d2, [], d3, d4, zid, false, 0⟩, ⟨(Value.slice none 0 0), (Value.slice none 0 0), (Value.slice none 0 0), (Value.slice none 0 0)⟩) : MsgV)) (by rw [Lib.byteCells_length, Lib.byteCells_length, zid.2, d5.2]) (by rw [Lib.byteCells_length, d5.2]; exact wr11_isz25) (byteCells_one _) fun w497 hb498 hg499 hs500 => ?_)))
  have hE0 := row_fresh hE0 hg499 (Nat.le_trans (Nat.le_refl _) (by omega))
  have hb14 := kb hg499 hb14 (by omega)
  have hb82 := kb hg499 hb82 (by omega)
  clear hb31
  have hb := kb hg499 hb (by omega)
  have hb31 : w497.heap[n16]? = some (.cells (msgC ((⟨c1, ((c2 : Nat) : Int), [], [], [], ((d1 : Nat) : Int), 0, d2, [], d3, d4, d5, false, 0⟩, ⟨(Value.slice none 0 0), (Value.slice none 0 0), (Value.slice none 0 0), (Value.slice none 0 0)⟩) : MsgV)).toArray 29 (0, 0)) := blk_eq hb498 (msg_s11 ((⟨c1, ((c2 : Nat) : Int), [], [], [], ((d1 : Nat) : Int), 0, d2, [], d3, d4, zid, false, 0⟩, ⟨(Value.slice none 0 0), (Value.slice none 0 0), (Value.slice none 0 0), (Value.slice none 0 0)⟩) : MsgV) d5); clear hb498
  have hl501 := bl hb31
  refine oZ (tN (hK490 _ _ (sk fun K502 hK502 => (wt (oS rfl (Yk.cell1 wr11_ty109 rfl T1 (cellAt hb14 (show _ = some (PQ r 0 : Value) from rfl)) (oP rfl (Yp.callA1 wr11_pl108 (vr (PQ r 0) rfl) ?_))))))))
  refine calls_either (byte_any _ r v b i5 hb (hr.keep hE0) hapr hle_i5 hl) ?_ ?_
  rotate_left
  ·
   rintro ch w505 ⟨hPx, rfl, hgx⟩
   refine thenF_panic (thenF_panic (postP_panic ?_))
   exact .inr ⟨_, rfl, by rw [hD]; simp only [hPb1, hPb2, hPb3, hPb4, hPb5, hPx, Option.bind_some, Option.bind_none], rfl, (row_fresh hE0 hgx lr)⟩
  rintro v_ w507 ⟨d6, i6, hPb6, rfl, hb503, hg504⟩
  have hE0 := row_fresh hE0 hg504 (Nat.le_trans (Nat.le_refl _) lr)
  have hb14 := kb hg504 hb14 (by omega)
  have hb82 := kb hg504 hb82 (by omega)
  clear hb
  have hb31 := kb hg504 hb31 (by omega)
  have hb := hb503; clear hb503
  have hle_i6 := byteP_le hPb6
  have hl508 := bl hb
  refine oA rfl (oZ (tN (hK502 _ _ (sk fun K509 hK509 => (wt (oM rfl (oS rfl (Yk.eqI (a := ((d6).toNat : Nat)) (b := (1 : Nat)) rfl rfl (k_leq _ _ _ _) (oP rfl (Yp.callA1 wr11_pl109 (vr (.bool (decide (((d6).toNat) ≤ (1)))) rfl) ?_))))))))))
  refine calls_either (needW_any _ (decide (((d6).toNat) ≤ (1)))) ?_ ?_
  rotate_left
  ·
   rintro ch w512 ⟨rfl, hb, hx⟩
   refine thenF_panic (thenF_panic (postP_panic ?_))
   have hno := of_decide_eq_false hb
   exact .inr ⟨_, rfl, by rw [hD]; simp only [hPb1, hPb2, hPb3, hPb4, hPb5, hPb6, Option.bind_some]; rw [if_neg hno]; rfl, rfl, hE0.trans hx⟩
  rintro v_ w514 ⟨rfl, hb510, hx511⟩
  have hE0 := hE0.trans hx511
  have hb14 := eb hx511 hb14
  have hb82 := eb hx511 hb82
  have hb31 := eb hx511 hb31
  have hb := eb hx511 hb
  have hn515 := of_decide_eq_true hb510
  refine oZ (tN (hK509 _ _ (wt (oM rfl (oS rfl (Yk.eqI (a := ((d6).toNat : Nat)) (b := (1 : Nat)) rfl rfl (k_eql _ _ _ _) (oS rfl (Yk.fieldAt wr11_fo29_12 T2 (oS rfl (Yk.storeC (i := 105) (v := .bool (decide (((d6).toNat : Nat) = (1)))) (vr (PQ n16 105) rfl) (vr (.bool (decide (((d6).toNat : Nat) = (1)))) rfl) hb31 (by rw [msg_len]; decide) wr11_isz4 rfl rfl fun w516 hb517 hg518 hs519 => ?_))))))))))
  have hE0 := row_fresh hE0 hg518 (Nat.le_trans (Nat.le_refl _) (by omega))
  have hb14 := kb hg518 hb14 (by omega)
  have hb82 := kb hg518 hb82 (by omega)
  clear hb31
  have hb := kb hg518 hb (by omega)
  have hb31 : w516.heap[n16]? = some (.cells (msgC ((⟨c1, ((c2 : Nat) : Int), [], [], [], ((d1 : Nat) : Int), 0, d2, [], d3, d4, d5, (decide (((d6).toNat : Nat) = (1))), 0⟩, ⟨(Value.slice none 0 0), (Value.slice none 0 0), (Value.slice none 0 0), (Value.slice none 0 0)⟩) : MsgV)).toArray 29 (0, 0)) := blk_eq hb517 (msg_s12 ((⟨c1, ((c2 : Nat) : Int), [], [], [], ((d1 : Nat) : Int), 0, d2, [], d3, d4, d5, false, 0⟩, ⟨(Value.slice none 0 0), (Value.slice none 0 0), (Value.slice none 0 0), (Value.slice none 0 0)⟩) : MsgV) (decide (((d6).toNat : Nat) = (1)))); clear hb517
  have hl520 := bl hb31
  refine oZ (tN (hK463 _ _ (sk fun K521 hK521 => (sk fun K522 hK522 => (wt (oS rfl (Yk.fieldAt wr11_fo92_7 T3 (oS rfl (Yk.cell1 wr11_ty4 rfl (vr (PQ n79 7) rfl) (cellAt hb82 (show (partsC (⟨false, false, true, false, true, false, true, false⟩ : Parts))[7]? = some (.bool (false) : Value) from parts_g7 (⟨false, false, true, false, true, false, true, false⟩ : Parts))) (oZ ?_))))))))))
  have hMl : MsgLt (((⟨c1, ((c2 : Nat) : Int), [], [], [], ((d1 : Nat) : Int), 0, d2, [], d3, d4, d5, (decide (((d6).toNat : Nat) = (1))), 0⟩, ⟨(Value.slice none 0 0), (Value.slice none 0 0), (Value.slice none 0 0), (Value.slice none 0 0)⟩) : MsgV) : MsgV).1 := ⟨by simp, fun u hu => (by cases hu), by simp, by simp, by have := (txtP_le hPb3).2; simp only; omega⟩
  by_cases hj : i6 = b.length
  ·refine tN (hK522 _ _ (wpF_false (vr (.bool (false)) rfl) (wpF_skip (tN (hK521 _ _ (sk fun K523 hK523 => ?_))))))
   refine wpF_draw_endE 14 _ [Is (PQ r 0), Is (PQ r 0), Is (PQ r 1), Is (NI i6), Is (PQ r 0), Is (PQ r 0), Is (PQ r 0), Is (v), Is (NI b.length), Is (.bool (true)), Is (.bool (true)), Is (.agg (msgC ((⟨c1, ((c2 : Nat) : Int), [], [], [], ((d1 : Nat) : Int), 0, d2, [], d3, d4, d5, (decide (((d6).toNat : Nat) = (1))), 0⟩, ⟨(Value.slice none 0 0), (Value.slice none 0 0), (Value.slice none 0 0), (Value.slice none 0 0)⟩) : MsgV)).toArray), Is (.bool (rightB (((⟨c1, ((c2 : Nat) : Int), [], [], [], ((d1 : Nat) : Int), 0, d2, [], d3, d4, d5, (decide (((d6).toNat : Nat) = (1))), 0⟩, ⟨(Value.slice none 0 0), (Value.slice none 0 0), (Value.slice none 0 0), (Value.slice none 0 0)⟩) : MsgV) : MsgV).1)), Is (.bool (rightB (((⟨c1, ((c2 : Nat) : Int), [], [], [], ((d1 : Nat) : Int), 0, d2, [], d3, d4, d5, (decide (((d6).toNat : Nat) = (1))), 0⟩, ⟨(Value.slice none 0 0), (Value.slice none 0 0), (Value.slice none 0 0), (Value.slice none 0 0)⟩) : MsgV) : MsgV).1))] (by kernel_rfl) [79, 80, 81, 82, 83, 84, 85, 86, 87, 88, 89, 90, 91, 92, 93] (by kernel_rfl) (by kernel_rfl) (by kernel_rfl) rfl rfl rfl (fun _ _ => trivial) (si2 (si12 trivial)) ?hs15027 ?hQ15027
   case hs15027 =>
    refine ⟨?_, ?_, ?_, ?_, ?_, ?_, ?_, ?_, ?_, ?_, ?_, ?_, ?_, ?_, ?_, trivial⟩
    ·refine stepFL (stepN rfl fun σ w1 hC h => ?_)
     have e1 := (eqo (h 1 (by decide))).trans T1
     exact Yk.cell1 wr11_ty109 rfl e1 (cellAt (eb hC hb14) (show _ = some (PQ r 0 : Value) from rfl)) ⟨Ext.refl _, rfl⟩
    ·refine stepFL (stepN rfl fun σ w1 hC h => ?_)
     have e79 := eqo (h 79 (by decide))
     exact Yk.nilCheck e79 ⟨Ext.refl _, rfl⟩
    ·refine stepFL (stepN rfl fun σ w1 hC h => ?_)
     have e80 := eqo (h 80 (by decide))
     exact Yk.fieldAt wr11_fo111_1 e80 ⟨Ext.refl _, rfl⟩
    ·refine stepFL (stepN rfl fun σ w1 hC h => ?_)
     have e81 := eqo (h 81 (by decide))
     exact Yk.cell1 wr11_ty3 rfl e81 (cellAt (eb hC hb) (show (rdC (rdX v b (i6)))[1]? = some (NI i6 : Value) from rd_g1 (rdX v b (i6)))) ⟨Ext.refl _, rfl⟩
    ·refine stepFL (stepN rfl fun σ w1 hC h => ?_)
     have e1 := (eqo (h 1 (by decide))).trans T1
     exact Yk.cell1 wr11_ty109 rfl e1 (cellAt (eb hC hb14) (show _ = some (PQ r 0 : Value) from rfl)) ⟨Ext.refl _, rfl⟩
    ·refine stepFL (stepN rfl fun σ w1 hC h => ?_)
     have e83 := eqo (h 83 (by decide))
     exact Yk.nilCheck e83 ⟨Ext.refl _, rfl⟩
    ·refine stepFL (stepN rfl fun σ w1 hC h => ?_)
     have e84 := eqo (h 84 (by decide))
     exact Yk.fieldAt wr11_fo111_0 e84 ⟨Ext.refl _, rfl⟩
    ·refine stepFL (stepN rfl fun σ w1 hC h => ?_)
     have e85 := eqo (h 85 (by decide))
     exact Yk.cell1 wr11_ty26 rfl e85 (cellAt (eb hC hb) (show (rdC (rdX v b (i6)))[0]? = some (v : Value) from rd_g0 (rdX v b (i6)))) ⟨Ext.refl _, rfl⟩
    ·refine stepFL (stepN rfl fun σ w1 hC h => ?_)
     have e86 := eqo (h 86 (by decide))
     exact Yk.lenRB wr11_ty26 (RB.of (hr.keep (hE0.trans hC)) e86) ⟨Ext.refl _, rfl⟩
    ·refine stepFL (stepN rfl fun σ w1 hC h => ?_)
     have e82 := eqo (h 82 (by decide))
     have e87 := eqo (h 87 (by decide))
     exact Yk.eqI (a := (i6 : Nat)) (b := (b.length : Nat)) e82 e87 (k_eql _ _ _ _) ⟨Ext.refl _, (congrArg Value.bool (decide_eq_true (hj)))⟩
    ·refine stepFL (stepN rfl fun σ w1 hC h => ?_)
     have e88 := eqo (h 88 (by decide))
     exact Yk.move e88 ⟨Ext.refl _, rfl⟩
    ·refine stepFL (stepY 10 true 89 rfl rfl (fun _ _ h => h) fun σ w1 hC h => ?_)
     have e2 := (eqo (h 2 (by decide))).trans T2
     exact Yk.loadAll e2 (eb hC hb31) (wr11_ty29).choose_spec rfl (st_isz (msg_len ((⟨c1, ((c2 : Nat) : Int), [], [], [], ((d1 : Nat) : Int), 0, d2, [], d3, d4, d5, (decide (((d6).toNat : Nat) = (1))), 0⟩, ⟨(Value.slice none 0 0), (Value.slice none 0 0), (Value.slice none 0 0), (Value.slice none 0 0)⟩) : MsgV)) wr11_isz29) ⟨Ext.refl _, rfl⟩
    ·refine stepFL (stepY 10 true 89 rfl rfl (fun _ _ h => h) fun σ w1 hC h => ?_)
     have e90 := eqo (h 90 (by decide))
     refine Yk.callA1 wr11_pl19 e90 ((right_any _ ((⟨c1, ((c2 : Nat) : Int), [], [], [], ((d1 : Nat) : Int), 0, d2, [], d3, d4, d5, (decide (((d6).toNat : Nat) = (1))), 0⟩, ⟨(Value.slice none 0 0), (Value.slice none 0 0), (Value.slice none 0 0), (Value.slice none 0 0)⟩) : MsgV) (MsgAt.mk (RG.nil _ _ _) (RG.nil _ _ _) (RG.nil _ _ _) (RB.nil _)) hMl).mono ?_)
     rintro e w2 ⟨rfl, hx⟩
     exact ⟨_, rfl, hx, rfl⟩
    ·refine stepFL (stepN rfl fun σ w1 hC h => ?_)
     have e89 := eqo (h 89 (by decide))
     have e91 := eqo (h 91 (by decide))
     exact Yk.pickT e89 e91 ⟨Ext.refl _, rfl⟩
    ·exact trivial
   intro ρ524 w525 hx526 he hf
   obtain ⟨-, -, -, -, -, -, -, -, -, -, -, -, -, k92, -⟩ := hf
   obtain ⟨T0, T1, T2, T3, T4, T5, T22, T27, T35, T40, T45, T50, T56, T75, -⟩ := he.hold [(0, _), (1, _), (2, _), (3, _), (4, _), (5, B8 (d6)), (22, _), (27, _), (35, _), (40, _), (45, _), (50, _), (56, _), (75, .bool (false))] ⟨T0, T1, T2, T3, T4, rfl, T22, T27, T35, T40, T45, T50, T56, rfl, trivial⟩ rfl
   clear he
   have hE0 := hE0.trans hx526
   have hb14 := eb hx526 hb14
   have hb82 := eb hx526 hb82
   have hb := eb hx526 hb
   have hb31 := eb hx526 hb31
   have T92 : ρ524 92 = .bool (rightB (((⟨c1, ((c2 : Nat) : Int), [], [], [], ((d1 : Nat) : Int), 0, d2, [], d3, d4, d5, (decide (((d6).toNat : Nat) = (1))), 0⟩, ⟨(Value.slice none 0 0), (Value.slice none 0 0), (Value.slice none 0 0), (Value.slice none 0 0)⟩) : MsgV) : MsgV).1) := k92
   clear k92
   refine Yp.callA1 wr11_pl109 T92 ?_
   refine calls_either (needW_any _ (rightB (((⟨c1, ((c2 : Nat) : Int), [], [], [], ((d1 : Nat) : Int), 0, d2, [], d3, d4, d5, (decide (((d6).toNat : Nat) = (1))), 0⟩, ⟨(Value.slice none 0 0), (Value.slice none 0 0), (Value.slice none 0 0), (Value.slice none 0 0)⟩) : MsgV) : MsgV).1)) ?_ ?_
   rotate_left
   ·
    rintro ch w529 ⟨rfl, hb, hx⟩
    refine thenF_panic (postP_panic ?_)
    exact .inr ⟨_, rfl, by rw [hD]; simp only [hPb1, hPb2, hPb3, hPb4, hPb5, hPb6, if_pos hn515, Option.bind_some]; refine if_neg ?_; rintro ⟨h1, h2⟩; exact Bool.noConfusion (h2.symm.trans hb), rfl, hE0.trans hx⟩
   rintro v_ w530 ⟨rfl, hb527, hx528⟩
   have hE0 := hE0.trans hx528
   have hb14 := eb hx528 hb14
   have hb82 := eb hx528 hb82
   have hb := eb hx528 hb
   have hb31 := eb hx528 hb31
   intro ρ531 hu532
   have T0 : ρ531 0 = (PQ r 0 : Value) := (hu532 0 (by decide)).trans T0
   have T1 : ρ531 1 = (PQ n2 0 : Value) := (hu532 1 (by decide)).trans T1
   have T2 : ρ531 2 = (PQ n16 0 : Value) := (hu532 2 (by decide)).trans T2
   have T3 : ρ531 3 = (PQ n79 0 : Value) := (hu532 3 (by decide)).trans T3
   have T4 : ρ531 4 = (.bool (true) : Value) := (hu532 4 (by decide)).trans T4
   have T5 : ρ531 5 = (B8 (d6) : Value) := (hu532 5 (by decide)).trans T5
   have T22 : ρ531 22 = (.bool (false) : Value) := (hu532 22 (by decide)).trans T22
   have T27 : ρ531 27 = (.bool (false) : Value) := (hu532 27 (by decide)).trans T27
   have T35 : ρ531 35 = (.bool (true) : Value) := (hu532 35 (by decide)).trans T35
   have T40 : ρ531 40 = (.bool (false) : Value) := (hu532 40 (by decide)).trans T40
   have T45 : ρ531 45 = (.bool (true) : Value) := (hu532 45 (by decide)).trans T45
   have T50 : ρ531 50 = (.bool (false) : Value) := (hu532 50 (by decide)).trans T50
   have T56 : ρ531 56 = (.bool (true) : Value) := (hu532 56 (by decide)).trans T56
   have T75 : ρ531 75 = (.bool (false) : Value) := (hu532 75 (by decide)).trans T75
   refine tN (hK523 _ _ (sk fun K533 hK533 => (wt (oS rfl (Yk.loadAll T2 hb31 (wr11_ty29).choose_spec rfl (st_isz (msg_len ((⟨c1, ((c2 : Nat) : Int), [], [], [], ((d1 : Nat) : Int), 0, d2, [], d3, d4, d5, (decide (((d6).toNat : Nat) = (1))), 0⟩, ⟨(Value.slice none 0 0), (Value.slice none 0 0), (Value.slice none 0 0), (Value.slice none 0 0)⟩) : MsgV)) wr11_isz29) (oS rfl (Yk.storeAll T2 (vr (.agg (msgC ((⟨c1, ((c2 : Nat) : Int), [], [], [], ((d1 : Nat) : Int), 0, d2, [], d3, d4, d5, (decide (((d6).toNat : Nat) = (1))), 0⟩, ⟨(Value.slice none 0 0), (Value.slice none 0 0), (Value.slice none 0 0), (Value.slice none 0 0)⟩) : MsgV)).toArray) rfl) hb31 (by simp only [List.size_toArray, msg_len]) (st_isz (msg_len _) wr11_isz29) (msg_one (x := ((⟨c1, ((c2 : Nat) : Int), [], [], [], ((d1 : Nat) : Int), 0, d2, [], d3, d4, d5, (decide (((d6).toNat : Nat) = (1))), 0⟩, ⟨(Value.slice none 0 0), (Value.slice none 0 0), (Value.slice none 0 0), (Value.slice none 0 0)⟩) : MsgV)) rfl rfl rfl rfl) fun w534 hb535 hg536 hs537 => ?_)))))))
   have hE0 := row_fresh hE0 hg536 (Nat.le_trans (Nat.le_refl _) (by omega))
   have hb14 := kb hg536 hb14 (by omega)
   have hb82 := kb hg536 hb82 (by omega)
   have hb := kb hg536 hb (by omega)
   clear hb31
   have hb31 : w534.heap[n16]? = some (.cells (msgC ((⟨c1, ((c2 : Nat) : Int), [], [], [], ((d1 : Nat) : Int), 0, d2, [], d3, d4, d5, (decide (((d6).toNat : Nat) = (1))), 0⟩, ⟨(Value.slice none 0 0), (Value.slice none 0 0), (Value.slice none 0 0), (Value.slice none 0 0)⟩) : MsgV)).toArray 29 (0, 0)) := hb535; clear hb535
   have hl538 := bl hb31
   refine oZ (tN (hK533 _ _ (wpF_ret (postP_ret (fn := Tryd.f67) _ rfl [.agg (msgC ((⟨c1, ((c2 : Nat) : Int), [], [], [], ((d1 : Nat) : Int), 0, d2, [], d3, d4, d5, (decide (((d6).toNat : Nat) = (1))), 0⟩, ⟨(Value.slice none 0 0), (Value.slice none 0 0), (Value.slice none 0 0), (Value.slice none 0 0)⟩) : MsgV)).toArray] (.agg (msgC ((⟨c1, ((c2 : Nat) : Int), [], [], [], ((d1 : Nat) : Int), 0, d2, [], d3, d4, d5, (decide (((d6).toNat : Nat) = (1))), 0⟩, ⟨(Value.slice none 0 0), (Value.slice none 0 0), (Value.slice none 0 0), (Value.slice none 0 0)⟩) : MsgV)).toArray) rfl ⟨ResF.row T2 hb31 (wr11_ty29).choose_spec rfl (st_isz (msg_len _) wr11_isz29), trivial⟩ ?_))))
   exact .inl ⟨_, rfl, ((⟨c1, ((c2 : Nat) : Int), [], [], [], ((d1 : Nat) : Int), 0, d2, [], d3, d4, d5, (decide (((d6).toNat : Nat) = (1))), 0⟩, ⟨(Value.slice none 0 0), (Value.slice none 0 0), (Value.slice none 0 0), (Value.slice none 0 0)⟩) : MsgV), by rw [hD]; simp only [hPb1, hPb2, hPb3, hPb4, hPb5, hPb6, if_pos hn515, Option.bind_some]; refine if_pos ?_; exact ⟨hj, hb527⟩, rfl, (MsgAt.mk (RG.nil _ _ _) (RG.nil _ _ _) (RG.nil _ _ _) (RB.nil _)), ⟨(fun k h => by cases h), (fun k h => by cases h), (fun k h => by cases h), (fun k h => by cases h)⟩, hE0⟩
  refine tN (hK522 _ _ (wpF_false (vr (.bool (false)) rfl) (wpF_skip (tN (hK521 _ _ (sk fun K539 hK539 => ?_))))))
  refine wpF_draw_endE 14 _ [Is (PQ r 0), Is (PQ r 0), Is (PQ r 1), Is (NI i6), Is (PQ r 0), Is (PQ r 0), Is (PQ r 0), Is (v), Is (NI b.length), Is (.bool (false)), Is (.bool (false)), Is undef, Is undef, Is (.bool (false))] (by kernel_rfl) [79, 80, 81, 82, 83, 84, 85, 86, 87, 88, 89, 90, 91, 92, 93] (by kernel_rfl) (by kernel_rfl) (by kernel_rfl) rfl rfl rfl (fun _ _ => trivial) (si2 (si12 trivial)) ?hs16027 ?hQ16027
  case hs16027 =>
   refine ⟨?_, ?_, ?_, ?_, ?_, ?_, ?_, ?_, ?_, ?_, ?_, ?_, ?_, ?_, ?_, trivial⟩
   ·refine stepFL (stepN rfl fun σ w1 hC h => ?_)
    have e1 := (eqo (h 1 (by decide))).trans T1
    exact Yk.cell1 wr11_ty109 rfl e1 (cellAt (eb hC hb14) (show _ = some (PQ r 0 : Value) from rfl)) ⟨Ext.refl _, rfl⟩
   ·refine stepFL (stepN rfl fun σ w1 hC h => ?_)
    have e79 := eqo (h 79 (by decide))
    exact Yk.nilCheck e79 ⟨Ext.refl _, rfl⟩
   ·refine stepFL (stepN rfl fun σ w1 hC h => ?_)
    have e80 := eqo (h 80 (by decide))
    exact Yk.fieldAt wr11_fo111_1 e80 ⟨Ext.refl _, rfl⟩
   ·refine stepFL (stepN rfl fun σ w1 hC h => ?_)
    have e81 := eqo (h 81 (by decide))
    exact Yk.cell1 wr11_ty3 rfl e81 (cellAt (eb hC hb) (show (rdC (rdX v b (i6)))[1]? = some (NI i6 : Value) from rd_g1 (rdX v b (i6)))) ⟨Ext.refl _, rfl⟩
   ·refine stepFL (stepN rfl fun σ w1 hC h => ?_)
    have e1 := (eqo (h 1 (by decide))).trans T1
    exact Yk.cell1 wr11_ty109 rfl e1 (cellAt (eb hC hb14) (show _ = some (PQ r 0 : Value) from rfl)) ⟨Ext.refl _, rfl⟩
   ·refine stepFL (stepN rfl fun σ w1 hC h => ?_)
    have e83 := eqo (h 83 (by decide))
    exact Yk.nilCheck e83 ⟨Ext.refl _, rfl⟩
   ·refine stepFL (stepN rfl fun σ w1 hC h => ?_)
    have e84 := eqo (h 84 (by decide))
    exact Yk.fieldAt wr11_fo111_0 e84 ⟨Ext.refl _, rfl⟩
   ·refine stepFL (stepN rfl fun σ w1 hC h => ?_)
    have e85 := eqo (h 85 (by decide))
    exact Yk.cell1 wr11_ty26 rfl e85 (cellAt (eb hC hb) (show (rdC (rdX v b (i6)))[0]? = some (v : Value) from rd_g0 (rdX v b (i6)))) ⟨Ext.refl _, rfl⟩
   ·refine stepFL (stepN rfl fun σ w1 hC h => ?_)
    have e86 := eqo (h 86 (by decide))
    exact Yk.lenRB wr11_ty26 (RB.of (hr.keep (hE0.trans hC)) e86) ⟨Ext.refl _, rfl⟩
   ·refine stepFL (stepN rfl fun σ w1 hC h => ?_)
    have e82 := eqo (h 82 (by decide))
    have e87 := eqo (h 87 (by decide))
    exact Yk.eqI (a := (i6 : Nat)) (b := (b.length : Nat)) e82 e87 (k_eql _ _ _ _) ⟨Ext.refl _, (congrArg Value.bool (decide_eq_false (hj)))⟩
   ·refine stepFL (stepN rfl fun σ w1 hC h => ?_)
    have e88 := eqo (h 88 (by decide))
    exact Yk.move e88 ⟨Ext.refl _, rfl⟩
   ·refine stepFL (stepX 10 true 89 rfl rfl (fun x _ (h : x = .bool false) => by rw [h]; intro h; cases h) fun _ => rfl)
   ·refine stepFL (stepX 10 true 89 rfl rfl (fun x _ (h : x = .bool false) => by rw [h]; intro h; cases h) fun _ => rfl)
   ·refine stepFL (stepN rfl fun σ w1 hC h => ?_)
    have e89 := eqo (h 89 (by decide))
    exact Yk.pickF e89 (vr (.bool (false)) rfl) ⟨Ext.refl _, rfl⟩
   ·exact trivial
  intro ρ540 w541 hx542 he hf
  obtain ⟨-, -, -, -, -, -, -, -, -, -, -, -, -, k92, -⟩ := hf
  obtain ⟨T0, T1, T2, T3, T4, T5, T22, T27, T35, T40, T45, T50, T56, T75, -⟩ := he.hold [(0, _), (1, _), (2, _), (3, _), (4, _), (5, B8 (d6)), (22, _), (27, _), (35, _), (40, _), (45, _), (50, _), (56, _), (75, .bool (false))] ⟨T0, T1, T2, T3, T4, rfl, T22, T27, T35, T40, T45, T50, T56, rfl, trivial⟩ rfl
  clear he
  have hE0 := hE0.trans hx542
  have hb14 := eb hx542 hb14
  have hb82 := eb hx542 hb82
  have hb := eb hx542 hb
  have hb31 := eb hx542 hb31
  have T92 : ρ540 92 = .bool (false) := k92
  clear k92
  refine Yp.callA1 wr11_pl109 T92 ?_
  refine calls_either (needW_any _ (false)) ?_ ?_
  rotate_left
  ·
   rintro ch w545 ⟨rfl, hb, hx⟩
   refine thenF_panic (postP_panic ?_)
   exact .inr ⟨_, rfl, by rw [hD]; simp only [hPb1, hPb2, hPb3, hPb4, hPb5, hPb6, if_pos hn515, Option.bind_some]; refine if_neg ?_; rintro ⟨h1, h2⟩; exact hj h1, rfl, hE0.trans hx⟩
  rintro v_ w546 ⟨rfl, hb543, hx544⟩
  cases hb543
 have hD := decP_eq hP1 hK hP2
 rw [restP8 (m := (⟨c1, ((c2 : Nat) : Int), [], [], [], 0, 0, zid, [], [], zid, zid, false, 0⟩ : Msg)) hk] at hD
 refine tN (hK91 _ _ (sk fun K547 hK547 => (sk fun K548 hK548 => (wt (oS rfl (Yk.fieldAt wr11_fo92_0 T3 (oS rfl (Yk.cell1 wr11_ty4 rfl (vr (PQ n79 0) rfl) (cellAt hb82 (show (partsC (⟨false, false, false, false, false, false, false, true⟩ : Parts))[0]? = some (.bool (false) : Value) from parts_g0 (⟨false, false, false, false, false, false, false, true⟩ : Parts))) (oZ (tN (hK548 _ _ (wpF_false (vr (.bool (false)) rfl) (wpF_skip (tN (hK547 _ _ (sk fun K549 hK549 => (sk fun K550 hK550 => (wt (oS rfl (Yk.fieldAt wr11_fo92_1 T3 (oS rfl (Yk.cell1 wr11_ty4 rfl (vr (PQ n79 1) rfl) (cellAt hb82 (show (partsC (⟨false, false, false, false, false, false, false, true⟩ : Parts))[1]? = some (.bool (false) : Value) from parts_g1 (⟨false, false, false, false, false, false, false, true⟩ : Parts))) ?_))))))))))))))))))))))
 refine oZ (tN (hK550 _ _ (wpF_false (vr (.bool (false)) rfl) (wpF_skip (tN (hK549 _ _ (sk fun K551 hK551 => (sk fun K552 hK552 => (wt (oS rfl (Yk.fieldAt wr11_fo92_2 T3 (oS rfl (Yk.cell1 wr11_ty4 rfl (vr (PQ n79 2) rfl) (cellAt hb82 (show (partsC (⟨false, false, false, false, false, false, false, true⟩ : Parts))[2]? = some (.bool (false) : Value) from parts_g2 (⟨false, false, false, false, false, false, false, true⟩ : Parts))) (oZ (tN (hK552 _ _ (wpF_false (vr (.bool (false)) rfl) (wpF_skip (tN (hK551 _ _ (sk fun K553 hK553 => ?_)))))))))))))))))))))
 refine sk fun K554 hK554 => (wt (oS rfl (Yk.fieldAt wr11_fo92_3 T3 (oS rfl (Yk.cell1 wr11_ty4 rfl (vr (PQ n79 3) rfl) (cellAt hb82 (show (partsC (⟨false, false, false, false, false, false, false, true⟩ : Parts))[3]? = some (.bool (false) : Value) from parts_g3 (⟨false, false, false, false, false, false, false, true⟩ : Parts))) (oZ (tN (hK554 _ _ (wpF_false (vr (.bool (false)) rfl) (wpF_skip (tN (hK553 _ _ (sk fun K555 hK555 => (sk fun K556 hK556 => (wt (oS rfl (Yk.fieldAt wr11_fo92_4 T3 (oS rfl (Yk.cell1 wr11_ty4 rfl (vr (PQ n79 4) rfl) (cellAt hb82 (show (partsC (⟨false, false, false, false, false, false, false, true⟩ : Parts))[4]? = some (.bool (false) : Value) from parts_g4 (⟨false, false, false, false, false, false, false, true⟩ : Parts))) (oZ (tN (hK556 _ _ ?_))))))))))))))))))))))
 refine wpF_false (vr (.bool (false)) rfl) (wpF_skip (tN (hK555 _ _ (sk fun K557 hK557 => (sk fun K558 hK558 => (wt (oS rfl (Yk.fieldAt wr11_fo92_5 T3 (oS rfl (Yk.cell1 wr11_ty4 rfl (vr (PQ n79 5) rfl) (cellAt hb82 (show (partsC (⟨false, false, false, false, false, false, false, true⟩ : Parts))[5]? = some (.bool (false) : Value) from parts_g5 (⟨false, false, false, false, false, false, false, true⟩ : Parts))) (oZ (tN (hK558 _ _ (wpF_false (vr (.bool (false)) rfl) (wpF_skip (tN (hK557 _ _ (sk fun K559 hK559 => (sk fun K560 hK560 => (wt ?_))))))))))))))))))))
 refine oS rfl (Yk.fieldAt wr11_fo92_6 T3 (oS rfl (Yk.cell1 wr11_ty4 rfl (vr (PQ n79 6) rfl) (cellAt hb82 (show (partsC (⟨false, false, false, false, false, false, false, true⟩ : Parts))[6]? = some (.bool (false) : Value) from parts_g6 (⟨false, false, false, false, false, false, false, true⟩ : Parts))) (oZ (tN (hK560 _ _ (wpF_false (vr (.bool (false)) rfl) (wpF_skip (tN (hK559 _ _ (sk fun K561 hK561 => (sk fun K562 hK562 => (wt (oS rfl (Yk.fieldAt wr11_fo92_7 T3 (oS rfl (Yk.cell1 wr11_ty4 rfl (vr (PQ n79 7) rfl) (cellAt hb82 (show (partsC (⟨false, false, false, false, false, false, false, true⟩ : Parts))[7]? = some (.bool (true) : Value) from parts_g7 (⟨false, false, false, false, false, false, false, true⟩ : Parts))) (oZ (tN (hK562 _ _ (wpF_true (vr (.bool (true)) rfl) (wt ?_))))))))))))))))))))))
 refine oS rfl (Yk.cell1 wr11_ty109 rfl T1 (cellAt hb14 (show _ = some (PQ r 0 : Value) from rfl)) (oP rfl (Yp.callA1 wr11_pl110 (vr (PQ r 0) rfl) ?_)))
 refine calls_either (numberW_any _ r v b j2 hb (hr.keep hE0) hapr hle_j2 hl) ?_ ?_
 rotate_left
 ·
  rintro ch w565 ⟨hPx, rfl, hgx⟩
  refine thenF_panic (postP_panic ?_)
  exact .inr ⟨_, rfl, by rw [hD]; simp only [hPx, Option.bind_some, Option.bind_none], rfl, (row_fresh hE0 hgx lr)⟩
 rintro v_ w567 ⟨d1, i1, hPb1, rfl, hb563, hg564⟩
 have hE0 := row_fresh hE0 hg564 (Nat.le_trans (Nat.le_refl _) lr)
 have hb14 := kb hg564 hb14 (by omega)
 have hb82 := kb hg564 hb82 (by omega)
 clear hb
 have hb31 := kb hg564 hb31 (by omega)
 have hb := hb563; clear hb563
 have hle_i1 := numP_le hle_j2 hPb1
 have hl568 := bl hb
 refine oS rfl (Yk.fieldAt wr11_fo29_13 T2 (oS rfl (Yk.storeC (i := 106) (v := NI d1) (vr (PQ n16 106) rfl) (vr (NI d1) rfl) hb31 (by rw [msg_len]; decide) wr11_isz27 rfl rfl fun w569 hb570 hg571 hs572 => ?_)))
 have hE0 := row_fresh hE0 hg571 (Nat.le_trans (Nat.le_refl _) (by omega))
 have hb14 := kb hg571 hb14 (by omega)
 have hb82 := kb hg571 hb82 (by omega)
 clear hb31
 have hb := kb hg571 hb (by omega)
 have hb31 : w569.heap[n16]? = some (.cells (msgC ((⟨c1, ((c2 : Nat) : Int), [], [], [], 0, 0, zid, [], [], zid, zid, false, ((d1 : Nat) : Int)⟩, ⟨(Value.slice none 0 0), (Value.slice none 0 0), (Value.slice none 0 0), (Value.slice none 0 0)⟩) : MsgV)).toArray 29 (0, 0)) := blk_eq hb570 (msg_s13 ((⟨c1, ((c2 : Nat) : Int), [], [], [], 0, 0, zid, [], [], zid, zid, false, 0⟩, ⟨(Value.slice none 0 0), (Value.slice none 0 0), (Value.slice none 0 0), (Value.slice none 0 0)⟩) : MsgV) ((d1 : Nat) : Int)); clear hb570
 have hl573 := bl hb31
 refine oZ ?_
 have hMl : MsgLt (((⟨c1, ((c2 : Nat) : Int), [], [], [], 0, 0, zid, [], [], zid, zid, false, ((d1 : Nat) : Int)⟩, ⟨(Value.slice none 0 0), (Value.slice none 0 0), (Value.slice none 0 0), (Value.slice none 0 0)⟩) : MsgV) : MsgV).1 := ⟨by simp, fun u hu => (by cases hu), by simp, by simp, by simp⟩
 by_cases hj : i1 = b.length
 ·refine tN (hK561 _ _ (sk fun K574 hK574 => ?_))
  refine wpF_draw_endE 14 _ [Is (PQ r 0), Is (PQ r 0), Is (PQ r 1), Is (NI i1), Is (PQ r 0), Is (PQ r 0), Is (PQ r 0), Is (v), Is (NI b.length), Is (.bool (true)), Is (.bool (true)), Is (.agg (msgC ((⟨c1, ((c2 : Nat) : Int), [], [], [], 0, 0, zid, [], [], zid, zid, false, ((d1 : Nat) : Int)⟩, ⟨(Value.slice none 0 0), (Value.slice none 0 0), (Value.slice none 0 0), (Value.slice none 0 0)⟩) : MsgV)).toArray), Is (.bool (rightB (((⟨c1, ((c2 : Nat) : Int), [], [], [], 0, 0, zid, [], [], zid, zid, false, ((d1 : Nat) : Int)⟩, ⟨(Value.slice none 0 0), (Value.slice none 0 0), (Value.slice none 0 0), (Value.slice none 0 0)⟩) : MsgV) : MsgV).1)), Is (.bool (rightB (((⟨c1, ((c2 : Nat) : Int), [], [], [], 0, 0, zid, [], [], zid, zid, false, ((d1 : Nat) : Int)⟩, ⟨(Value.slice none 0 0), (Value.slice none 0 0), (Value.slice none 0 0), (Value.slice none 0 0)⟩) : MsgV) : MsgV).1))] (by kernel_rfl) [79, 80, 81, 82, 83, 84, 85, 86, 87, 88, 89, 90, 91, 92, 93] (by kernel_rfl) (by kernel_rfl) (by kernel_rfl) rfl rfl rfl (fun _ _ => trivial) (si2 (si12 trivial)) ?hs17027 ?hQ17027
  case hs17027 =>
   refine ⟨?_, ?_, ?_, ?_, ?_, ?_, ?_, ?_, ?_, ?_, ?_, ?_, ?_, ?_, ?_, trivial⟩
   ·refine stepFL (stepN rfl fun σ w1 hC h => ?_)
    have e1 := (eqo (h 1 (by decide))).trans T1
    exact Yk.cell1 wr11_ty109 rfl e1 (cellAt (eb hC hb14) (show _ = some (PQ r 0 : Value) from rfl)) ⟨Ext.refl _, rfl⟩
   ·refine stepFL (stepN rfl fun σ w1 hC h => ?_)
    have e79 := eqo (h 79 (by decide))
    exact Yk.nilCheck e79 ⟨Ext.refl _, rfl⟩
   ·refine stepFL (stepN rfl fun σ w1 hC h => ?_)
    have e80 := eqo (h 80 (by decide))
    exact Yk.fieldAt wr11_fo111_1 e80 ⟨Ext.refl _, rfl⟩
   ·refine stepFL (stepN rfl fun σ w1 hC h => ?_)
    have e81 := eqo (h 81 (by decide))
    exact Yk.cell1 wr11_ty3 rfl e81 (cellAt (eb hC hb) (show (rdC (rdX v b (i1)))[1]? = some (NI i1 : Value) from rd_g1 (rdX v b (i1)))) ⟨Ext.refl _, rfl⟩
   ·refine stepFL (stepN rfl fun σ w1 hC h => ?_)
    have e1 := (eqo (h 1 (by decide))).trans T1
    exact Yk.cell1 wr11_ty109 rfl e1 (cellAt (eb hC hb14) (show _ = some (PQ r 0 : Value) from rfl)) ⟨Ext.refl _, rfl⟩
   ·refine stepFL (stepN rfl fun σ w1 hC h => ?_)
    have e83 := eqo (h 83 (by decide))
    exact Yk.nilCheck e83 ⟨Ext.refl _, rfl⟩
   ·refine stepFL (stepN rfl fun σ w1 hC h => ?_)
    have e84 := eqo (h 84 (by decide))
    exact Yk.fieldAt wr11_fo111_0 e84 ⟨Ext.refl _, rfl⟩
   ·refine stepFL (stepN rfl fun σ w1 hC h => ?_)
    have e85 := eqo (h 85 (by decide))
    exact Yk.cell1 wr11_ty26 rfl e85 (cellAt (eb hC hb) (show (rdC (rdX v b (i1)))[0]? = some (v : Value) from rd_g0 (rdX v b (i1)))) ⟨Ext.refl _, rfl⟩
   ·refine stepFL (stepN rfl fun σ w1 hC h => ?_)
    have e86 := eqo (h 86 (by decide))
    exact Yk.lenRB wr11_ty26 (RB.of (hr.keep (hE0.trans hC)) e86) ⟨Ext.refl _, rfl⟩
   ·refine stepFL (stepN rfl fun σ w1 hC h => ?_)
    have e82 := eqo (h 82 (by decide))
    have e87 := eqo (h 87 (by decide))
    exact Yk.eqI (a := (i1 : Nat)) (b := (b.length : Nat)) e82 e87 (k_eql _ _ _ _) ⟨Ext.refl _, (congrArg Value.bool (decide_eq_true (hj)))⟩
   ·refine stepFL (stepN rfl fun σ w1 hC h => ?_)
    have e88 := eqo (h 88 (by decide))
    exact Yk.move e88 ⟨Ext.refl _, rfl⟩
   ·refine stepFL (stepY 10 true 89 rfl rfl (fun _ _ h => h) fun σ w1 hC h => ?_)
    have e2 := (eqo (h 2 (by decide))).trans T2
    exact Yk.loadAll e2 (eb hC hb31) (wr11_ty29).choose_spec rfl (st_isz (msg_len ((⟨c1, ((c2 : Nat) : Int), [], [], [], 0, 0, zid, [], [], zid, zid, false, ((d1 : Nat) : Int)⟩, ⟨(Value.slice none 0 0), (Value.slice none 0 0), (Value.slice none 0 0), (Value.slice none 0 0)⟩) : MsgV)) wr11_isz29) ⟨Ext.refl _, rfl⟩
   ·refine stepFL (stepY 10 true 89 rfl rfl (fun _ _ h => h) fun σ w1 hC h => ?_)
    have e90 := eqo (h 90 (by decide))
    refine Yk.callA1 wr11_pl19 e90 ((right_any _ ((⟨c1, ((c2 : Nat) : Int), [], [], [], 0, 0, zid, [], [], zid, zid, false, ((d1 : Nat) : Int)⟩, ⟨(Value.slice none 0 0), (Value.slice none 0 0), (Value.slice none 0 0), (Value.slice none 0 0)⟩) : MsgV) (MsgAt.mk (RG.nil _ _ _) (RG.nil _ _ _) (RG.nil _ _ _) (RB.nil _)) hMl).mono ?_)
    rintro e w2 ⟨rfl, hx⟩
    exact ⟨_, rfl, hx, rfl⟩
   ·refine stepFL (stepN rfl fun σ w1 hC h => ?_)
    have e89 := eqo (h 89 (by decide))
    have e91 := eqo (h 91 (by decide))
    exact Yk.pickT e89 e91 ⟨Ext.refl _, rfl⟩
   ·exact trivial
  intro ρ575 w576 hx577 he hf
  obtain ⟨-, -, -, -, -, -, -, -, -, -, -, -, -, k92, -⟩ := hf
  obtain ⟨T0, T1, T2, T3, T4, T22, T27, T35, T40, T45, T50, T56, T75, -⟩ := he.hold [(0, _), (1, _), (2, _), (3, _), (4, _), (22, .bool (false)), (27, .bool (false)), (35, .bool (false)), (40, .bool (false)), (45, .bool (false)), (50, .bool (false)), (56, .bool (false)), (75, .bool (true))] ⟨T0, T1, T2, T3, T15, rfl, rfl, rfl, rfl, rfl, rfl, rfl, rfl, trivial⟩ rfl
  clear he
  have hE0 := hE0.trans hx577
  have hb14 := eb hx577 hb14
  have hb82 := eb hx577 hb82
  have hb := eb hx577 hb
  have hb31 := eb hx577 hb31
  have T92 : ρ575 92 = .bool (rightB (((⟨c1, ((c2 : Nat) : Int), [], [], [], 0, 0, zid, [], [], zid, zid, false, ((d1 : Nat) : Int)⟩, ⟨(Value.slice none 0 0), (Value.slice none 0 0), (Value.slice none 0 0), (Value.slice none 0 0)⟩) : MsgV) : MsgV).1) := k92
  clear k92
  refine Yp.callA1 wr11_pl109 T92 ?_
  refine calls_either (needW_any _ (rightB (((⟨c1, ((c2 : Nat) : Int), [], [], [], 0, 0, zid, [], [], zid, zid, false, ((d1 : Nat) : Int)⟩, ⟨(Value.slice none 0 0), (Value.slice none 0 0), (Value.slice none 0 0), (Value.slice none 0 0)⟩) : MsgV) : MsgV).1)) ?_ ?_
  rotate_left
  ·
   rintro ch w580 ⟨rfl, hb, hx⟩
   refine thenF_panic (postP_panic ?_)
   exact .inr ⟨_, rfl, by rw [hD]; simp only [hPb1, Option.bind_some]; refine if_neg ?_; rintro ⟨h1, h2⟩; exact Bool.noConfusion (h2.symm.trans hb), rfl, hE0.trans hx⟩
  rintro v_ w581 ⟨rfl, hb578, hx579⟩
  have hE0 := hE0.trans hx579
  have hb14 := eb hx579 hb14
  have hb82 := eb hx579 hb82
  have hb := eb hx579 hb
  have hb31 := eb hx579 hb31
  intro ρ582 hu583
  have T0 : ρ582 0 = (PQ r 0 : Value) := (hu583 0 (by decide)).trans T0
  have T1 : ρ582 1 = (PQ n2 0 : Value) := (hu583 1 (by decide)).trans T1
  have T2 : ρ582 2 = (PQ n16 0 : Value) := (hu583 2 (by decide)).trans T2
  have T3 : ρ582 3 = (PQ n79 0 : Value) := (hu583 3 (by decide)).trans T3
  have T4 : ρ582 4 = (.bool (true) : Value) := (hu583 4 (by decide)).trans T4
  have T22 : ρ582 22 = (.bool (false) : Value) := (hu583 22 (by decide)).trans T22
  have T27 : ρ582 27 = (.bool (false) : Value) := (hu583 27 (by decide)).trans T27
  have T35 : ρ582 35 = (.bool (false) : Value) := (hu583 35 (by decide)).trans T35
  have T40 : ρ582 40 = (.bool (false) : Value) := (hu583 40 (by decide)).trans T40
  have T45 : ρ582 45 = (.bool (false) : Value) := (hu583 45 (by decide)).trans T45
  have T50 : ρ582 50 = (.bool (false) : Value) := (hu583 50 (by decide)).trans T50
  have T56 : ρ582 56 = (.bool (false) : Value) := (hu583 56 (by decide)).trans T56
  have T75 : ρ582 75 = (.bool (true) : Value) := (hu583 75 (by decide)).trans T75
  refine tN (hK574 _ _ (sk fun K584 hK584 => (wt (oS rfl (Yk.loadAll T2 hb31 (wr11_ty29).choose_spec rfl (st_isz (msg_len ((⟨c1, ((c2 : Nat) : Int), [], [], [], 0, 0, zid, [], [], zid, zid, false, ((d1 : Nat) : Int)⟩, ⟨(Value.slice none 0 0), (Value.slice none 0 0), (Value.slice none 0 0), (Value.slice none 0 0)⟩) : MsgV)) wr11_isz29) (oS rfl (Yk.storeAll T2 (vr (.agg (msgC ((⟨c1, ((c2 : Nat) : Int), [], [], [], 0, 0, zid, [], [], zid, zid, false, ((d1 : Nat) : Int)⟩, ⟨(Value.slice none 0 0), (Value.slice none 0 0), (Value.slice none 0 0), (Value.slice none 0 0)⟩) : MsgV)).toArray) rfl) hb31 (by simp only [List.size_toArray, msg_len]) (st_isz (msg_len _) wr11_isz29) (msg_one (x := ((⟨c1, ((c2 : Nat) : Int), [], [], [], 0, 0, zid, [], [], zid, zid, false, ((d1 : Nat) : Int)⟩, ⟨(Value.slice none 0 0), (Value.slice none 0 0), (Value.slice none 0 0), (Value.slice none 0 0)⟩) : MsgV)) rfl rfl rfl rfl) fun w585 hb586 hg587 hs588 => ?_)))))))
  have hE0 := row_fresh hE0 hg587 (Nat.le_trans (Nat.le_refl _) (by omega))
  have hb14 := kb hg587 hb14 (by omega)
  have hb82 := kb hg587 hb82 (by omega)
  have hb := kb hg587 hb (by omega)
  clear hb31
  have hb31 : w585.heap[n16]? = some (.cells (msgC ((⟨c1, ((c2 : Nat) : Int), [], [], [], 0, 0, zid, [], [], zid, zid, false, ((d1 : Nat) : Int)⟩, ⟨(Value.slice none 0 0), (Value.slice none 0 0), (Value.slice none 0 0), (Value.slice none 0 0)⟩) : MsgV)).toArray 29 (0, 0)) := hb586; clear hb586
  have hl589 := bl hb31
  refine oZ (tN (hK584 _ _ (wpF_ret (postP_ret (fn := Tryd.f67) _ rfl [.agg (msgC ((⟨c1, ((c2 : Nat) : Int), [], [], [], 0, 0, zid, [], [], zid, zid, false, ((d1 : Nat) : Int)⟩, ⟨(Value.slice none 0 0), (Value.slice none 0 0), (Value.slice none 0 0), (Value.slice none 0 0)⟩) : MsgV)).toArray] (.agg (msgC ((⟨c1, ((c2 : Nat) : Int), [], [], [], 0, 0, zid, [], [], zid, zid, false, ((d1 : Nat) : Int)⟩, ⟨(Value.slice none 0 0), (Value.slice none 0 0), (Value.slice none 0 0), (Value.slice none 0 0)⟩) : MsgV)).toArray) rfl ⟨ResF.row T2 hb31 (wr11_ty29).choose_spec rfl (st_isz (msg_len _) wr11_isz29), trivial⟩ ?_))))
  exact .inl ⟨_, rfl, ((⟨c1, ((c2 : Nat) : Int), [], [], [], 0, 0, zid, [], [], zid, zid, false, ((d1 : Nat) : Int)⟩, ⟨(Value.slice none 0 0), (Value.slice none 0 0), (Value.slice none 0 0), (Value.slice none 0 0)⟩) : MsgV), by rw [hD]; simp only [hPb1, Option.bind_some]; refine if_pos ?_; exact ⟨hj, hb578⟩, rfl, (MsgAt.mk (RG.nil _ _ _) (RG.nil _ _ _) (RG.nil _ _ _) (RB.nil _)), ⟨(fun k h => by cases h), (fun k h => by cases h), (fun k h => by cases h), (fun k h => by cases h)⟩, hE0⟩
 refine tN (hK561 _ _ (sk fun K590 hK590 => ?_))
 refine wpF_draw_endE 14 _ [Is (PQ r 0), Is (PQ r 0), Is (PQ r 1), Is (NI i1), Is (PQ r 0), Is (PQ r 0), Is (PQ r 0), Is (v), Is (NI b.length), Is (.bool (false)), Is (.bool (false)), Is undef, Is undef, Is (.bool (false))] (by kernel_rfl) [79, 80, 81, 82, 83, 84, 85, 86, 87, 88, 89, 90, 91, 92, 93] (by kernel_rfl) (by kernel_rfl) (by kernel_rfl) rfl rfl rfl (fun _ _ => trivial) (si2 (si12 trivial)) ?hs18027 ?hQ18027
 case hs18027 =>
  refine ⟨?_, ?_, ?_, ?_, ?_, ?_, ?_, ?_, ?_, ?_, ?_, ?_, ?_, ?_, ?_, trivial⟩
  ·refine stepFL (stepN rfl fun σ w1 hC h => ?_)
   have e1 := (eqo (h 1 (by decide))).trans T1
   exact Yk.cell1 wr11_ty109 rfl e1 (cellAt (eb hC hb14) (show _ = some (PQ r 0 : Value) from rfl)) ⟨Ext.refl _, rfl⟩
  ·refine stepFL (stepN rfl fun σ w1 hC h => ?_)
   have e79 := eqo (h 79 (by decide))
   exact Yk.nilCheck e79 ⟨Ext.refl _, rfl⟩
  ·refine stepFL (stepN rfl fun σ w1 hC h => ?_)
   have e80 := eqo (h 80 (by decide))
   exact Yk.fieldAt wr11_fo111_1 e80 ⟨Ext.refl _, rfl⟩
  ·refine stepFL (stepN rfl fun σ w1 hC h => ?_)
   have e81 := eqo (h 81 (by decide))
   exact Yk.cell1 wr11_ty3 rfl e81 (cellAt (eb hC hb) (show (rdC (rdX v b (i1)))[1]? = some (NI i1 : Value) from rd_g1 (rdX v b (i1)))) ⟨Ext.refl _, rfl⟩
  ·refine stepFL (stepN rfl fun σ w1 hC h => ?_)
   have e1 := (eqo (h 1 (by decide))).trans T1
   exact Yk.cell1 wr11_ty109 rfl e1 (cellAt (eb hC hb14) (show _ = some (PQ r 0 : Value) from rfl)) ⟨Ext.refl _, rfl⟩
  ·refine stepFL (stepN rfl fun σ w1 hC h => ?_)
   have e83 := eqo (h 83 (by decide))
   exact Yk.nilCheck e83 ⟨Ext.refl _, rfl⟩
  ·refine stepFL (stepN rfl fun σ w1 hC h => ?_)
   have e84 := eqo (h 84 (by decide))
   exact Yk.fieldAt wr11_fo111_0 e84 ⟨Ext.refl _, rfl⟩
  ·refine stepFL (stepN rfl fun σ w1 hC h => ?_)
   have e85 := eqo (h 85 (by decide))
   exact Yk.cell1 wr11_ty26 rfl e85 (cellAt (eb hC hb) (show (rdC (rdX v b (i1)))[0]? = some (v : Value) from rd_g0 (rdX v b (i1)))) ⟨Ext.refl _, rfl⟩
  ·refine stepFL (stepN rfl fun σ w1 hC h => ?_)
   have e86 := eqo (h 86 (by decide))
   exact Yk.lenRB wr11_ty26 (RB.of (hr.keep (hE0.trans hC)) e86) ⟨Ext.refl _, rfl⟩
  ·refine stepFL (stepN rfl fun σ w1 hC h => ?_)
   have e82 := eqo (h 82 (by decide))
   have e87 := eqo (h 87 (by decide))
   exact Yk.eqI (a := (i1 : Nat)) (b := (b.length : Nat)) e82 e87 (k_eql _ _ _ _) ⟨Ext.refl _, (congrArg Value.bool (decide_eq_false (hj)))⟩
  ·refine stepFL (stepN rfl fun σ w1 hC h => ?_)
   have e88 := eqo (h 88 (by decide))
   exact Yk.move e88 ⟨Ext.refl _, rfl⟩
  ·refine stepFL (stepX 10 true 89 rfl rfl (fun x _ (h : x = .bool false) => by rw [h]; intro h; cases h) fun _ => rfl)
  ·refine stepFL (stepX 10 true 89 rfl rfl (fun x _ (h : x = .bool false) => by rw [h]; intro h; cases h) fun _ => rfl)
  ·refine stepFL (stepN rfl fun σ w1 hC h => ?_)
   have e89 := eqo (h 89 (by decide))
   exact Yk.pickF e89 (vr (.bool (false)) rfl) ⟨Ext.refl _, rfl⟩
  ·exact trivial
 intro ρ591 w592 hx593 he hf
 obtain ⟨-, -, -, -, -, -, -, -, -, -, -, -, -, k92, -⟩ := hf
 obtain ⟨T0, T1, T2, T3, T4, T22, T27, T35, T40, T45, T50, T56, T75, -⟩ := he.hold [(0, _), (1, _), (2, _), (3, _), (4, _), (22, .bool (false)), (27, .bool (false)), (35, .bool (false)), (40, .bool (false)), (45, .bool (false)), (50, .bool (false)), (56, .bool (false)), (75, .bool (true))] ⟨T0, T1, T2, T3, T15, rfl, rfl, rfl, rfl, rfl, rfl, rfl, rfl, trivial⟩ rfl
 clear he
 have hE0 := hE0.trans hx593
 have hb14 := eb hx593 hb14
 have hb82 := eb hx593 hb82
 have hb := eb hx593 hb
 have hb31 := eb hx593 hb31
 have T92 : ρ591 92 = .bool (false) := k92
 clear k92
 refine Yp.callA1 wr11_pl109 T92 ?_
 refine calls_either (needW_any _ (false)) ?_ ?_
 rotate_left
 ·
  rintro ch w596 ⟨rfl, hb, hx⟩
  refine thenF_panic (postP_panic ?_)
  exact .inr ⟨_, rfl, by rw [hD]; simp only [hPb1, Option.bind_some]; refine if_neg ?_; rintro ⟨h1, h2⟩; exact hj h1, rfl, hE0.trans hx⟩
 rintro v_ w597 ⟨rfl, hb594, hx595⟩
 cases hb594
open Go.RowKit
structure FitsD (n : Nat) (D : List Deferred) (ρ : Slots) (a : Act) : Prop where
  size : a.tmps.size = n
  defers : a.defers = D
  get : ∀ t, a.tmps.getD t undef = ρ t
theorem FitsD.fits {n : Nat} {D : List Deferred} {ρ : Slots} {a : Act} (h : FitsD n D ρ a) : Fits n ρ { a with defers := [] } := ⟨h.size, rfl, h.get⟩
theorem FitsD.ofFits {n : Nat} {ρ : Slots} {a : Act} (h : Fits n ρ a) : FitsD n [] ρ a := ⟨h.size, h.defers, h.get⟩
theorem FitsD.toFits {n : Nat} {ρ : Slots} {a : Act} (h : FitsD n [] ρ a) : Fits n ρ a := ⟨h.size, h.defers, h.get⟩
theorem FitsD.eval {n : Nat} {D : List Deferred} {ρ : Slots} {a : Act} (h : FitsD n D ρ a) : a.eval = evalR ρ := by
  funext x
  cases x with
  | tmp t => exact h.get t
  | _ => rfl
theorem FitsD.put {n : Nat} {D : List Deferred} {ρ : Slots} {a : Act} (h : FitsD n D ρ a) (d : Option Tmp) (hd : ∀ t, d = some t → t < n) (v : Value) : FitsD n D (updO ρ d v) (a.put d v) := by
  have hf := h.fits.put d hd v
  cases d with
  | none => exact h
  | some d => exact ⟨hf.size, h.defers, hf.get⟩
def wpR (P : Program) (n : Nat) (D : List Deferred) (c : Code) (QQ : Exit → Act → World → Prop) (ρ : Slots) (w : World) : Prop := ∀ a, FitsD n D ρ a → c.wp P QQ a w
def opsR (P : Program) (ops : Array Oper) (n : Nat) (D : List Deferred) (QQ : Exit → Act → World → Prop) (l : List Oper) (ρ : Slots) (w : World) : Prop := ∀ a, FitsD n D ρ a → wpList P ops QQ l a w
section
variable {P : Program} {n : Nat} {D : List Deferred} {QQ : Exit → Act → World → Prop} {ρ : Slots} {w : World}
theorem wpR_seq_k {x y : Code} (QR : PostF) (hq : ∀ e ρ a w, e ≠ .normal → Fits n ρ a → QR e ρ w → QQ e a w) (h : ∀ K : Slots → World → Prop, (∀ ρ w, wpR P n [] y QQ ρ w → K ρ w) → wpF P n x (thenF K QR) ρ w) : wpR P n [] (.seq x y) QQ ρ w := fun a ha =>
  wp_seq (wp_mono (h (fun ρ w => wpR P n [] y QQ ρ w) (fun _ _ h => h) a ha.toFits) fun e a' w' ⟨ρ', hf, hQ⟩ => by
    cases e with
    | normal => exact hQ a' (FitsD.ofFits hf)
    | exit _ => exact hq _ ρ' a' w' (by simp) hf hQ
    | goto _ => exact hq _ ρ' a' w' (by simp) hf hQ
    | ret => exact hq _ ρ' a' w' (by simp) hf hQ
    | panic _ => exact hq _ ρ' a' w' (by simp) hf hQ
    | outgrown => exact hq _ ρ' a' w' (by simp) hf hQ)
theorem wpR_seq_text {id : Nat} {l : List Oper} {y : Code} (h : opsR P l.toArray n D (Exit.then (y.wp P QQ) QQ) l ρ w) : wpR P n D (.seq (.region id l.toArray false) y) QQ ρ w := fun a ha => wp_seq (wp_region_lit (h a ha))
theorem wpR_ret (h : ∀ a, FitsD n D ρ a → QQ .ret a w) : wpR P n D .ret QQ ρ w := fun a ha => wp_ret (h a ha)
theorem opsR_end {ops : Array Oper} {y : Code} (I : Slots → Prop) (hI : I ρ) (h : ∀ ρ', I ρ' → wpR P n D y QQ ρ' w) : opsR P ops n D (Exit.then (y.wp P QQ) QQ) [] ρ w := fun a ha => h ρ hI a ha
theorem opsR_stepP {ops : Array Oper} {rest : List Oper} {dst : Option Tmp} {op : Op} {ty : TypeId} {pos : String} {af : Array Edge} (hd : (match dst with | some d => Nat.blt d n | none => true) = true)
    (h : Yp P (fun v w' => opsR P ops n D QQ rest (updO ρ dst v) w') (fun ch w' => ∀ a, FitsD n D ρ a → QQ (.panic ch) a w') ((execOp (evalR ρ) ⟨dst, op, ty, pos, af, none⟩).run P w)) : opsR P ops n D QQ (⟨dst, op, ty, pos, af, none⟩ :: rest) ρ w := by
  intro a ha
  have hdn : ∀ t, dst = some t → t < n := fun t ht => by subst ht; exact Nat.le_of_ble_eq_true hd
  refine wpList_plain rfl fun K hK => ?_
  unfold Oper.wp Oper.upon
  rw [ha.eval]
  have hput := fun v => ha.put dst hdn v
  revert h
  generalize (execOp (evalR ρ) ⟨dst, op, ty, pos, af, none⟩).run P w = r
  intro h
  match r, h with
  | .ok (.value v) w', h => exact hK _ _ (h _ (hput v))
  | .ok .skip w', h => exact hK _ _ (h _ (hput undef))
  | .halt (.panic v) w', h => exact h a ha
  | .ok (.enter f args) w', h =>
    refine Calls.mono h ?_
    intro e w'' hx
    match e, hx with
    | .returned v, hx => exact hK _ _ (hx _ (hput v))
    | .panicked ch, hx => exact hx a ha
theorem opsR_step {ops : Array Oper} {rest : List Oper} {dst : Option Tmp} {op : Op} {ty : TypeId} {pos : String} {af : Array Edge} (hd : (match dst with | some d => Nat.blt d n | none => true) = true)
    (h : Yk P (fun v w' => opsR P ops n D QQ rest (updO ρ dst v) w') ((execOp (evalR ρ) ⟨dst, op, ty, pos, af, none⟩).run P w)) : opsR P ops n D QQ (⟨dst, op, ty, pos, af, none⟩ :: rest) ρ w :=
  opsR_stepP hd (Yp.ofK h)
theorem opsR_defer {ops : Array Oper} {rest : List Oper} {x : Operand} {ty : TypeId} {pos : String} {af : Array Edge} {fv : Fn} {first cap : Array Value} (hx : evalR ρ x = .func fv first cap)
    (hr : (execOp (evalR ρ) ⟨none, .defer ⟨.value x, #[], #[]⟩, ty, pos, af, none⟩).run P w = .ok (.defer ⟨.fn fv cap, first⟩) w)
    (h : opsR P ops n (⟨.fn fv cap, first⟩ :: D) QQ rest ρ w) : opsR P ops n D QQ (⟨none, .defer ⟨.value x, #[], #[]⟩, ty, pos, af, none⟩ :: rest) ρ w := by
  intro a ha
  refine wpList_plain rfl fun K hK => ?_
  unfold Oper.wp Oper.upon
  rw [ha.eval, hr]
  refine hK _ _ (h _ ⟨ha.size, ?_, ha.get⟩)
  show _ :: a.defers = _
  rw [ha.defers]
theorem postP_bodyD {fn : Func} {R : Ending → World → Prop} : ∀ e ρ a w, e ≠ .normal → Fits n ρ a → postP P fn R e ρ w → bodyPostD P fn R e a w := fun e ρ a w he ha h => by
  cases e with
  | normal => exact absurd rfl he
  | ret =>
    show Leaves P fn a.tmps R a.defers .returning w
    rw [ha.defers]
    exact h a.tmps ha.get
  | panic ch =>
    show Leaves P fn a.tmps R a.defers (.panicking ch) w
    rw [ha.defers]
    exact h
  | exit _ => exact h.elim
  | goto _ => exact h.elim
  | outgrown => exact h.elim
theorem calls_of_wpR {f : FuncId} {fn : Func} {c : Code} {args : List Value} {R : Ending → World → Prop} (hf : P.funcs[f]? = some fn) (hb : fn.body = some c) (m : Nat) (hm : fn.ntmps = m) (hn : args.length ≤ m)
    (h : ∀ ρ, Begun args ρ → wpR P m [] c (bodyPostD P fn R) ρ w) : Calls P f args.toArray w R := by
  subst hm
  refine calls_of_wp_defers hf hb ?_
  have hget : ∀ t, (args.toArray ++ Array.replicate (fn.ntmps - args.toArray.size) undef).getD t undef = args.getD t undef := fun t => by
    simp only [Array.getD_eq_getD_getElem?, List.getD_eq_getElem?_getD, Array.getElem?_append, List.size_toArray, List.getElem?_toArray]
    by_cases ht : t < args.length
    · rw [if_pos ht]
    · rw [if_neg ht, List.getElem?_eq_none (by omega), Array.getElem?_replicate]
      split <;> rfl
  refine h (fun t => args.getD t undef) ⟨fun _ => rfl⟩ _ ⟨?_, rfl, hget⟩
  simp
  omega
end
open Go.RowKit
section
variable {P : Program} {n : Nat}
theorem wp_of_wpF {c : Code} {QF : PostF} {Q : Exit → Act → World → Prop} {ρ : Slots} {a : Act} {w : World} (h : wpF P n c QF ρ w) (ha : Fits n ρ a) (hq : ∀ e ρ' a' w', Fits n ρ' a' → QF e ρ' w' → Q e a' w') : c.wp P Q a w :=
  wp_mono (h a ha) fun e a' w' ⟨ρ', hf, hQ⟩ => hq e ρ' a' w' hf hQ
def askD : FrameMode → Value × FrameMode
  | .panicking ({ v, recovered := false, goexit := false } :: older) => (v, .panicking ({ v, recovered := true } :: older))
  | u => (.nilIface, u)
theorem recover_ask (c₀ : Frame) (cs : List Frame) (u : FrameMode) (hu : c₀.mode = u) (K : Value → List Frame → Prop) (h : K (askD u).1 ({ c₀ with mode := (askD u).2 } :: cs)) :
    match recoverD (c₀ :: cs) with
    | some (v, cs') => K v cs'
    | none => K .nilIface (c₀ :: cs) := by
  subst hu
  obtain ⟨cf, ct, ctodo, cd, cm, ck, cr⟩ := c₀
  match cm, h with
  | .run, h => exact h
  | .returning, h => exact h
  | .panicking [], h => exact h
  | .panicking ({ v, recovered := true, goexit := g } :: older), h => exact h
  | .panicking ({ v, recovered := false, goexit := true } :: older), h => exact h
  | .panicking ({ v, recovered := false, goexit := false } :: older), h => exact h
theorem callsD_of_rest {f : FuncId} {fn : Func} {c : Code} {args : List Value} {u : FrameMode} {w : World} {R : Ending → World → Prop} {id : Nat} {d0 d1 : Tmp} {ty0 ty1 : TypeId} {p0 p1 : String} {af0 af1 : Array Edge}
    (hf : P.funcs[f]? = some fn) (hb : fn.body = some (.seq (.region id #[⟨some d0, .call ⟨.builtin .recover, #[], #[]⟩, ty0, p0, af0, none⟩, ⟨some d1, .assign (.tmp d0), ty1, p1, af1, none⟩] false) c)) (m : Nat) (hm : fn.ntmps = m) (hn : args.length ≤ m) (h0 : Nat.blt d0 m = true) (h1 : Nat.blt d1 m = true)
    (h : ∀ ρ0, Begun args ρ0 → wpF P m c (postP P fn R) (updO (updO ρ0 (some d0) (askD u).1) (some d1) (askD u).1) w) :
    CallsD P f args.toArray u w fun e u' w' => u' = (askD u).2 ∧ R e w' := by
  subst hm
  refine callsD_of_wpS hf hb fun c₀ cs hu => ?_
  have hget : ∀ t, (args.toArray ++ Array.replicate (fn.ntmps - args.toArray.size) undef).getD t undef = args.getD t undef := fun t => by
    simp only [Array.getD_eq_getD_getElem?, List.getD_eq_getElem?_getD, Array.getElem?_append, List.size_toArray, List.getElem?_toArray]
    by_cases ht : t < args.length
    · rw [if_pos ht]
    · rw [if_neg ht, List.getElem?_eq_none (by omega), Array.getElem?_replicate]
      split <;> rfl
  have hF : Fits fn.ntmps (fun t => args.getD t undef) { tmps := args.toArray ++ Array.replicate (fn.ntmps - args.toArray.size) undef, defers := [] } := ⟨by simp; omega, rfl, hget⟩
  generalize ({ tmps := args.toArray ++ Array.replicate (fn.ntmps - args.toArray.size) undef, defers := [] } : Act) = a at hF ⊢
  have hd0 : ∀ t, some d0 = some t → t < fn.ntmps := fun t ht => by cases ht; exact Nat.le_of_ble_eq_true h0
  have hd1 : ∀ t, some d1 = some t → t < fn.ntmps := fun t ht => by cases ht; exact Nat.le_of_ble_eq_true h1
  have hF1 := hF.put (some d0) hd0 (askD u).1
  have hF2 := hF1.put (some d1) hd1 (askD u).1
  apply wpS_seq
  apply wpS_region
  have hr0 : (execOp a.eval (⟨some d0, .call ⟨.builtin .recover, #[], #[]⟩, ty0, p0, af0, none⟩ : Oper)).run P w = .ok .recover w := by
    simp [go_sem]
  have hkey : ∀ (v : Value) (cs' : List Frame), v = (askD u).1 → cs' = { c₀ with mode := (askD u).2 } :: cs → wpOpsS P #[⟨some d0, .call ⟨.builtin .recover, #[], #[]⟩, ty0, p0, af0, none⟩, ⟨some d1, .assign (.tmp d0), ty1, p1, af1, none⟩] (Exit.thenS (c.wpS P (bodyPostS P fn c₀ cs fun e u' w' => u' = (askD u).2 ∧ R e w')) (bodyPostS P fn c₀ cs fun e u' w' => u' = (askD u).2 ∧ R e w')) [1] (a.put (some d0) v) cs' w := by
    rintro v cs' rfl rfl
    have hv : (a.put (some d0) (askD u).1).eval (.tmp d0) = (askD u).1 := by
      rw [hF1.eval]
      show (bif Nat.beq d0 d0 then _ else _) = _
      rw [Nat.beq_refl]
      rfl
    have hr1 : (execOp (a.put (some d0) (askD u).1).eval (⟨some d1, .assign (.tmp d0), ty1, p1, af1, none⟩ : Oper)).run P w = .ok (.value (askD u).1) w := by
      simp [execOp, hv]
    simp only [wpOpsS, List.getElem?_toArray, List.getElem?_cons_succ, List.getElem?_cons_zero, Region.wanted, hr1, Oper.upon, if_true]
    refine wpS_of_wp (wp_of_wpF (h _ ⟨fun _ => rfl⟩) hF2 fun e ρ' a' w' hf' hQ => ?_)
    cases e with
    | normal => obtain ⟨v, hv, hR⟩ := hQ a'.tmps hf'.get; exact ⟨hf'.defers, _, rfl, v, hv, rfl, hR⟩
    | ret => obtain ⟨v, hv, hR⟩ := hQ a'.tmps hf'.get; exact ⟨hf'.defers, _, rfl, v, hv, rfl, hR⟩
    | panic ch => exact ⟨hf'.defers, _, rfl, rfl, hQ⟩
    | exit _ => exact hQ.elim
    | goto _ => exact hQ.elim
    | outgrown => exact hQ.elim
  show wpOpsS P _ _ [0, 1] a (c₀ :: cs) w
  unfold wpOpsS
  simp only [List.getElem?_toArray, List.getElem?_cons_zero, Region.wanted, if_true, hr0]
  exact recover_ask c₀ cs u hu (fun v cs' => wpOpsS P _ _ [1] (a.put (some d0) v) cs' w) (hkey _ _ rfl rfl)
end
open Go.RowKit
section
variable {P : Program} {K : Value → World → Prop} {ρ : Slots} {w : World} {d : Option Tmp} {ty : TypeId} {pos : String} {af : Array Edge} {gd : Option (Nat × Bool)} {t ty2 : TypeId}
theorem Yk.assertOk {x : Operand} {u : TypeId} {v : Value} {fs} (hu : P.underlying u = some (.struct fs)) (hx : evalR ρ x = .iface u v) (hk : K (.tuple #[v, .bool true]) w) : Yk P K ((execOp (evalR ρ) ⟨d, .typeAssert x t u true, ty, pos, af, gd⟩).run P w) := by
  refine Yk.value (v := .tuple #[v, .bool true]) (w' := w) ?_ hk
  unfold execOp
  simp [Instr.typeAssert, hx, run_underlying hu, Result.andThen]
theorem Yk.neqNilN {x : Operand} (he : (Op.equal t .nilIface .nilIface).run P w = .ok true w) (hx : evalR ρ x = .nilIface) (hk : K (.bool false) w) : Yk P K ((execOp (evalR ρ) ⟨d, .binOp .neq t x (.const .nilIface) ty2, ty, pos, af, gd⟩).run P w) := by
  have hy : evalR ρ (.const .nilIface) = .nilIface := rfl
  refine Yk.value (v := .bool false) (w' := w) ?_ hk
  unfold execOp
  simp only [hx, hy]
  simp [eqGuard, Go.binOp, he, Result.andThen]
theorem Yk.neqNilS {x : Operand} {u : TypeId} {v : Value} (he : (Op.equal t (.iface u v) .nilIface).run P w = .ok false w) (hx : evalR ρ x = .iface u v) (hk : K (.bool true) w) : Yk P K ((execOp (evalR ρ) ⟨d, .binOp .neq t x (.const .nilIface) ty2, ty, pos, af, gd⟩).run P w) := by
  have hy : evalR ρ (.const .nilIface) = .nilIface := rfl
  refine Yk.value (v := .bool true) (w' := w) ?_ hk
  unfold execOp
  simp only [hx, hy]
  simp [eqGuard, Go.binOp, he, Result.andThen]
theorem deferOk {x : Operand} {fv : Fn} {first cap : Array Value} (hx : evalR ρ x = .func fv first cap) : (execOp (evalR ρ) ⟨none, .defer ⟨.value x, #[], #[]⟩, ty, pos, af, none⟩).run P w = .ok (.defer ⟨.fn fv cap, first⟩) w := by
  unfold execOp
  simp [resolve, hx, Deferred.ofValue]
theorem ResF.cell1 {p : Tmp} {ty : TypeId} {g : Nat} {t : TypeId} {v : Value} {fr : Nat × Nat} {d : TypeDesc} (hp : ρ p = .pointer (some ⟨g, 0, none⟩)) (hg : w.heap[g]? = some (.cells ([v]).toArray t fr))
    (hu : P.underlying ty = some d) (hd : (match d with | .struct _ | .array _ _ => false | _ => true) = true) : ResF P ρ w (.cell p ty) v := by
  refine ⟨_, hp, ?_⟩
  have hc : w.cell? ⟨g, 0, none⟩ = some v := cellAt hg rfl
  have hagg : (isAgg ty).run P w = .ok false w := by
    unfold isAgg
    cases d <;> first | (simp at hd; done) | simp [run_underlying hu, Result.andThen]
  simp [loadVar, hagg, hc]
theorem leaves_nil {fn : Func} {tmps : Array Value} {R : Ending → World → Prop} (rs : List ResultVar) (hrs : fn.results = rs.toArray) (vs : List Value) (v : Value) (hv : tupled vs = v) (ht : ∀ t, tmps.getD t undef = ρ t) (h : ResAll P ρ w rs vs) (hR : R (.returned v) w) : Leaves P fn tmps R [] .returning w :=
  ⟨_, results_fn hrs ht h, by rw [hv]; exact hR⟩
end
open Go.RowKit
set_option maxRecDepth 100000
theorem anyNilW (w : World) : (Op.equal 20 .nilIface .nilIface).run Tryd.prog w = .ok true w := by kernel_rfl
theorem anyNilX (u : TypeId) (v : Value) (w : World) : (Op.equal 20 (.iface u v) .nilIface).run Tryd.prog w = .ok false w := by kernel_rfl
theorem wr12_ty107 : ∃ fs, Tryd.prog.underlying 107 = some (.struct fs) := struct_of (by kernel_rfl)
theorem wr12_al107 {d : Option Tmp} {ty : TypeId} {pos : String} {af : Array Edge} {gd : Option (Nat × Bool)} (σ : Operand → Value) (w : World) : (execOp σ ⟨d, .alloc 107, ty, pos, af, gd⟩).run Tryd.prog w = .ok (.value (PQ w.heap.size 0)) (w.alloc (.cells (([] : List Value)).toArray 107)) := by kernel_rfl
theorem wr12_isz29 : (Tryd.prog.info? 29).map (·.size) = some 107 := by kernel_rfl
theorem wr12_isz27 : (Tryd.prog.info? 27).map (·.size) = some 1 := by kernel_rfl
theorem decode1_idle (b2 b3 : Nat) (w : World) : CallsD Tryd.prog 66 #[PQ b2 0, PQ b3 0] (.returning) w fun e u' w' => u' = (askD (.returning)).2 ∧ (e = .returned (.tuple #[]) ∧ Ext w w') := by
 have hE := Ext.refl w
 refine callsD_of_rest (u := .returning) (args := [PQ b2 0, PQ b3 0]) Tryd.func66 rfl 17 rfl (Nat.le_of_ble_eq_true rfl) rfl rfl (R := fun e w' => e = .returned (.tuple #[]) ∧ Ext w w') ?_
 intro ρz hb
 have T0 : (updO (updO ρz (some 5) (askD (.returning)).1) (some 2) (askD (.returning)).1) 0 = (PQ b2 0 : Value) := hb.get 0
 have T1 : (updO (updO ρz (some 5) (askD (.returning)).1) (some 2) (askD (.returning)).1) 1 = (PQ b3 0 : Value) := hb.get 1
 have T2 : (updO (updO ρz (some 5) (askD (.returning)).1) (some 2) (askD (.returning)).1) 2 = (.nilIface : Value) := rfl
 generalize updO (updO ρz (some 5) (askD (.returning)).1) (some 2) (askD (.returning)).1 = ρ0 at T0 T1 T2 ⊢
 clear hb
 refine sk fun K1 hK1 => (wt (oM rfl (oS rfl (Yk.neqNilN (anyNilW _) T2 (oZ (tN (hK1 _ _ (wpF_false (vr (.bool (false)) rfl) (wpF_skip (postP_end (fn := Tryd.f66) [] rfl [] (.tuple #[]) rfl trivial ?_))))))))))
 exact ⟨rfl, hE⟩

theorem decode1_stop (w0 : World) (b2 b3 : Nat) (X2 : MsgV) (v3 : Value) (w : World) (h0 : Ext w0 w) (l2 : w0.heap.size ≤ b2) (l3 : w0.heap.size ≤ b3) (hne : b2 ≠ b3) (h2 : w.heap[b2]? = some (.cells (msgC X2).toArray 29 (0, 0))) (h3 : w.heap[b3]? = some (.cells ([v3]).toArray 27 (0, 0))) : CallsD Tryd.prog 66 #[PQ b2 0, PQ b3 0] (.panicking [stopW]) w fun e u' w' => u' = (askD (.panicking [stopW])).2 ∧ (e = .returned (.tuple #[]) ∧ w'.heap[b2]? = some (.cells (msgC ((⟨0, 0, [], [], [], 0, 0, zid, [], [], zid, zid, false, 0⟩, ⟨.slice none 0 0, .slice none 0 0, .slice none 0 0, .slice none 0 0⟩) : MsgV)).toArray 29 (0, 0)) ∧ w'.heap[b3]? = some (.cells ([NI 6]).toArray 27 (0, 0)) ∧ Ext w0 w') := by
 have hl2_ := (bl h2)
 have hl3_ := (bl h3)
 refine callsD_of_rest (u := .panicking [stopW]) (args := [PQ b2 0, PQ b3 0]) Tryd.func66 rfl 17 rfl (Nat.le_of_ble_eq_true rfl) rfl rfl (R := fun e w' => e = .returned (.tuple #[]) ∧ w'.heap[b2]? = some (.cells (msgC ((⟨0, 0, [], [], [], 0, 0, zid, [], [], zid, zid, false, 0⟩, ⟨.slice none 0 0, .slice none 0 0, .slice none 0 0, .slice none 0 0⟩) : MsgV)).toArray 29 (0, 0)) ∧ w'.heap[b3]? = some (.cells ([NI 6]).toArray 27 (0, 0)) ∧ Ext w0 w') ?_
 intro ρz hb
 have T0 : (updO (updO ρz (some 5) (askD (.panicking [stopW])).1) (some 2) (askD (.panicking [stopW])).1) 0 = (PQ b2 0 : Value) := hb.get 0
 have T1 : (updO (updO ρz (some 5) (askD (.panicking [stopW])).1) (some 2) (askD (.panicking [stopW])).1) 1 = (PQ b3 0 : Value) := hb.get 1
 have T2 : (updO (updO ρz (some 5) (askD (.panicking [stopW])).1) (some 2) (askD (.panicking [stopW])).1) 2 = ((.iface 107 (.agg #[])) : Value) := rfl
 generalize updO (updO ρz (some 5) (askD (.panicking [stopW])).1) (some 2) (askD (.panicking [stopW])).1 = ρ0 at T0 T1 T2 ⊢
 clear hb
 refine sk fun K1 hK1 => (wt (oM rfl (oS rfl (Yk.neqNilS (anyNilX _ _ _) T2 (oZ (tN (hK1 _ _ (wpF_true (vr (.bool (true)) rfl) (sk fun K2 hK2 => (sk fun K3 hK3 => (wt (oM rfl (oS rfl (Yk.assertOk (wr12_ty107).choose_spec T2 (oM rfl (oS rfl (Yk.extract (vs := [.agg (([] : List Value)).toArray, .bool (true)]) (vr (.tuple #[.agg (([] : List Value)).toArray, .bool (true)]) rfl) (show _ = some (.agg (([] : List Value)).toArray : Value) from rfl) (oS rfl (Yk.extract (vs := [.agg (([] : List Value)).toArray, .bool (true)]) (vr (.tuple #[.agg (([] : List Value)).toArray, .bool (true)]) rfl) (show _ = some (.bool (true) : Value) from rfl) (oS rfl (Yk.alloc (cs := (([] : List Value)).toArray) wr12_al107 fun n4 w5 hn6 hb7 hx8 hs9 => ?_)))))))))))))))))))))
 have hA10 := Ext.refl w
 have hea11 := h0
 have hz12 := h0.size
 have hlt13 := lte (bl h2) hn6
 have hlt14 := lte (bl h3) hn6
 have h0 := h0.trans hx8
 have h2 := eb hx8 h2
 have h3 := eb hx8 h3
 have hA10 := hA10.trans hx8
 have hb15 := hb7; clear hb7
 have hl16 : n4 < w5.heap.size := by omega
 refine oS rfl (Yk.storeAll (vr (PQ n4 0) rfl) (vr (.agg (([] : List Value)).toArray) rfl) hb15 (rfl) ((show (Tryd.prog.info? 107).map (·.size) = some 0 from by kernel_rfl)) ((by intro u hu; cases hu)) fun w17 hb18 hg19 hs20 => ?_)
 have h0 := row_fresh h0 hg19 (Nat.le_trans hz12 (by omega))
 have h2 := kb hg19 h2 (by omega)
 have h3 := kb hg19 h3 (by omega)
 have hA10 := row_fresh hA10 hg19 (Nat.le_trans (Nat.le_refl _) (by omega))
 clear hb15
 have hb15 := hb18; clear hb18
 have hl21 := bl hb15
 refine oA rfl (oZ (tN (hK3 _ _ (sk fun K22 hK22 => (wt (oM rfl (oS rfl (Yk.notB (vr (.bool (true)) rfl) (oZ (tN (hK22 _ _ (wpF_false (vr (.bool (false)) rfl) (wpF_skip (tN (hK2 _ _ (wt (oS rfl (Yk.run (v := .agg (msgC ((⟨0, 0, [], [], [], 0, 0, zid, [], [], zid, zid, false, 0⟩, ⟨.slice none 0 0, .slice none 0 0, .slice none 0 0, .slice none 0 0⟩) : MsgV)).toArray) (by kernel_rfl) (oS rfl (Yk.storeAll T0 (vr (.agg (msgC ((⟨0, 0, [], [], [], 0, 0, zid, [], [], zid, zid, false, 0⟩, ⟨.slice none 0 0, .slice none 0 0, .slice none 0 0, .slice none 0 0⟩) : MsgV)).toArray) rfl) h2 (by simp only [List.size_toArray, msg_len]) (st_isz (msg_len _) wr12_isz29) (msg_one (x := ((⟨0, 0, [], [], [], 0, 0, zid, [], [], zid, zid, false, 0⟩, ⟨.slice none 0 0, .slice none 0 0, .slice none 0 0, .slice none 0 0⟩) : MsgV)) rfl rfl rfl rfl) fun w23 hb24 hg25 hs26 => ?_))))))))))))))))))))
 have h0 := row_fresh h0 hg25 (Nat.le_trans (Nat.le_refl _) (by omega))
 clear h2
 have h3 := kb hg25 h3 (by omega)
 clear hA10
 have hb15 := kb hg25 hb15 (by omega)
 have h2 : w23.heap[b2]? = some (.cells (msgC ((⟨0, 0, [], [], [], 0, 0, zid, [], [], zid, zid, false, 0⟩, ⟨.slice none 0 0, .slice none 0 0, .slice none 0 0, .slice none 0 0⟩) : MsgV)).toArray 29 (0, 0)) := hb24; clear hb24
 have hl27 := bl h2
 refine oS rfl (Yk.storeC (i := 0) (v := NI 6) T1 (vr (NI 6) rfl) h3 (Nat.le_of_ble_eq_true rfl) wr12_isz27 rfl rfl fun w28 hb29 hg30 hs31 => ?_)
 have h0 := row_fresh h0 hg30 (Nat.le_trans (Nat.le_refl _) (by omega))
 clear h3
 have hb15 := kb hg30 hb15 (by omega)
 have h2 := kb hg30 h2 (by omega)
 have h3 := hb29; clear hb29
 have hl32 := bl h3
 refine oZ (postP_end (fn := Tryd.f66) [] rfl [] (.tuple #[]) rfl trivial ?_)
 exact ⟨rfl, h2, h3, h0⟩
open Go.RowKit
set_option maxRecDepth 100000
theorem RG.kept {α : Type} {k : Nat} {enc : α → List Value} {w w' : World} {v : Value} {l : List α} (h : RG k enc w v l) {row : Option Nat} (hg : w.grownBy w' row) (hv : v.ownBlock = none ∨ v.ownBlock ≠ row) : RG k enc w' v l := by
 refine ⟨h.1, ?_⟩
 obtain ⟨h1, ao, cap, rfl, h2, h3, h4, h5⟩ := h.2
 refine ⟨h1, ao, cap, rfl, h2, h3, h4, fun a ha j u hu => ?_⟩
 have hc := h5 a ha j u hu
 subst ha
 have hlt := World.block_lt_of_cell? w _ hc
 have hbl : (a.add j).block = a.block := by unfold Addr.add; split <;> rfl
 have hne : (some a.block) ≠ row := by
  rcases hv with hv | hv
  ·cases hv
  ·exact hv
 rw [hbl] at hlt
 rw [World.cell?_of_block (w := w) (by rw [hbl]; exact hg.block a.block hlt hne)]
 exact hc
theorem MsgAt.set {w w' : World} {X : MsgV} {n g : Nat} (h : MsgAt w X) (hn : MsgNew n X) (hg : w.grownBy w' (some g)) (hl : g < n) : MsgAt w' X :=
 ⟨h.refs.kept hg (.inr fun e => by have := hn.refs g e; omega), h.wants.kept hg (.inr fun e => by have := hn.wants g e; omega), h.haves.kept hg (.inr fun e => by have := hn.haves g e; omega), h.bytes.kept hg (.inr fun e => by have := hn.bytes g e; omega)⟩
def DecRes (w : World) (X : MsgV) (c : Nat) : Option Msg → Prop
 | some m => c = 0 ∧ X.1 = m ∧ MsgAt w X
 | none => c = 6 ∧ X = ((⟨0, 0, [], [], [], 0, 0, zid, [], [], zid, zid, false, 0⟩, ⟨.slice none 0 0, .slice none 0 0, .slice none 0 0, .slice none 0 0⟩) : MsgV)
theorem wr13_al29 {d : Option Tmp} {ty : TypeId} {pos : String} {af : Array Edge} {gd : Option (Nat × Bool)} (σ : Operand → Value) (w : World) : (execOp σ ⟨d, .alloc 29, ty, pos, af, gd⟩).run Tryd.prog w = .ok (.value (PQ w.heap.size 0)) (w.alloc (.cells (msgC ((⟨0, 0, [], [], [], 0, 0, zid, [], [], zid, zid, false, 0⟩, ⟨.slice none 0 0, .slice none 0 0, .slice none 0 0, .slice none 0 0⟩) : MsgV)).toArray 29)) := by kernel_rfl
theorem wr13_al27 {d : Option Tmp} {ty : TypeId} {pos : String} {af : Array Edge} {gd : Option (Nat × Bool)} (σ : Operand → Value) (w : World) : (execOp σ ⟨d, .alloc 27, ty, pos, af, gd⟩).run Tryd.prog w = .ok (.value (PQ w.heap.size 0)) (w.alloc (.cells ([NI 0]).toArray 27)) := by kernel_rfl
theorem wr13_bs111_0h {z0 : Value} (h0 : ∃ ao n c, z0 = .slice ao n c) (w : World) : (Instr.build 111 #[(0, z0)]).run Tryd.prog w = .ok (.agg #[z0, .int .i64 0]) w := by obtain ⟨_, _, _, rfl⟩ := h0; kernel_rfl
theorem wr13_bs111_0 {z0 : Value} (h0 : ∃ ao n c, z0 = .slice ao n c) (w : World) : (Instr.build 111 #[(0, z0)]).run Tryd.prog w = .ok (.agg (z0 :: (.int .i64 (0) :: ([]))).toArray) w := by
 exact wr13_bs111_0h h0 w
theorem wr13_pl67 : Plain Tryd.prog 67 := fun _ _ => by kernel_rfl
theorem wr13_ty29 : ∃ fs, Tryd.prog.underlying 29 = some (.struct fs) := struct_of (by kernel_rfl)
theorem wr13_isz29 : (Tryd.prog.info? 29).map (·.size) = some 107 := by kernel_rfl
theorem wr13_ty27 : Tryd.prog.underlying 27 = some (.int .i64) := by kernel_rfl
theorem wr13_isz27 : (Tryd.prog.info? 27).map (·.size) = some 1 := by kernel_rfl
set_option maxHeartbeats 1600000
theorem decode_any (w : World) (v : Value) (b : Bs) (hr : RB w v b) (hl : b.length ≤ 4611686018427387904) :
  Calls Tryd.prog 22 #[v] w fun e w' => ∃ x, e = .returned x ∧ ∃ X c, x = .tuple #[.agg (msgC X).toArray, NI c] ∧ DecRes w' X c (decP b) ∧ Ext w w' := by
 refine calls_of_wpR (args := [v]) Tryd.func22 rfl 9 rfl (Nat.le_of_ble_eq_true rfl) ?_
 intro ρ0 hb
 have T0 : ρ0 0 = (v : Value) := hb.get 0
 clear hb
 have hE := Ext.refl w
 refine wpR_seq_k _ postP_bodyD fun K1 hK1 => (wt (oS rfl (Yk.alloc (cs := (msgC ((⟨0, 0, [], [], [], 0, 0, zid, [], [], zid, zid, false, 0⟩, ⟨.slice none 0 0, .slice none 0 0, .slice none 0 0, .slice none 0 0⟩) : MsgV)).toArray) wr13_al29 fun n2 w3 hn4 hb5 hx6 hs7 => ?_)))
 have hE := hE.trans hx6
 have hb8 := hb5; clear hb5
 have hl9 : n2 < w3.heap.size := by omega
 refine oS rfl (Yk.alloc (cs := ([NI 0]).toArray) wr13_al27 fun n10 w11 hn12 hb13 hx14 hs15 => ?_)
 have hA16 := Ext.refl w3
 have hea17 := hE
 have hz18 := hE.size
 have hlt19 := lte (bl hb8) hn12
 have hE := hE.trans hx14
 have hb8 := eb hx14 hb8
 have hA16 := hA16.trans hx14
 have hb20 := hb13; clear hb13
 have hl21 : n10 < w11.heap.size := by omega
 refine oL_ [(0, v), (2, PQ n2 0), (3, PQ n10 0)] ⟨T0, rfl, rfl, trivial⟩ fun ρ22 ⟨T0, T2, T3, _⟩ => ?_
 have hrA : RB w11 v b := (hr.keep hE)
 have hA2 := hb8
 have hA3 := hb20
 have hEA := hE
 have hA23 := Ext.refl w11
 have hea24 := hE
 have hea25 := hA16
 have hz26 := hE.size
 have hz27 := hA16.size
 refine tN (hK1 _ _ (wpR_seq_text (opsR_step rfl (Yk.mkFunc (vs := #[PQ n2 0, PQ n10 0]) (by simp only [List.map_toArray, List.map_cons, List.map_nil]; exact congrArg List.toArray (list2 T2 T3)) (opsR_defer (vr (.func (.func 66) #[] #[PQ n2 0, PQ n10 0]) rfl) (deferOk (vr (.func (.func 66) #[] #[PQ n2 0, PQ n10 0]) rfl)) (opsR_end (fun ρ => ρ 0 = (v : Value) ∧ ρ 2 = (PQ n2 0 : Value) ∧ ρ 3 = (PQ n10 0 : Value) ∧ True) ⟨T0, T2, T3, trivial⟩ fun ρ28 ⟨T0, T2, T3, _⟩ => (wpR_seq_text (opsR_step rfl (Yk.move T0 (opsR_step rfl (Yk.build1 (vr v rfl) (fun w => wr13_bs111_0 (RB.slice (hr.keep hE)) w) (opsR_step rfl (Yk.box (cs := (rdC ((⟨b, 0⟩, ⟨v⟩) : RdV) : List Value).toArray) (vr (.agg (rdC ((⟨b, 0⟩, ⟨v⟩) : RdV)).toArray) rfl) fun n29 w30 hn31 hb32 hx33 hs34 => ?_)))))))))))))
 have hlt35 := lte (bl hb8) hn31
 have hlt36 := lte (bl hb20) hn31
 have hE := hE.trans hx33
 have hb8 := eb hx33 hb8
 have hA16 := hA16.trans hx33
 have hb20 := eb hx33 hb20
 have hA23 := hA23.trans hx33
 have hb37 := hb32; clear hb32
 have hl38 : n29 < w30.heap.size := by omega
 refine opsR_stepP rfl (Yp.callA1 wr13_pl67 (vr (PQ n29 0) rfl) ?_)
 refine calls_either (message_any hA23 hb37 hrA (by omega) hl) ?_ ?_
 rotate_left
 ·
  rintro ch w39 ⟨hP, rfl, hx⟩
  intro a_ ha_
  show Leaves _ _ a_.tmps _ a_.defers (.panicking _) _
  rw [ha_.defers]
  refine leaves_cons (f := 66) (args := #[PQ n2 0, PQ n10 0]) (by simp) (by simp [go_sem]) ((decode1_stop w n2 n10 _ _ _ (hEA.trans hx) (by omega) (by omega) (by omega) (eb hx hA2) (eb hx hA3)).mono ?_)
  rintro e u' w3 ⟨rfl, rfl, hb2, hb3, hE3⟩
  exact leaves_nil (ρ := _) _ rfl [.agg (msgC ((⟨0, 0, [], [], [], 0, 0, zid, [], [], zid, zid, false, 0⟩, ⟨.slice none 0 0, .slice none 0 0, .slice none 0 0, .slice none 0 0⟩) : MsgV)).toArray, NI 6] (.tuple #[.agg (msgC ((⟨0, 0, [], [], [], 0, 0, zid, [], [], zid, zid, false, 0⟩, ⟨.slice none 0 0, .slice none 0 0, .slice none 0 0, .slice none 0 0⟩) : MsgV)).toArray, NI 6]) rfl ha_.get ⟨ResF.row (T2) hb2 (wr13_ty29).choose_spec rfl (st_isz (msg_len _) wr13_isz29), ResF.cell1 (T3) hb3 wr13_ty27 rfl, trivial⟩ ⟨_, rfl, _, _, rfl, by rw [hP]; exact ⟨rfl, rfl⟩, hE3⟩
 rintro v_ w41 ⟨X, hP, rfl, hX, hXn, hx⟩
 have hE := hEA.trans hx
 have hb2 := eb hx hA2
 have hb3 := eb hx hA3
 have hs2 := hx.size
 have hmr := hX.refs
 have hmw := hX.wants
 have hmh := hX.haves
 have hmb := hX.bytes
 have hl2 := (bl hb2)
 have hl3 := (bl hb3)
 refine opsR_step rfl (Yk.storeAll T2 (vr (.agg (msgC X).toArray) rfl) hb2 (by simp only [List.size_toArray, msg_len]) (st_isz (msg_len _) wr13_isz29) (msg_one (x := X) (RG.one hmr).2 (RG.one hmw).2 (RG.one hmh).2 (RB.one hmb).2) fun w42 hb43 hg44 hs45 => ?_)
 have hE := row_fresh hE hg44 (Nat.le_trans (Nat.le_refl _) (by omega))
 clear hb2
 have hb3 := kb hg44 hb3 (by omega)
 have hX : MsgAt w42 X := MsgAt.set hX hXn hg44 (by omega)
 clear hmr
 clear hmw
 clear hmh
 clear hmb
 have hb2 : w42.heap[n2]? = some (.cells (msgC X).toArray 29 (0, 0)) := hb43; clear hb43
 have hl46 := bl hb2
 refine opsR_step rfl (Yk.storeC (i := 0) (v := NI 0) T3 (vr (NI 0) rfl) hb3 (Nat.le_of_ble_eq_true rfl) wr13_isz27 rfl rfl fun w47 hb48 hg49 hs50 => ?_)
 have hE := row_fresh hE hg49 (Nat.le_trans hz18 (by omega))
 clear hb3
 have hX : MsgAt w47 X := MsgAt.set hX hXn hg49 (by omega)
 have hb2 := kb hg49 hb2 (by omega)
 have hb3 := hb48; clear hb48
 have hl51 := bl hb3
 refine opsR_end (fun ρ => ρ 0 = (v : Value) ∧ ρ 2 = (PQ n2 0 : Value) ∧ ρ 3 = (PQ n10 0 : Value) ∧ True) ⟨T0, T2, T3, trivial⟩ fun ρ52 ⟨T0, T2, T3, _⟩ => (wpR_ret fun a_ ha_ => ?_)
 show Leaves _ _ a_.tmps _ a_.defers .returning _
 rw [ha_.defers]
 refine leaves_cons (f := 66) (args := #[PQ n2 0, PQ n10 0]) (by simp) (by simp [go_sem]) ((decode1_idle n2 n10 _).mono ?_)
 rintro e u' w3 ⟨rfl, rfl, hxi⟩
 exact leaves_nil (ρ := _) _ rfl [.agg (msgC X).toArray, NI 0] (.tuple #[.agg (msgC X).toArray, NI 0]) rfl ha_.get ⟨ResF.row (T2) (eb hxi hb2) (wr13_ty29).choose_spec rfl (st_isz (msg_len _) wr13_isz29), ResF.cell1 (T3) (eb hxi hb3) wr13_ty27 rfl, trivial⟩ ⟨_, rfl, _, _, rfl, by rw [hP]; exact ⟨rfl, rfl, (hX).keep hxi⟩, hE.trans hxi⟩
open Go.RowKit
theorem dropOf {α : Type} {b u r : List α} {i : Nat} (h : b.drop i = u ++ r) : b.drop (i + u.length) = r := by
  rw [← List.drop_drop, h, List.drop_left]
theorem lenOf {α : Type} {b u r : List α} {i : Nat} (h : b.drop i = u ++ r) (hu : 0 < u.length) : i + u.length + r.length = b.length := by
  have h1 := congrArg List.length h
  rw [List.length_drop, List.length_append] at h1
  omega
theorem byteP_d {b r : Bs} {c : UInt8} {i : Nat} (h : b.drop i = c :: r) : byteP b i = some (c, i + 1) := by
  have h0 := lenOf (u := [c]) h (by simp)
  have h1 : b[i]? = some c := by have := congrArg (fun l : Bs => l[0]?) h; simpa using this
  unfold byteP
  rw [if_pos (by simp only [List.length_singleton] at h0; omega), List.getD_eq_getElem?_getD, h1]
  rfl
theorem numP_d {b r : Bs} {n i : Nat} (h : b.drop i = Lib.uvarint n ++ r) (hn : n < 9223372036854775808) : numP b i = some (n, i + (Lib.uvarint n).length) := by
  have h4 : (128 : Nat) ^ (8 + 1) = 9223372036854775808 := by decide
  unfold numP
  rw [h, lebDec_uvarint r 8 n 0 (by omega) (by omega) (by omega)]
  rfl
theorem idP_d {b r : Bs} {x : Id32} {i : Nat} (h : b.drop i = x.1 ++ r) : idP b i = some (x, i + x.1.length) := by
  have hx := x.2
  have h0 := lenOf h (by omega)
  unfold idP
  rw [dif_pos (by omega), hx]
  congr 2
  refine Subtype.ext ?_
  show (b.drop i).take 32 = x.1
  rw [h]
  exact List.take_left' hx
theorem txtP_d {b r s : Bs} {most i : Nat} (h : b.drop i = textB s ++ r) (hs : s.length ≤ most) (hm : most < 9223372036854775808) : txtP b i most = some (s, i + (textB s).length) := by
  have h4 : (128 : Nat) ^ (8 + 1) = 9223372036854775808 := by decide
  have h' : b.drop i = Lib.uvarint s.length ++ (s ++ r) := by rw [h]; unfold textB; rw [List.append_assoc]
  have h0 := lenOf h' (Lib.uvarint_pos _)
  have h2 := dropOf h'
  unfold txtP
  rw [h', lebDec_uvarint (s ++ r) 8 s.length 0 (by omega) (by omega) (by omega)]
  simp only
  rw [List.length_append] at h0
  rw [if_neg (by omega), if_neg (by omega), h2, List.take_left]
  unfold textB
  rw [List.length_append, Nat.add_assoc]
theorem updP_d {b r : Bs} {u : Upd} {i : Nat} (h : b.drop i = updB u ++ r) (hu : u.name.length ≤ 32) (ho : u.old = zid) : updP b i = some (u, i + (updB u).length) := by
  have e1 : b.drop i = u.kind :: (textB u.name ++ (u.new.1 ++ r)) := by rw [h]; unfold updB; simp
  have e2 : b.drop (i + 1) = textB u.name ++ (u.new.1 ++ r) := dropOf (u := [u.kind]) e1
  have e3 := dropOf e2
  unfold updP
  rw [byteP_d e1, Option.bind_some, txtP_d e2 hu (by omega), Option.bind_some, idP_d e3, Option.bind_some]
  simp only [Option.some.injEq, Prod.mk.injEq]
  refine ⟨?_, by unfold updB; simp only [List.length_append, List.length_singleton]; omega⟩
  rw [← ho]
theorem itP_head {σ : Type} {f : σ → Option σ} : ∀ (n : Nat) (s : σ), itP f (n + 1) s = (f s).bind (itP f n)
  | 0, s => by
    show f s = _
    cases f s <;> rfl
  | n + 1, s => by
    show (itP f (n + 1) s).bind f = _
    rw [itP_head n s]
    cases f s with
    | none => rfl
    | some t => rfl
theorem itP_d {α : Type} (f : α → Bs) {b : Bs} (st : List α × Nat → Option (List α × Nat)) : ∀ (l : List α) (a : List α) (r : Bs) (i : Nat), b.drop i = l.flatMap f ++ r →
    (∀ x ∈ l, ∀ (a : List α) (i : Nat) (r : Bs), b.drop i = f x ++ r → st (a, i) = some (a ++ [x], i + (f x).length)) → itP st l.length (a, i) = some (a ++ l, i + (l.flatMap f).length)
  | [], a, r, i, _, _ => by simp [itP]
  | x :: l, a, r, i, h, hst => by
    rw [List.flatMap_cons, List.append_assoc] at h
    rw [List.length_cons, itP_head, hst x (by simp) a i _ h, Option.bind_some, itP_d f st l (a ++ [x]) r _ (dropOf h) (fun y hy => hst y (by simp [hy]))]
    simp [Nat.add_assoc]
theorem listP_d {α : Type} (f : α → Bs) {b : Bs} {most : Nat} (st : List α × Nat → Option (List α × Nat)) {l : List α} {r : Bs} {i : Nat} (h : b.drop i = Lib.uvarint l.length ++ (l.flatMap f ++ r)) (hl : l.length ≤ most) (hm : most < 9223372036854775808)
    (hst : ∀ x ∈ l, ∀ (a : List α) (i : Nat) (r : Bs), b.drop i = f x ++ r → st (a, i) = some (a ++ [x], i + (f x).length)) : listP b i most st [] = some (l, i + (Lib.uvarint l.length).length + (l.flatMap f).length) := by
  rw [listP_some (numP_d h (by omega)) hl, itP_d f st l [] r _ (dropOf h) hst, List.nil_append]
theorem updsP_d {b r : Bs} {l : List Upd} {i : Nat} (h : b.drop i = (Lib.uvarint l.length ++ l.flatMap updB) ++ r) (hl : l.length ≤ 128) (hu : ∀ u ∈ l, u.name.length ≤ 32 ∧ u.old = zid) : listP b i 128 (addUpd b) [] = some (l, i + (Lib.uvarint l.length ++ l.flatMap updB).length) := by
  rw [List.append_assoc] at h
  rw [listP_d updB (addUpd b) h hl (by omega) (fun x hx a i r hr => by unfold addUpd; rw [updP_d hr (hu x hx).1 (hu x hx).2]; rfl), List.length_append, Nat.add_assoc]
theorem idsP_d {b r : Bs} {l : List Bs} {i : Nat} (h : b.drop i = idsB l ++ r) (hl : l.length ≤ 65536) (hu : ∀ x ∈ l, x.length = 32) : listP b i 65536 (addId b) [] = some (l, i + (idsB l).length) := by
  have h' : b.drop i = Lib.uvarint l.length ++ (l.flatMap (fun x => x) ++ r) := by rw [h]; unfold idsB; rw [List.append_assoc]
  rw [listP_d (fun x => x) (addId b) h' hl (by omega) (fun x hx a i r hr => by
    unfold addId
    rw [idP_d (x := ⟨x, hu x hx⟩) hr]
    rfl)]
  unfold idsB
  rw [List.length_append, Nat.add_assoc]
theorem zeroB_eq {x : Id32} (h : zeroB x = true) : x = zid := Subtype.ext (of_decide_eq_true h)
structure Absent (m : Msg) (p : Parts) : Prop where
  refs : p.refs = false → m.refs = []
  ids : p.ids = false → m.wants = [] ∧ m.haves = []
  size : p.size = false → m.size = 0
  at_ : p.at_ = false → m.at_ = 0
  id : p.id = false → m.id = zid
  bytes : p.bytes = false → m.bytes = []
  push : p.push = false → m.name = [] ∧ m.old = zid ∧ m.new = zid ∧ m.force = false
  code : p.code = false → m.code = 0
theorem absent_of {m : Msg} {p : Parts} (h : absentB m p = true) : Absent m p := by
  unfold absentB at h
  simp only [Bool.and_eq_true, Bool.or_eq_true, decide_eq_true_eq, Bool.not_eq_true'] at h
  obtain ⟨⟨⟨⟨⟨⟨⟨h1, h2⟩, h3⟩, h4⟩, h5⟩, h6⟩, h7⟩, h8⟩ := h
  refine ⟨fun e => ?_, fun e => ?_, fun e => ?_, fun e => ?_, fun e => ?_, fun e => ?_, fun e => ?_, fun e => ?_⟩
  · rw [e] at h1; exact List.eq_nil_of_length_eq_zero (h1.resolve_left (by simp))
  · rw [e] at h2; have h := h2.resolve_left (by simp); exact ⟨List.eq_nil_of_length_eq_zero h.1, List.eq_nil_of_length_eq_zero h.2⟩
  · rw [e] at h3; exact h3.resolve_left (by simp)
  · rw [e] at h4; exact h4.resolve_left (by simp)
  · rw [e] at h5; exact zeroB_eq (h5.resolve_left (by simp))
  · rw [e] at h6; exact List.eq_nil_of_length_eq_zero (h6.resolve_left (by simp))
  · rw [e] at h7; have h := h7.resolve_left (by simp); exact ⟨h.1.1.1, zeroB_eq h.1.1.2, zeroB_eq h.1.2, h.2⟩
  · rw [e] at h8; exact h8.resolve_left (by simp)
theorem rightP_absent {m : Msg} {p : Parts} (h : rightP m p = true) : absentB m p = true ∧ listB m.refs = true := by
  unfold rightP at h
  simp only [Bool.and_eq_true, Bool.not_eq_true', Bool.or_eq_false_iff, Bool.not_eq_false'] at h
  exact ⟨h.1.1.1.1.2, h.1.1.1.2⟩
theorem forceB_le (f : Bool) : (forceB f).toNat ≤ 1 ∧ decide ((forceB f).toNat = 1) = f := by cases f <;> exact ⟨by decide, by decide⟩
abbrev msg0 (k : UInt8) (s : Int) : Msg := ⟨k, s, [], [], [], 0, 0, zid, [], [], zid, zid, false, 0⟩
def IdsOk (m : Msg) : Prop := (∀ x ∈ m.wants, x.length = 32) ∧ ∀ x ∈ m.haves, x.length = 32
theorem listB_old {l : List Upd} (h : listB l = true) : ∀ u ∈ l, u.name.length ≤ 32 ∧ u.old = zid := by
  classical
  intro u hu
  refine ⟨(listB_facts h).2 u hu, ?_⟩
  unfold listB at h
  have h1 := of_decide_eq_true h
  obtain ⟨i, hi, rfl⟩ := List.getElem_of_mem hu
  have h2 := (h1.1 i hi).1
  rw [List.getD_eq_getElem?_getD, List.getElem?_eq_getElem hi] at h2
  unfold badB at h2
  simp only [Option.getD_some, Bool.or_eq_false_iff, Bool.not_eq_false'] at h2
  exact zeroB_eq h2.1.2
theorem restP_enc {m : Msg} (hR : rightB m = true) (hI : IdsOk m) {b r : Bs} {i : Nat} (hb : b.drop i = tailM m ++ r) : restP b (msg0 m.kind m.session) i = some (m, i + (tailM m).length) := by
  obtain ⟨p, hK, hP⟩ := rightB_get hR
  have hF := rightP_facts hP
  obtain ⟨hA, hL⟩ := rightP_absent hP
  have hU := listB_old hL
  have hB := absent_of hA
  obtain ⟨hz0, hz1⟩ := hF.size
  obtain ⟨ha0, ha1⟩ := hF.at_
  obtain ⟨hd0, hd1⟩ := hF.code
  obtain ⟨hr1, hr2⟩ := hF.refs
  have hw1 := hF.wants
  have hh1 := hF.haves
  have hb1 := hF.bytes
  have hn1 := hF.name
  obtain ⟨hI1, hI2⟩ := hI
  clear hF hA hP hL hR
  rcases kindsG_cases hK with ⟨hk, rfl⟩ | ⟨hk, rfl⟩ | ⟨hk, rfl⟩ | ⟨hk, rfl⟩ | ⟨hk, rfl⟩ | ⟨hk, rfl⟩ | ⟨hk, rfl⟩ | ⟨hk, rfl⟩ <;> clear hK
  · have ht : tailM m = [] := by unfold tailM; rw [hk]; simp
    rw [ht, restP1 (m := msg0 m.kind m.session) hk]
    have h1 := hB.refs rfl
    have h2 := hB.ids rfl
    have h3 := hB.size rfl
    have h4 := hB.at_ rfl
    have h5 := hB.id rfl
    have h6 := hB.bytes rfl
    have h7 := hB.push rfl
    have h8 := hB.code rfl
    clear hB hU hb1 hn1 hI1 hI2 hr2
    obtain ⟨k, s, r_, w, h, z, a, d, c, n, o, n2, f, e⟩ := m
    simp only at h1 h2 h3 h4 h5 h6 h7 h8
    obtain ⟨h2a, h2b⟩ := h2
    obtain ⟨h7a, h7b, h7c, h7d⟩ := h7
    subst h1 h2a h2b h3 h4 h5 h6 h7a h7b h7c h7d h8
    rfl
  · have ht : tailM m = Lib.uvarint m.refs.length ++ m.refs.flatMap updB := by unfold tailM; rw [hk]; simp
    rw [ht] at hb ⊢
    rw [restP2 (m := msg0 m.kind m.session) hk]
    rw [updsP_d hb hr1 hU, Option.bind_some]
    have h2 := hB.ids rfl
    have h3 := hB.size rfl
    have h4 := hB.at_ rfl
    have h5 := hB.id rfl
    have h6 := hB.bytes rfl
    have h7 := hB.push rfl
    have h8 := hB.code rfl
    clear hB hU hb1 hn1 hI1 hI2 hr2
    obtain ⟨k, s, r_, w, h, z, a, d, c, n, o, n2, f, e⟩ := m
    simp only at h2 h3 h4 h5 h6 h7 h8
    obtain ⟨h2a, h2b⟩ := h2
    obtain ⟨h7a, h7b, h7c, h7d⟩ := h7
    subst h2a h2b h3 h4 h5 h6 h7a h7b h7c h7d h8
    rfl
  · have ht : tailM m = idsB m.wants ++ idsB m.haves := by unfold tailM; rw [hk]; simp
    rw [ht] at hb ⊢
    rw [restP3 (m := msg0 m.kind m.session) hk]
    simp only [List.append_assoc] at hb
    rw [idsP_d hb hw1 hI1, Option.bind_some]
    have e1 := dropOf hb
    rw [idsP_d e1 hh1 hI2, Option.bind_some]
    have h1 := hB.refs rfl
    have h3 := hB.size rfl
    have h4 := hB.at_ rfl
    have h5 := hB.id rfl
    have h6 := hB.bytes rfl
    have h7 := hB.push rfl
    have h8 := hB.code rfl
    clear hB hU hb1 hn1 hI1 hI2 hr2
    obtain ⟨k, s, r_, w, h, z, a, d, c, n, o, n2, f, e⟩ := m
    simp only at h1 h3 h4 h5 h6 h7 h8
    obtain ⟨h7a, h7b, h7c, h7d⟩ := h7
    subst h1 h3 h4 h5 h6 h7a h7b h7c h7d h8
    simp only [List.length_append, Nat.add_assoc]
  · have ht : tailM m = Lib.uvarint m.size.toNat ++ m.id.1 := by unfold tailM; rw [hk]; simp
    rw [ht] at hb ⊢
    rw [restP4 (m := msg0 m.kind m.session) hk]
    simp only [List.append_assoc] at hb
    rw [numP_d hb (by omega), Option.bind_some]
    have e1 := dropOf hb
    rw [idP_d e1, Option.bind_some]
    rw [Int.toNat_of_nonneg hz0]
    have h1 := hB.refs rfl
    have h2 := hB.ids rfl
    have h4 := hB.at_ rfl
    have h6 := hB.bytes rfl
    have h7 := hB.push rfl
    have h8 := hB.code rfl
    clear hB hU hb1 hn1 hI1 hI2 hr2
    obtain ⟨k, s, r_, w, h, z, a, d, c, n, o, n2, f, e⟩ := m
    simp only at h1 h2 h4 h6 h7 h8
    obtain ⟨h2a, h2b⟩ := h2
    obtain ⟨h7a, h7b, h7c, h7d⟩ := h7
    subst h1 h2a h2b h4 h6 h7a h7b h7c h7d h8
    simp only [List.length_append, Nat.add_assoc]
  · have ht : tailM m = Lib.uvarint m.at_.toNat := by unfold tailM; rw [hk]; simp
    rw [ht] at hb ⊢
    rw [restP5 (m := msg0 m.kind m.session) hk]
    rw [numP_d hb (by omega), Option.bind_some]
    rw [Int.toNat_of_nonneg ha0]
    have h1 := hB.refs rfl
    have h2 := hB.ids rfl
    have h3 := hB.size rfl
    have h5 := hB.id rfl
    have h6 := hB.bytes rfl
    have h7 := hB.push rfl
    have h8 := hB.code rfl
    clear hB hU hb1 hn1 hI1 hI2 hr2
    obtain ⟨k, s, r_, w, h, z, a, d, c, n, o, n2, f, e⟩ := m
    simp only at h1 h2 h3 h5 h6 h7 h8
    obtain ⟨h2a, h2b⟩ := h2
    obtain ⟨h7a, h7b, h7c, h7d⟩ := h7
    subst h1 h2a h2b h3 h5 h6 h7a h7b h7c h7d h8
    rfl
  · have ht : tailM m = Lib.uvarint m.at_.toNat ++ textB m.bytes := by unfold tailM; rw [hk]; simp
    rw [ht] at hb ⊢
    rw [restP6 (m := msg0 m.kind m.session) hk]
    simp only [List.append_assoc] at hb
    rw [numP_d hb (by omega), Option.bind_some]
    have e1 := dropOf hb
    rw [txtP_d e1 (hb1 rfl) (by omega), Option.bind_some]
    rw [Int.toNat_of_nonneg ha0]
    have h1 := hB.refs rfl
    have h2 := hB.ids rfl
    have h3 := hB.size rfl
    have h5 := hB.id rfl
    have h7 := hB.push rfl
    have h8 := hB.code rfl
    clear hB hU hb1 hn1 hI1 hI2 hr2
    obtain ⟨k, s, r_, w, h, z, a, d, c, n, o, n2, f, e⟩ := m
    simp only at h1 h2 h3 h5 h7 h8
    obtain ⟨h2a, h2b⟩ := h2
    obtain ⟨h7a, h7b, h7c, h7d⟩ := h7
    subst h1 h2a h2b h3 h5 h7a h7b h7c h7d h8
    simp only [List.length_append, Nat.add_assoc]
  · have ht : tailM m = Lib.uvarint m.size.toNat ++ (m.id.1 ++ (textB m.name ++ (m.old.1 ++ (m.new.1 ++ [forceB m.force])))) := by unfold tailM; rw [hk]; simp
    rw [ht] at hb ⊢
    rw [restP7 (m := msg0 m.kind m.session) hk]
    simp only [List.append_assoc] at hb
    rw [numP_d hb (by omega), Option.bind_some]
    have e1 := dropOf hb
    rw [idP_d e1, Option.bind_some]
    have e2 := dropOf e1
    rw [txtP_d e2 (hn1 rfl) (by omega), Option.bind_some]
    have e3 := dropOf e2
    rw [idP_d e3, Option.bind_some]
    have e4 := dropOf e3
    rw [idP_d e4, Option.bind_some]
    have e5 := dropOf e4
    rw [byteP_d e5, Option.bind_some]
    rw [if_pos (forceB_le m.force).1, Int.toNat_of_nonneg hz0]
    simp only [(forceB_le m.force).2]
    have h1 := hB.refs rfl
    have h2 := hB.ids rfl
    have h4 := hB.at_ rfl
    have h6 := hB.bytes rfl
    have h8 := hB.code rfl
    clear hB hU hb1 hn1 hI1 hI2 hr2
    obtain ⟨k, s, r_, w, h, z, a, d, c, n, o, n2, f, e⟩ := m
    simp only at h1 h2 h4 h6 h8
    obtain ⟨h2a, h2b⟩ := h2
    subst h1 h2a h2b h4 h6 h8
    simp only [List.length_append, List.length_singleton, Nat.add_assoc]
  · have ht : tailM m = Lib.uvarint m.code.toNat := by unfold tailM; rw [hk]; simp
    rw [ht] at hb ⊢
    rw [restP8 (m := msg0 m.kind m.session) hk]
    rw [numP_d hb (by omega), Option.bind_some]
    rw [Int.toNat_of_nonneg hd0]
    have h1 := hB.refs rfl
    have h2 := hB.ids rfl
    have h3 := hB.size rfl
    have h4 := hB.at_ rfl
    have h5 := hB.id rfl
    have h6 := hB.bytes rfl
    have h7 := hB.push rfl
    clear hB hU hb1 hn1 hI1 hI2 hr2
    obtain ⟨k, s, r_, w, h, z, a, d, c, n, o, n2, f, e⟩ := m
    simp only at h1 h2 h3 h4 h5 h6 h7
    obtain ⟨h2a, h2b⟩ := h2
    obtain ⟨h7a, h7b, h7c, h7d⟩ := h7
    subst h1 h2a h2b h3 h4 h5 h6 h7a h7b h7c h7d
    rfl
theorem decP_more {m : Msg} (hR : rightB m = true) (hI : IdsOk m) (r : Bs) : decP (encB m ++ r) = if r = [] then some m else none := by
  obtain ⟨p, hK, hP⟩ := rightB_get hR
  obtain ⟨h0, h1⟩ := (rightP_facts hP).session
  have e0 : (encB m ++ r).drop 0 = m.kind :: (Lib.uvarint m.session.toNat ++ (tailM m ++ r)) := by unfold encB; simp
  have e1 : (encB m ++ r).drop 1 = Lib.uvarint m.session.toNat ++ (tailM m ++ r) := dropOf (u := [m.kind]) e0
  have e2 := dropOf e1
  rw [decP_eq (byteP_d e0) hK (numP_d e1 (by omega)), show ((m.session.toNat : Nat) : Int) = m.session from Int.toNat_of_nonneg h0, restP_enc hR hI e2, Option.bind_some]
  have hl : (encB m).length = 1 + (Lib.uvarint m.session.toNat).length + (tailM m).length := by unfold encB; simp; omega
  by_cases hr : r = []
  · subst hr
    rw [if_pos ⟨by rw [List.append_nil, hl], hR⟩, if_pos rfl]
  · have := List.length_pos_iff.2 hr
    rw [if_neg (fun h => by have := h.1; rw [List.length_append, hl] at this; omega), if_neg hr]
theorem decP_enc {m : Msg} (hR : rightB m = true) (hI : IdsOk m) : decP (encB m) = some m := by
  have := decP_more hR hI []
  rwa [List.append_nil, if_pos rfl] at this
theorem lebDec_back : ∀ (l : Bs) (k : Nat) (x : Nat × Nat), lebDec k l = some x → l = Lib.uvarint x.1 ++ l.drop x.2 ∧ (0 < k → 0 < x.1)
  | [], k, x, h => by simp [lebDec] at h
  | c :: r, k, x, h => by
    have hc := c.toNat_lt
    unfold lebDec at h
    split at h
    · split at h
      · cases h
      · obtain ⟨y, hy, rfl⟩ := Option.map_eq_some_iff.1 h
        obtain ⟨h1, h2⟩ := lebDec_back r (k + 1) y hy
        have h2 := h2 (by omega)
        have e1 : (c.toNat - 128 + 128 * y.1) % 128 + 128 = c.toNat := by omega
        have e2 : (c.toNat - 128 + 128 * y.1) / 128 = y.1 := by omega
        refine ⟨?_, fun _ => by simp only; omega⟩
        simp only
        rw [Lib.uvarint_big (by omega), e1, e2, List.drop_succ_cons, List.cons_append, ← h1]
        simp
    · split at h
      · cases h
      · rename_i h1 h2
        cases h
        refine ⟨?_, fun _ => by simp only; omega⟩
        simp only
        rw [Lib.uvarint_small (by omega)]
        simp
theorem byteP_b {b : Bs} {i n : Nat} {c : UInt8} (h : byteP b i = some (c, n)) : b.drop i = [c] ++ b.drop n := by
  unfold byteP at h
  split at h
  · cases h
    rename_i hi
    rw [drop_cons 0 hi]
    rfl
  · cases h
theorem numP_b {b : Bs} {i n k : Nat} (h : numP b i = some (k, n)) : b.drop i = Lib.uvarint k ++ b.drop n := by
  unfold numP at h
  obtain ⟨x, hx, h2⟩ := Option.map_eq_some_iff.1 h
  cases h2
  have := (lebDec_back _ _ _ hx).1
  rwa [List.drop_drop] at this
theorem idP_b {b : Bs} {i n : Nat} {x : Id32} (h : idP b i = some (x, n)) : b.drop i = x.1 ++ b.drop n := by
  unfold idP at h
  split at h
  · cases h
    show b.drop i = (b.drop i).take 32 ++ b.drop (i + 32)
    rw [← List.drop_drop, List.take_append_drop]
  · cases h
theorem txtP_b {b s : Bs} {i n most : Nat} (h : txtP b i most = some (s, n)) : b.drop i = textB s ++ b.drop n := by
  unfold txtP at h
  split at h
  · cases h
  · rename_i x hx
    split at h
    · cases h
    · split at h
      · cases h
      · cases h
        have h1 := (lebDec_back _ _ _ hx).1
        rw [List.drop_drop] at h1
        have hl : ((b.drop (i + x.2)).take x.1).length = x.1 := by rw [List.length_take, List.length_drop]; omega
        unfold textB
        rw [hl, List.append_assoc, ← List.drop_drop (i := x.1), List.take_append_drop]
        exact h1
theorem updP_b {b : Bs} {i n : Nat} {u : Upd} (h : updP b i = some (u, n)) : b.drop i = updB u ++ b.drop n := by
  unfold updP at h
  simp only [Option.bind_eq_some_iff] at h
  obtain ⟨⟨c, j1⟩, h1, ⟨s, j2⟩, h2, ⟨x, j3⟩, h3, h4⟩ := h
  cases h4
  rw [byteP_b h1, txtP_b h2, idP_b h3]
  unfold updB
  simp only [List.append_assoc]
theorem itP_b {α : Type} {f : α → Bs} {Q : α → Prop} {b : Bs} {st : List α × Nat → Option (List α × Nat)} (hst : ∀ a i t, st (a, i) = some t → ∃ x, t.1 = a ++ [x] ∧ Q x ∧ b.drop i = f x ++ b.drop t.2) : ∀ (n : Nat) (a : List α) (i : Nat) (t : List α × Nat), itP st n (a, i) = some t → ∃ l, t.1 = a ++ l ∧ l.length = n ∧ (∀ x ∈ l, Q x) ∧ b.drop i = l.flatMap f ++ b.drop t.2
  | 0, a, i, t, h => by cases h; exact ⟨[], by simp, rfl, (fun x hx => by cases hx), rfl⟩
  | n + 1, a, i, t, h => by
    obtain ⟨u, h1, h2⟩ := itP_succ h
    obtain ⟨l, e1, e2, e3, e4⟩ := itP_b hst n a i u h1
    obtain ⟨x, f1, f2, f3⟩ := hst u.1 u.2 t h2
    refine ⟨l ++ [x], by rw [f1, e1, List.append_assoc], by simp [e2], fun y hy => ?_, ?_⟩
    · rcases List.mem_append.1 hy with hy | hy
      · exact e3 y hy
      · rw [List.mem_singleton.1 hy]; exact f2
    · rw [e4, f3, List.flatMap_append, List.flatMap_singleton, List.append_assoc]
theorem listP_b {α : Type} {f : α → Bs} {Q : α → Prop} {b : Bs} {most i : Nat} {st : List α × Nat → Option (List α × Nat)} {t : List α × Nat} (hst : ∀ a i t, st (a, i) = some t → ∃ x, t.1 = a ++ [x] ∧ Q x ∧ b.drop i = f x ++ b.drop t.2) (h : listP b i most st [] = some t) : b.drop i = (Lib.uvarint t.1.length ++ t.1.flatMap f) ++ b.drop t.2 ∧ ∀ x ∈ t.1, Q x := by
  obtain ⟨n, j, h1, -, h2⟩ := listP_get h
  obtain ⟨l, e1, e2, e3, e4⟩ := itP_b hst n [] j t h2
  rw [List.nil_append] at e1
  rw [e1, numP_b h1, e2, e4, List.append_assoc]
  exact ⟨rfl, e3⟩
theorem updsP_b {b : Bs} {i : Nat} {t : List Upd × Nat} (h : listP b i 128 (addUpd b) [] = some t) : b.drop i = (Lib.uvarint t.1.length ++ t.1.flatMap updB) ++ b.drop t.2 :=
  (listP_b (Q := fun _ => True) (f := updB) (fun a i t h => by
    unfold addUpd at h
    obtain ⟨x, hx, h2⟩ := Option.map_eq_some_iff.1 h
    cases h2
    exact ⟨x.1, rfl, trivial, updP_b hx⟩) h).1
theorem idsP_b {b : Bs} {i : Nat} {t : List Bs × Nat} (h : listP b i 65536 (addId b) [] = some t) : b.drop i = idsB t.1 ++ b.drop t.2 ∧ ∀ x ∈ t.1, x.length = 32 :=
  listP_b (Q := fun x => x.length = 32) (f := fun x => x) (fun a i t h => by
    unfold addId at h
    obtain ⟨x, hx, h2⟩ := Option.map_eq_some_iff.1 h
    cases h2
    exact ⟨x.1.1, rfl, x.1.2, idP_b hx⟩) h
theorem restP_b {k : UInt8} {s : Int} {b : Bs} {i : Nat} {z : Msg × Nat} (h : restP b (msg0 k s) i = some z) : b.drop i = tailM z.1 ++ b.drop z.2 ∧ z.1.kind = k ∧ z.1.session = s ∧ IdsOk z.1 := by
  have hn : IdsOk (msg0 k s) := ⟨fun x hx => (by cases hx), fun x hx => (by cases hx)⟩
  have key : ∀ (m : Msg) (j : Nat) (t : Bs), z = (m, j) → m.kind = k → m.session = s → IdsOk m → tailM m = t → b.drop i = t ++ b.drop j → b.drop i = tailM z.1 ++ b.drop z.2 ∧ z.1.kind = k ∧ z.1.session = s ∧ IdsOk z.1 := by
    rintro m j t rfl h1 h2 h3 rfl h4
    exact ⟨h4, h1, h2, h3⟩
  unfold restP at h
  split at h
  · rename_i hk
    replace hk : k = 1 := hk
    cases h
    exact key _ _ [] rfl rfl rfl hn (by unfold tailM; simp only [hk]; simp) rfl
  · split at h
    · rename_i hk
      replace hk : k = 2 := hk
      simp only [Option.bind_eq_some_iff] at h
      obtain ⟨⟨l, j⟩, h1, h2⟩ := h
      cases h2
      exact key _ _ (Lib.uvarint l.length ++ l.flatMap updB) rfl rfl rfl hn (by unfold tailM; simp only [hk]; simp) (updsP_b h1)
    · split at h
      · rename_i hk
        replace hk : k = 3 := hk
        simp only [Option.bind_eq_some_iff] at h
        obtain ⟨⟨l, j⟩, h1, ⟨l2, j2⟩, h2, h3⟩ := h
        cases h3
        obtain ⟨g1, g2⟩ := idsP_b h1
        obtain ⟨g3, g4⟩ := idsP_b h2
        refine key _ _ (idsB l ++ idsB l2) rfl rfl rfl ⟨g2, g4⟩ (by unfold tailM; simp only [hk]; simp) ?_
        rw [g1, g3, List.append_assoc]
      · split at h
        · rename_i hk
          replace hk : k = 4 := hk
          simp only [Option.bind_eq_some_iff] at h
          obtain ⟨⟨n, j⟩, h1, ⟨x, j2⟩, h2, h3⟩ := h
          cases h3
          refine key _ _ (Lib.uvarint n ++ x.1) rfl rfl rfl hn (by unfold tailM; simp only [hk]; simp) ?_
          rw [numP_b h1, idP_b h2, List.append_assoc]
        · split at h
          · rename_i hk
            replace hk : k = 5 := hk
            simp only [Option.bind_eq_some_iff] at h
            obtain ⟨⟨n, j⟩, h1, h2⟩ := h
            cases h2
            exact key _ _ (Lib.uvarint n) rfl rfl rfl hn (by unfold tailM; simp only [hk]; simp) (numP_b h1)
          · split at h
            · rename_i hk
              replace hk : k = 6 := hk
              simp only [Option.bind_eq_some_iff] at h
              obtain ⟨⟨n, j⟩, h1, ⟨x, j2⟩, h2, h3⟩ := h
              cases h3
              refine key _ _ (Lib.uvarint n ++ textB x) rfl rfl rfl hn (by unfold tailM; simp only [hk]; simp) ?_
              rw [numP_b h1, txtP_b h2, List.append_assoc]
            · split at h
              · rename_i hk
                replace hk : k = 7 := hk
                simp only [Option.bind_eq_some_iff] at h
                obtain ⟨⟨n, j⟩, h1, ⟨x, j2⟩, h2, ⟨y, j3⟩, h3, ⟨o, j4⟩, h4, ⟨n2, j5⟩, h5, ⟨f, j6⟩, h6, h7⟩ := h
                split at h7
                · rename_i hf
                  cases h7
                  have hfb : forceB (decide (f.toNat = 1)) = f := by
                    by_cases e : f.toNat = 1
                    · rw [decide_eq_true e]; exact (UInt8.toNat_inj.1 e).symm
                    · rw [decide_eq_false e]; exact (UInt8.toNat_inj.1 (show f.toNat = 0 by have : f.toNat ≤ 1 := hf; omega)).symm
                  refine key _ _ (Lib.uvarint n ++ (x.1 ++ (textB y ++ (o.1 ++ (n2.1 ++ [f]))))) rfl rfl rfl hn (by unfold tailM; simp only [hk, hfb, Int.toNat_natCast]; simp) ?_
                  rw [numP_b h1, idP_b h2, txtP_b h3, idP_b h4, idP_b h5, byteP_b h6]
                  simp only [List.append_assoc]
                · cases h7
              · split at h
                · rename_i hk
                  replace hk : k = 8 := hk
                  simp only [Option.bind_eq_some_iff] at h
                  obtain ⟨⟨n, j⟩, h1, h2⟩ := h
                  cases h2
                  exact key _ _ (Lib.uvarint n) rfl rfl rfl hn (by unfold tailM; simp only [hk]; simp) (numP_b h1)
                · cases h
theorem decP_back {b : Bs} {m : Msg} (h : decP b = some m) : rightB m = true ∧ encB m = b ∧ IdsOk m := by
  unfold decP at h
  rw [Option.bind_eq_some_iff] at h
  obtain ⟨⟨k, j⟩, h1, h⟩ := h
  split at h
  · rw [Option.bind_eq_some_iff] at h
    obtain ⟨⟨s, j2⟩, h2, h⟩ := h
    rw [Option.bind_eq_some_iff] at h
    obtain ⟨⟨m', j3⟩, h3, h⟩ := h
    split at h
    · rename_i hq
      obtain rfl : m' = m := Option.some.inj h
      obtain ⟨g1, g2, g3, g4⟩ := restP_b h3
      refine ⟨hq.2, ?_, g4⟩
      have e : b.drop 0 = [k] ++ (Lib.uvarint s ++ (tailM m' ++ b.drop j3)) := by rw [byteP_b h1, numP_b h2, g1]
      rw [show j3 = b.length from hq.1, List.drop_length, List.append_nil, List.drop_zero] at e
      rw [e]
      unfold encB
      rw [show m'.kind = k from g2, show m'.session = ((s : Nat) : Int) from g3]
      simp
    · cases h
  · cases h
theorem decP_cut {m : Msg} (hR : rightB m = true) (hI : IdsOk m) {n : Nat} (hn : n < (encB m).length) : decP ((encB m).take n) = none := by
  cases hd : decP ((encB m).take n) with
  | none => rfl
  | some m' =>
    obtain ⟨h1, h2, h3⟩ := decP_back hd
    have h4 := decP_more h1 h3 ((encB m).drop n)
    rw [h2, List.take_append_drop, decP_enc hR hI, if_neg (fun e => by have := congrArg List.length e; rw [List.length_drop, List.length_nil] at this; omega)] at h4
    cases h4
open Go.RowKit
def updE (x y : Upd) : Bool := decide (x.kind = y.kind) && (decide (x.name = y.name) && (decide (x.old = y.old) && (decide (x.new = y.new) && true)))
theorem updE_iff {x y : Upd} : updE x y = true ↔ x = y := by
  obtain ⟨a, b, c, d⟩ := x
  obtain ⟨e, f, g, h⟩ := y
  simp [updE]
instance : DecidableEq Upd := fun _ _ => decidable_of_iff _ updE_iff
theorem updE_eq (x y : Upd) : updE x y = decide (x = y) := by
  rw [Bool.eq_iff_iff, updE_iff, decide_eq_true_iff]
theorem eqUpd (w : World) (x y : Upd) : (Op.equalIn 10000 67 (.agg (updC x).toArray) (.agg (updC y).toArray)).run Tryd.prog w = .ok (decide (x = y)) w := by
  refine (run_equalIn_struct w 9999 _ _ _ (by kernel_rfl) (by kernel_rfl)).trans ?_
  rw [← updE_eq]
  exact eqS_step (t := 5) (o := 0) (r := [(9, 1), (25, 2), (25, 34)]) (by kernel_rfl) (part_one (by kernel_rfl) (upd_g0 x)) (part_one (by kernel_rfl) (upd_g0 y)) (eqF_u8 (d := 9998) (by kernel_rfl)) fun _ h =>
    eqS_step h (part_one (by kernel_rfl) (upd_g1 x)) (part_one (by kernel_rfl) (upd_g1 y)) (eqF_str (d := 9998) (by kernel_rfl)) fun _ h =>
    eqS_step h (part_id (by kernel_rfl) (by kernel_rfl) (upd_m2 x) (upd_n2 x) x.old.2) (part_id (by kernel_rfl) (by kernel_rfl) (upd_m2 y) (upd_n2 y) y.old.2) (eqF_id (d := 9997) (e := 5) (by kernel_rfl) (by kernel_rfl) (by kernel_rfl)) fun _ h =>
    eqS_step h (part_id (by kernel_rfl) (by kernel_rfl) (upd_m3 x) (upd_n3 x) x.new.2) (part_id (by kernel_rfl) (by kernel_rfl) (upd_m3 y) (upd_n3 y) y.new.2) (eqF_id (d := 9997) (e := 5) (by kernel_rfl) (by kernel_rfl) (by kernel_rfl)) fun _ h => eqS_nil h
def bigB (m : Msg) : Bool := (((decide (140 < m.refs.length) || decide (200 < m.wants.length)) || decide (200 < m.haves.length)) || decide (400 < m.bytes.length)) || decide (100 < m.name.length)
def lightB (m : Msg) : Bool := !bigB m && m.refs.all fun u => !decide (100 < u.name.length)
structure LightM (m : Msg) : Prop where
  refs : m.refs.length ≤ 140
  wants : m.wants.length ≤ 200
  haves : m.haves.length ≤ 200
  bytes : m.bytes.length ≤ 400
  name : m.name.length ≤ 100
  names : ∀ u ∈ m.refs, u.name.length ≤ 100
theorem bigB_no {m : Msg} (h : bigB m = false) : m.refs.length ≤ 140 ∧ m.wants.length ≤ 200 ∧ m.haves.length ≤ 200 ∧ m.bytes.length ≤ 400 ∧ m.name.length ≤ 100 := by
  unfold bigB at h
  simp only [Bool.or_eq_false_iff, decide_eq_false_iff_not] at h
  omega
theorem lightB_get {m : Msg} (h : lightB m = true) : LightM m := by
  unfold lightB at h
  simp only [Bool.and_eq_true, Bool.not_eq_true', List.all_eq_true, decide_eq_false_iff_not] at h
  obtain ⟨h1, h2, h3, h4, h5⟩ := bigB_no h.1
  exact ⟨h1, h2, h3, h4, h5, fun u hu => by have := h.2 u hu; omega⟩
theorem lightB_big {m : Msg} (h : bigB m = true) : lightB m = false := by unfold lightB; rw [h]; rfl
theorem lightB_name {m : Msg} {i : Nat} (hi : i < m.refs.length) (h : 100 < (m.refs.getD i dUpd).name.length) : lightB m = false := by
  unfold lightB
  rw [Bool.and_eq_false_iff]
  refine .inr ?_
  rw [List.all_eq_false]
  exact ⟨_, getD_mem dUpd hi, by simpa using h⟩
theorem lightB_all {m : Msg} (h : bigB m = false) (h2 : (m.refs.take m.refs.length).all (fun u => !decide (100 < u.name.length)) = true) : lightB m = true := by
  unfold lightB
  rw [List.take_length] at h2
  rw [h, h2]
  rfl
theorem LightM.lt {m : Msg} (h : LightM m) : MsgLt m :=
  ⟨Nat.le_trans h.refs (by decide), fun u hu => Nat.le_trans (h.names u hu) (by decide), Nat.le_trans h.wants (by decide), Nat.le_trans h.haves (by decide), Nat.le_trans h.name (by decide)⟩
theorem MsgAt.ids {w : World} {x : MsgV} (h : MsgAt w x) : IdsOk x.1 := ⟨h.wants.lens, h.haves.lens⟩
theorem rightB_lt {m : Msg} (h : rightB m = true) : MsgLt m := by
  obtain ⟨p, hK, hP⟩ := rightB_get h
  have hF := rightP_facts hP
  obtain ⟨hA, -⟩ := rightP_absent hP
  have hB := absent_of hA
  refine ⟨Nat.le_trans hF.refs.1 (by decide), fun u hu => Nat.le_trans (hF.refs.2 u hu) (by decide), Nat.le_trans hF.wants (by decide), Nat.le_trans hF.haves (by decide), ?_⟩
  cases hp : p.push with
  | true => exact Nat.le_trans (hF.name hp) (by decide)
  | false => rw [(hB.push hp).1]; exact Nat.zero_le _
theorem nil_lt (k : UInt8) (s : Int) : MsgLt (msg0 k s) := ⟨Nat.zero_le _, fun u hu => (by cases hu), Nat.zero_le _, Nat.zero_le _, Nat.zero_le _⟩
theorem encB_len {m : Msg} (hR : rightB m = true) (hI : IdsOk m) : (encB m).length ≤ 10000000 := by
  obtain ⟨p, hK, hP⟩ := rightB_get hR
  have hF := rightP_facts hP
  obtain ⟨hz0, hz1⟩ := hF.size
  obtain ⟨ha0, ha1⟩ := hF.at_
  obtain ⟨hd0, hd1⟩ := hF.code
  obtain ⟨hs0, hs1⟩ := hF.session
  obtain ⟨hr1, hr2⟩ := hF.refs
  have hb1 := hF.bytes
  have hn1 := hF.name
  have hu1 := uvarint_len9 (n := m.session.toNat) (by omega)
  have hu2 := uvarint_len9 (n := m.size.toNat) (by omega)
  have hu3 := uvarint_len9 (n := m.at_.toNat) (by omega)
  have hu4 := uvarint_len9 (n := m.code.toNat) (by omega)
  have hu5 := uvarint_len9 (n := m.refs.length) (by omega)
  have hu6 := updsB_len hr2
  have hu7 := idsB_len hI.1 hF.wants
  have hu8 := idsB_len hI.2 hF.haves
  have hd := m.id.2
  have ho := m.old.2
  have hw := m.new.2
  have key : (tailM m).length ≤ 9999000 := by
    unfold tailM
    rcases kindsG_cases hK with ⟨hk, rfl⟩ | ⟨hk, rfl⟩ | ⟨hk, rfl⟩ | ⟨hk, rfl⟩ | ⟨hk, rfl⟩ | ⟨hk, rfl⟩ | ⟨hk, rfl⟩ | ⟨hk, rfl⟩ <;> rw [hk]
    · simp
    · simp [-List.length_flatMap]; omega
    · simp; omega
    · simp; omega
    · simp; omega
    · have := textB_le (s := m.bytes) (by have := hb1 rfl; omega)
      have := hb1 rfl
      simp; omega
    · have := textB_le (s := m.name) (by have := hn1 rfl; omega)
      have := hn1 rfl
      simp; omega
    · simp; omega
  unfold encB
  simp only [List.length_cons, List.length_append]
  omega
def partsE (m n : Msg) : Bool := (((((((((((decide (m.kind.toNat = n.kind.toNat) && decide (m.session = n.session)) && decide (m.wants = n.wants)) && decide (m.haves = n.haves)) && decide (m.size = n.size)) && decide (m.at_ = n.at_)) && decide (m.id.1 = n.id.1)) && decide (m.bytes = n.bytes)) && decide (m.name = n.name)) && decide (m.old.1 = n.old.1)) && decide (m.new.1 = n.new.1)) && (m.force == n.force)) && decide (m.code = n.code)
open Classical in
noncomputable def sameB (m n : Msg) : Bool := decide (m = n)
theorem sameB_refs {m n : Msg} (h : m.refs ≠ n.refs) : sameB m n = false := by
  classical
  exact decide_eq_false fun e => h (by rw [e])
theorem sameB_parts {m n : Msg} (h : m.refs = n.refs) : partsE m n = sameB m n := by
  classical
  obtain ⟨k, s, r, w, v, z, a, i, b, t, o, q, f, c⟩ := m
  obtain ⟨k', s', r', w', v', z', a', i', b', t', o', q', f', c'⟩ := n
  simp only at h
  subst h
  unfold sameB partsE
  rw [Bool.eq_iff_iff]
  simp only [Bool.and_eq_true, decide_eq_true_eq, beq_iff_eq, Msg.mk.injEq, UInt8.toNat_inj, Subtype.ext_iff]
  constructor
  · rintro ⟨⟨⟨⟨⟨⟨⟨⟨⟨⟨⟨⟨rfl, rfl⟩, rfl⟩, rfl⟩, rfl⟩, rfl⟩, h1⟩, rfl⟩, rfl⟩, h2⟩, h3⟩, rfl⟩, rfl⟩
    exact ⟨rfl, rfl, trivial, rfl, rfl, rfl, rfl, h1, rfl, rfl, h2, h3, rfl, rfl⟩
  · rintro ⟨rfl, rfl, -, rfl, rfl, rfl, rfl, h1, rfl, rfl, h2, h3, rfl, rfl⟩
    exact ⟨⟨⟨⟨⟨⟨⟨⟨⟨⟨⟨⟨rfl, rfl⟩, rfl⟩, rfl⟩, rfl⟩, rfl⟩, h1⟩, rfl⟩, rfl⟩, h2⟩, h3⟩, rfl⟩, rfl⟩
theorem sameB_self (m : Msg) : sameB m m = true := by
  classical
  exact decide_eq_true rfl
def DecR (m : Msg) (c : Nat) : Option Msg → Prop
  | some n => c = 0 ∧ m = n
  | none => c = 6 ∧ m = msg0 0 0
theorem DecRes.all {w : World} {X : MsgV} {c : Nat} {o : Option Msg} (h : DecRes w X c o) : MsgAt w X ∧ DecR X.1 c o := by
  cases o with
  | some m => exact ⟨h.2.2, h.1, h.2.1⟩
  | none =>
    obtain ⟨h1, h2⟩ := h
    subst h2
    exact ⟨⟨RG.nil _ _ _, RG.nil _ _ _, RG.nil _ _ _, RB.nil _⟩, h1, rfl⟩
theorem decode_all (w : World) (v : Value) (b : Bs) (hr : RB w v b) (hl : b.length ≤ 4611686018427387904) :
    Calls Tryd.prog 22 #[v] w fun e w' => ∃ X c, e = .returned (.tuple #[.agg (msgC X).toArray, NI c]) ∧ MsgAt w' X ∧ DecR X.1 c (decP b) ∧ Ext w w' :=
  (decode_any w v b hr hl).mono fun e w' h => by
    obtain ⟨x, rfl, X, c, rfl, h1, h2⟩ := h
    exact ⟨X, c, rfl, h1.all.1, h1.all.2, h2⟩
theorem listB_nil : listB [] = true := by
  classical
  exact decide_eq_true ⟨fun j h => (by cases h), by decide⟩
theorem setW_nil : setW [] = true := by
  classical
  have : setB [] = true := decide_eq_true (fun j _ h => (by cases h))
  unfold setW
  rw [this]
  rfl
theorem right_m1 : rightB (msg0 1 5) = true := by
  rw [rightB_some (m := msg0 1 5) (p := dParts) rfl]
  unfold rightP
  rw [listB_nil, setW_nil]
  rfl
theorem right_m8 : rightB { msg0 8 300 with code := 13 } = true := by
  rw [rightB_some (m := { msg0 8 300 with code := 13 }) (p := ⟨false, false, false, false, false, false, false, true⟩) rfl]
  unfold rightP
  show (!(((((!boundB 300 2147483647 || !absentB _ _) || !listB []) || !setW []) || !setW [])) && _) = true
  rw [listB_nil, setW_nil]
  rfl
theorem nil_ids (k : UInt8) (s c : Int) : IdsOk { msg0 k s with code := c } := ⟨fun x hx => (by cases hx), fun x hx => (by cases hx)⟩
theorem enc_m1 : encB (msg0 1 5) = [1, 5] := by
  show (1 : UInt8) :: (Lib.uvarint 5 ++ []) = _
  rw [Lib.uvarint_small (by decide)]
  rfl
theorem enc_m8 : encB { msg0 8 300 with code := 13 } = [8, 172, 2, 13] := by
  show (8 : UInt8) :: (Lib.uvarint 300 ++ Lib.uvarint 13) = _
  rw [Lib.uvarint_big (by decide), Lib.uvarint_small (show 300 / 128 < 128 by decide), Lib.uvarint_small (show 13 < 128 by decide)]
  rfl
theorem encode_m {w : World} {X : MsgV} {m : Msg} {b : Bs} (h : X.1 = m) (h2 : X.2 = ⟨.slice none 0 0, .slice none 0 0, .slice none 0 0, .slice none 0 0⟩) (hl : m.refs = [] ∧ m.wants = [] ∧ m.haves = [] ∧ m.bytes = [] ∧ m.name = []) (hR : rightB m = true) (hb : encB m = b) :
    Calls Tryd.prog 16 #[.agg (msgC X).toArray] w fun e w' => ∃ v, e = .returned (.tuple #[v, NI 0]) ∧ RB w' v b ∧ Ext w w' := by
  obtain ⟨X1, X2⟩ := X
  subst h h2 hb
  obtain ⟨e1, e2, e3, e4, e5⟩ := hl
  refine (encode_any w (X1, _) ⟨by rw [e1]; exact RG.nil _ _ _, by rw [e2]; exact RG.nil _ _ _, by rw [e3]; exact RG.nil _ _ _, by rw [e4]; exact RB.nil _⟩ (rightB_lt hR)).mono ?_
  rintro e w' ⟨v, rfl, h1, h2⟩
  rw [if_pos hR] at h1
  exact ⟨v, by rw [if_pos hR], h1, h2⟩
theorem dec_m8 : decP ([8, 172, 2, 13].take 3) = none := by
  have := decP_cut right_m8 (nil_ids 8 300 13) (n := 3) (by rw [enc_m8]; decide)
  rwa [enc_m8] at this
end Go.Proofs.YtmonlobfofkbdaaDoor
