/- Part 6 of what stands behind these statements: laws and walks of the functions that are reached. Conditions: those that each theorem names. -/
import Derived.Test.YtcegdjpdnlaleaaDoorSQ5
set_option linter.unusedVariables false
namespace Go.Proofs.YtcegdjpdnlaleaaDoor
open Go.RowKit
set_option maxRecDepth 100000
def openP (b : Bs) : Except Nat PackV := if 1048576 < b.length then .error 2 else if b.length < 36 then .error 6 else if Sha.sum (b.take (b.length - 32)) = b.drop (b.length - 32) then readP b else .error 18
def PackAt (w : World) (v : Value) (p : PackV) : Prop := ∃ g vi bo O, v = PQ g 0 ∧ p.2 = (fun k => (O k).map Prod.fst) ∧ w.heap[g]? = some (.cells ([vi, .map (some bo)]).toArray 74 (0, 0)) ∧ RG 32 Lib.byteCells w vi p.1 ∧ MapF rk objV (fun id : List UInt8 => id.length = 32) w bo O ∧ OOk w O
def OpenRes (w : World) (v : Value) : Except Nat PackV → Nat → Prop
 | .ok p, c => c = 0 ∧ PackAt w v p
 | .error e, c => c = e ∧ v = .pointer none
theorem PackAt.keep {w w' : World} {v : Value} {p : PackV} (h : PackAt w v p) (k : Ext w w') : PackAt w' v p := by
 obtain ⟨g, vi, bo, O, h1, h2, h3, h4, h5, h6⟩ := h
 exact ⟨g, vi, bo, O, h1, h2, eb k h3, h4.keep k, h5.keep k, h6.keep k⟩
theorem PackAt.keepN {w w' : World} {v c : Value} {p : PackV} {b : Nat} {T : TypeId} {fr : Nat × Nat} (h : PackAt w v p) (hb : w.heap[b]? = some (.cells ([c]).toArray T fr)) (hc : ∀ x, c ≠ B8 x) (hg : w.grownBy w' (some b)) : PackAt w' v p := by
 obtain ⟨g, vi, bo, O, h1, h2, h3, h4, h5, h6⟩ := h
 have hm := one_noB8 hb hc
 have e1 : g ≠ b := fun e => by rw [e, hb] at h3; simp at h3
 have e2 : bo ≠ b := fun e => by obtain ⟨es, cl, h, -⟩ := h5; rw [e, hb] at h; cases h
 exact ⟨g, vi, bo, O, h1, h2, (hg.block g (bl h3) (fun e => e1 (Option.some.inj e))).trans h3, h4.keepN hm hg, h5.other hg (fun e => e2 (Option.some.inj e).symm), fun id x hx => (h6 id x hx).keepN hm hg⟩
theorem pk22_al33 {d : Option Tmp} {ty : TypeId} {pos : String} {af : Array Edge} {gd : Option (Nat × Bool)} (σ : Operand → Value) (w : World) : (execOp σ ⟨d, .alloc 33, ty, pos, af, gd⟩).run Tryd.prog w = .ok (.value (PQ w.heap.size 0)) (w.alloc (.cells ([.pointer none]).toArray 33)) := by kernel_rfl
theorem pk22_al25 {d : Option Tmp} {ty : TypeId} {pos : String} {af : Array Edge} {gd : Option (Nat × Bool)} (σ : Operand → Value) (w : World) : (execOp σ ⟨d, .alloc 25, ty, pos, af, gd⟩).run Tryd.prog w = .ok (.value (PQ w.heap.size 0)) (w.alloc (.cells ([NI 0]).toArray 25)) := by kernel_rfl
theorem pk22_ty24 : Tryd.prog.underlying 24 = some (.slice 5) := by kernel_rfl
theorem pk22_isz33 : (Tryd.prog.info? 33).map (·.size) = some 1 := by kernel_rfl
theorem pk22_isz25 : (Tryd.prog.info? 25).map (·.size) = some 1 := by kernel_rfl
theorem pk22_ty33 : Tryd.prog.underlying 33 = some (.pointer 74) := by kernel_rfl
theorem pk22_ty25 : Tryd.prog.underlying 25 = some (.int .i64) := by kernel_rfl
theorem pk22_sz5 : ∀ w' : World, (sizeOf 5).run Tryd.prog w' = .ok 1 w' := fun _ => by kernel_rfl
theorem pk22_rows1_75 (ao : Option Addr) (n c : Nat) (w : World) : (Instr.buildSlice 75 1 #[(0, .slice ao n c)]).run Tryd.prog w = .ok (.slice (some ⟨w.heap.size, 0, none⟩) 1 1) (w.alloc (.cells #[.slice ao n c] 24)) := by kernel_rfl
theorem pk22_pl17 : Plain Tryd.prog 17 := fun _ _ => by kernel_rfl
theorem pk22_al38 {d : Option Tmp} {ty : TypeId} {pos : String} {af : Array Edge} {gd : Option (Nat × Bool)} (σ : Operand → Value) (w : World) : (execOp σ ⟨d, .alloc 38, ty, pos, af, gd⟩).run Tryd.prog w = .ok (.value (PQ w.heap.size 0)) (w.alloc (.cells (Lib.byteCells (List.replicate 32 0)).toArray 38)) := by kernel_rfl
theorem pk22_ty38 : Tryd.prog.underlying 38 = some (.array 32 5) := by kernel_rfl
theorem pk22_ty5 : Tryd.prog.underlying 5 = some (.int .u8) := by kernel_rfl
theorem pk22_ty9 : Tryd.prog.underlying 9 = some (.string) := by kernel_rfl
theorem pk22_pl37 : Plain Tryd.prog 37 := fun _ _ => by kernel_rfl
set_option maxHeartbeats 1600000
theorem open_any (w : World) (hG : Laid w) (v : Value) (b : Bs) (hr : RB w v b) :
  Calls Tryd.prog 15 #[v] w fun e w' => ∃ x, e = .returned x ∧ ∃ p c, x = .tuple #[p, NI c] ∧ OpenRes w' p (openP b) c ∧ Ext w w' := by
 refine calls_of_wpR (args := [v]) Tryd.func15 rfl 30 rfl (Nat.le_of_ble_eq_true rfl) ?_
 intro ρ0 hb
 have T0 : ρ0 0 = (v : Value) := hb.get 0
 clear hb
 have hE := Ext.refl w
 refine wpR_seq_k _ postP_bodyD fun K1 hK1 => (wt (oS rfl (Yk.alloc (cs := ([.pointer none]).toArray) pk22_al33 fun n2 w3 hn4 hb5 hx6 hs7 => ?_)))
 have hE := hE.trans hx6
 have hb8 := hb5; clear hb5
 have hl9 : n2 < w3.heap.size := by omega
 refine oS rfl (Yk.alloc (cs := ([NI 0]).toArray) pk22_al25 fun n10 w11 hn12 hb13 hx14 hs15 => ?_)
 have hA16 := Ext.refl w3
 have hea17 := hE
 have hz18 := hE.size
 have hlt19 := lte (bl hb8) hn12
 have hE := hE.trans hx14
 have hb8 := eb hx14 hb8
 have hA16 := hA16.trans hx14
 have hb20 := hb13; clear hb13
 have hl21 : n10 < w11.heap.size := by omega
 refine oL_ [(0, v), (2, PQ n2 0), (3, PQ n10 0)] ⟨T0, rfl, rfl, trivial⟩ fun ρ22 ⟨T0, T2, T3, _⟩ => ?_
 by_cases q1 : 1048576 < b.length
 ·have hP : openP b = .error 2 := if_pos q1
  refine tN (hK1 _ _ (wpR_seq_k _ postP_bodyD fun K23 hK23 => (sk fun K24 hK24 => (wt (oM rfl (oS rfl (Yk.lenRB pk22_ty24 (RB.of (hr.keep hE) T0) (oS rfl (Yk.eqI (a := (b.length : Nat)) (b := (1048576 : Nat)) rfl rfl (k_gtr _ _ _ _) (oL_ [(0, v), (2, PQ n2 0), (3, PQ n10 0), (7, .bool (true))] ⟨T0, T2, T3, (congrArg Value.bool (decide_eq_true (q1))), trivial⟩ fun ρ25 ⟨T0, T2, T3, T7, _⟩ => (tN (hK24 _ _ (wpF_true T7 (sk fun K26 hK26 => (wt (oS rfl (Yk.storeC (i := 0) (v := .pointer none) T2 (vr (.pointer none) rfl) hb8 (Nat.le_of_ble_eq_true rfl) pk22_isz33 rfl rfl fun w27 hb28 hg29 hs30 => ?_)))))))))))))))))
  have hE := row_fresh hE hg29 (Nat.le_trans (Nat.le_refl _) (by omega))
  clear hb8
  clear hA16
  have hb20 := kb hg29 hb20 (by omega)
  have hb8 := hb28; clear hb28
  have hl31 := bl hb8
  refine oS rfl (Yk.storeC (i := 0) (v := NI 2) T3 (vr (NI 2) rfl) hb20 (Nat.le_of_ble_eq_true rfl) pk22_isz25 rfl rfl fun w32 hb33 hg34 hs35 => ?_)
  have hE := row_fresh hE hg34 (Nat.le_trans hz18 (by omega))
  clear hb20
  have hb8 := kb hg34 hb8 (by omega)
  have hb20 := hb33; clear hb33
  have hl36 := bl hb20
  refine oL_ [(0, v), (2, PQ n2 0), (3, PQ n10 0), (7, .bool (true))] ⟨T0, T2, T3, T7, trivial⟩ fun ρ37 ⟨T0, T2, T3, T7, _⟩ => (tN (hK26 _ _ (wpF_ret (thenF_ret (postP_ret (fn := Tryd.f15) _ rfl [.pointer none, NI 2] (.tuple #[.pointer none, NI 2]) rfl ⟨ResF.cell1 T2 hb8 pk22_ty33 rfl, ResF.cell1 T3 hb20 pk22_ty25 rfl, trivial⟩ ?_)))))
  exact ⟨_, rfl, _, _, rfl, by rw [hP]; exact ⟨rfl, rfl⟩, hE⟩
 by_cases q2 : b.length < 36
 ·have hP : openP b = .error 6 := (if_neg q1).trans (if_pos q2)
  refine tN (hK1 _ _ (wpR_seq_k _ postP_bodyD fun K38 hK38 => (sk fun K39 hK39 => (wt (oM rfl (oS rfl (Yk.lenRB pk22_ty24 (RB.of (hr.keep hE) T0) (oS rfl (Yk.eqI (a := (b.length : Nat)) (b := (1048576 : Nat)) rfl rfl (k_gtr _ _ _ _) (oL_ [(0, v), (2, PQ n2 0), (3, PQ n10 0), (7, .bool (false))] ⟨T0, T2, T3, (congrArg Value.bool (decide_eq_false (q1))), trivial⟩ fun ρ40 ⟨T0, T2, T3, T7, _⟩ => (tN (hK39 _ _ (wpF_false T7 (wpF_skip (tN (hK38 _ _ (wpR_seq_k _ postP_bodyD fun K41 hK41 => (sk fun K42 hK42 => (wt (oM rfl ?_))))))))))))))))))))
  refine oS rfl (Yk.lenRB pk22_ty24 (RB.of (hr.keep hE) T0) (oS rfl (Yk.eqI (a := (b.length : Nat)) (b := (36 : Nat)) rfl rfl (k_lss _ _ _ _) (oL_ [(0, v), (2, PQ n2 0), (3, PQ n10 0), (7, .bool (false)), (10, .bool (true))] ⟨T0, T2, T3, T7, (congrArg Value.bool (decide_eq_true (q2))), trivial⟩ fun ρ43 ⟨T0, T2, T3, T7, T10, _⟩ => (tN (hK42 _ _ (wpF_true T10 (sk fun K44 hK44 => (wt (oS rfl (Yk.storeC (i := 0) (v := .pointer none) T2 (vr (.pointer none) rfl) hb8 (Nat.le_of_ble_eq_true rfl) pk22_isz33 rfl rfl fun w45 hb46 hg47 hs48 => ?_)))))))))))
  have hE := row_fresh hE hg47 (Nat.le_trans (Nat.le_refl _) (by omega))
  clear hb8
  clear hA16
  have hb20 := kb hg47 hb20 (by omega)
  have hb8 := hb46; clear hb46
  have hl49 := bl hb8
  refine oS rfl (Yk.storeC (i := 0) (v := NI 6) T3 (vr (NI 6) rfl) hb20 (Nat.le_of_ble_eq_true rfl) pk22_isz25 rfl rfl fun w50 hb51 hg52 hs53 => ?_)
  have hE := row_fresh hE hg52 (Nat.le_trans hz18 (by omega))
  clear hb20
  have hb8 := kb hg52 hb8 (by omega)
  have hb20 := hb51; clear hb51
  have hl54 := bl hb20
  refine oL_ [(0, v), (2, PQ n2 0), (3, PQ n10 0), (7, .bool (false)), (10, .bool (true))] ⟨T0, T2, T3, T7, T10, trivial⟩ fun ρ55 ⟨T0, T2, T3, T7, T10, _⟩ => (tN (hK44 _ _ (wpF_ret (thenF_ret (postP_ret (fn := Tryd.f15) _ rfl [.pointer none, NI 6] (.tuple #[.pointer none, NI 6]) rfl ⟨ResF.cell1 T2 hb8 pk22_ty33 rfl, ResF.cell1 T3 hb20 pk22_ty25 rfl, trivial⟩ ?_)))))
  exact ⟨_, rfl, _, _, rfl, by rw [hP]; exact ⟨rfl, rfl⟩, hE⟩
 by_cases q3 : Sha.sum (b.take (b.length - 32)) = b.drop (b.length - 32)
 ·have hP : openP b = readP b := (if_neg q1).trans ((if_neg q2).trans (if_pos q3))
  refine tN (hK1 _ _ (wpR_seq_k _ postP_bodyD fun K56 hK56 => (sk fun K57 hK57 => (wt (oM rfl (oS rfl (Yk.lenRB pk22_ty24 (RB.of (hr.keep hE) T0) (oS rfl (Yk.eqI (a := (b.length : Nat)) (b := (1048576 : Nat)) rfl rfl (k_gtr _ _ _ _) (oL_ [(0, v), (2, PQ n2 0), (3, PQ n10 0), (7, .bool (false))] ⟨T0, T2, T3, (congrArg Value.bool (decide_eq_false (q1))), trivial⟩ fun ρ58 ⟨T0, T2, T3, T7, _⟩ => (tN (hK57 _ _ (wpF_false T7 (wpF_skip (tN (hK56 _ _ (wpR_seq_k _ postP_bodyD fun K59 hK59 => (sk fun K60 hK60 => (wt (oM rfl ?_))))))))))))))))))))
  refine oS rfl (Yk.lenRB pk22_ty24 (RB.of (hr.keep hE) T0) (oS rfl (Yk.eqI (a := (b.length : Nat)) (b := (36 : Nat)) rfl rfl (k_lss _ _ _ _) (oL_ [(0, v), (2, PQ n2 0), (3, PQ n10 0), (7, .bool (false)), (10, .bool (false))] ⟨T0, T2, T3, T7, (congrArg Value.bool (decide_eq_false (q2))), trivial⟩ fun ρ61 ⟨T0, T2, T3, T7, T10, _⟩ => (tN (hK60 _ _ (wpF_false T10 (wpF_skip (tN (hK59 _ _ (wpR_seq_k _ postP_bodyD fun K62 hK62 => (wt (oM rfl (oM rfl (oS rfl (Yk.lenRB pk22_ty24 (RB.of (hr.keep hE) T0) (oS rfl (Yk.bin (xv := NI b.length) (yv := NI 32) rfl rfl rfl (i64_sub _ _ _ (by omega) (by omega)) (oS rfl (Yk.sliceHi (xs := b) (n := (b.length) - (32)) pk22_ty24 pk22_sz5 T0 (hr.keep hE) (vr (NI ((b.length) - (32))) rfl) (by omega) fun v63 hr64 ha65 => (oS rfl (Yk.rows1 pk22_rows1_75 (RB.of hr64 (vr v63 rfl)) fun v66 w67 hr68 hx69 => ?_))))))))))))))))))))))
  have hE := hE.trans hx69
  have hb8 := eb hx69 hb8
  have hA16 := hA16.trans hx69
  have hb20 := eb hx69 hb20
  have hr64 := hr64.keep hx69
  refine oS rfl (Yk.callA1 pk22_pl17 (vr v66 rfl) ((sum_one _ (hG.keep hE) v66 (b.take ((b.length) - (32))) hr68 (by simp only [List.length_take]; omega)).mono ?_))
  rintro e w71 ⟨rfl, hx70⟩
  refine ⟨_, rfl, ?_⟩
  have hE := hE.trans hx70
  have hb8 := eb hx70 hb8
  have hA16 := hA16.trans hx70
  have hb20 := eb hx70 hb20
  have hr64 := hr64.keep hx70
  have hr68 := hr68.keep hx70
  refine oS rfl (Yk.alloc (cs := (Lib.byteCells (List.replicate 32 0)).toArray) pk22_al38 fun n72 w73 hn74 hb75 hx76 hs77 => ?_)
  have hA78 := Ext.refl w71
  have hea79 := hE
  have hea80 := hA16
  have hz81 := hE.size
  have hz82 := hA16.size
  have hlt83 := lte (bl hb8) hn74
  have hlt84 := lte (bl hb20) hn74
  have hE := hE.trans hx76
  have hb8 := eb hx76 hb8
  have hA16 := hA16.trans hx76
  have hb20 := eb hx76 hb20
  have hA78 := hA78.trans hx76
  have hb85 := hb75; clear hb75
  have hl86 : n72 < w73.heap.size := by omega
  refine oS rfl (Yk.storeAll (vr (PQ n72 0) rfl) (vr (AB (Sha.sum (b.take ((b.length) - (32))))) rfl) hb85 (by exact idsize (Sha.sum_length _) List.length_replicate) (by exact sizeId_of (Sha.sum_length _)) (byteCells_one _) fun w87 hb88 hg89 hs90 => ?_)
  have hE := row_fresh hE hg89 (Nat.le_trans hz81 (by omega))
  have hb8 := kb hg89 hb8 (by omega)
  have hA16 := row_fresh hA16 hg89 (Nat.le_trans hz82 (by omega))
  have hb20 := kb hg89 hb20 (by omega)
  have hA78 := row_fresh hA78 hg89 (Nat.le_trans (Nat.le_refl _) (by omega))
  clear hb85
  have hb85 := hb88; clear hb88
  have hl91 := bl hb85
  refine oL_ [(0, v), (2, PQ n2 0), (3, PQ n10 0), (4, PQ n72 0), (7, .bool (false)), (10, .bool (false))] ⟨T0, T2, T3, rfl, T7, T10, trivial⟩ fun ρ92 ⟨T0, T2, T3, T4, T7, T10, _⟩ => (tN (hK62 _ _ (wpR_seq_k _ postP_bodyD fun K93 hK93 => (sk fun K94 hK94 => ?_))))
  refine wpF_draw [Is (.slice (some ⟨n72, 0, none⟩) 32 32), Is (St ((Sha.sum (b.take ((b.length) - (32)))))), Is (v), Is (v), Is (NI b.length), Is (NI ((b.length) - (32))), fun x w' => RB w' x (b.drop ((b.length) - (32))), Is (St (b.drop ((b.length) - (32)))), Is (.bool (false))] (by kernel_rfl) [18, 19, 20, 21, 22, 23, 24, 25, 26] (by kernel_rfl) (by kernel_rfl) (si6 ⟨(fun _ _ _ h k => RB.keep h k), (si2 trivial)⟩) ?hs1006 ?hQ1006
  case hs1006 =>
   refine ⟨?_, ?_, ?_, ?_, ?_, ?_, ?_, ?_, ?_, trivial⟩
   ·refine stepN rfl fun σ w1 hC h => ?_
    have e4 := (eqo (h 4 (by decide))).trans T4
    exact Yk.sliceArr pk22_ty38 pk22_sz5 e4 ⟨Ext.refl _, rfl⟩
   ·refine stepN rfl fun σ w1 hC h => ?_
    have e18 := eqo (h 18 (by decide))
    exact Yk.convRB pk22_ty24 pk22_ty5 pk22_ty9 (RB.of (RB.ofBlkN (eb hC hb85) (Sha.sum_length _) (by decide)) e18) ⟨Ext.refl _, rfl⟩
   ·refine stepN rfl fun σ w1 hC h => ?_
    have e0 := (eqo (h 0 (by decide))).trans T0
    exact Yk.move e0 ⟨Ext.refl _, rfl⟩
   ·refine stepN rfl fun σ w1 hC h => ?_
    have e0 := (eqo (h 0 (by decide))).trans T0
    exact Yk.move e0 ⟨Ext.refl _, rfl⟩
   ·refine stepN rfl fun σ w1 hC h => ?_
    have e21 := eqo (h 21 (by decide))
    exact Yk.lenRB pk22_ty24 (RB.of (hr.keep (hE.trans hC)) e21) ⟨Ext.refl _, rfl⟩
   ·refine stepN rfl fun σ w1 hC h => ?_
    have e22 := eqo (h 22 (by decide))
    exact Yk.bin (xv := NI b.length) (yv := NI 32) e22 rfl rfl (i64_sub _ _ _ (by omega) (by omega)) ⟨Ext.refl _, rfl⟩
   ·refine stepN rfl fun σ w1 hC h => ?_
    have e20 := eqo (h 20 (by decide))
    have e23 := eqo (h 23 (by decide))
    exact Yk.sliceLo (xs := b) (l := (b.length) - (32)) pk22_ty24 pk22_sz5 rfl (RB.of (hr.keep (hE.trans hC)) e20) e23 (by omega) fun v hr _ => ⟨Ext.refl _, hr⟩
   ·refine stepN rfl fun σ w1 hC h => ?_
    have e24 : (fun x w' => RB w' x (b.drop ((b.length) - (32)))) (σ 24) w1 := h 24 (by decide)
    exact Yk.convRB pk22_ty24 pk22_ty5 pk22_ty9 e24 ⟨Ext.refl _, rfl⟩
   ·refine stepN rfl fun σ w1 hC h => ?_
    have e19 := eqo (h 19 (by decide))
    have e25 := eqo (h 25 (by decide))
    exact Yk.eqSt (l := (Sha.sum (b.take ((b.length) - (32))))) (m := b.drop ((b.length) - (32))) (.inr rfl) e19 e25 (decide ((Sha.sum (b.take ((b.length) - (32)))) ≠ (b.drop ((b.length) - (32)) : List UInt8))) rfl ⟨Ext.refl _, (congrArg Value.bool (decide_eq_false (fun h => h q3)))⟩
  intro ρ95 w96 hx97 he hf
  obtain ⟨-, -, -, -, -, -, -, -, k26, -⟩ := hf
  obtain ⟨T0, T2, T3, T4, T7, T10, -⟩ := he.hold [(0, _), (2, _), (3, _), (4, _), (7, _), (10, _)] ⟨T0, T2, T3, T4, T7, T10, trivial⟩ rfl
  clear he
  have hE := hE.trans hx97
  have hb8 := eb hx97 hb8
  have hA16 := hA16.trans hx97
  have hb20 := eb hx97 hb20
  have hA78 := hA78.trans hx97
  have hb85 := eb hx97 hb85
  have T26 : ρ95 26 = .bool (false) := k26
  clear k26
  refine tN (hK94 _ _ (wpF_false T26 (wpF_skip (tN (hK93 _ _ (wpR_seq_text (opsR_step rfl (Yk.mkFunc (vs := #[PQ n2 0, PQ n10 0]) (by simp only [List.map_toArray, List.map_cons, List.map_nil]; exact congrArg List.toArray (list2 T2 T3)) (opsR_defer (vr (.func (.func 36) #[] #[PQ n2 0, PQ n10 0]) rfl) (deferOk (vr (.func (.func 36) #[] #[PQ n2 0, PQ n10 0]) rfl)) (opsR_end (fun ρ => ρ 0 = (v : Value) ∧ ρ 2 = (PQ n2 0 : Value) ∧ ρ 3 = (PQ n10 0 : Value) ∧ ρ 4 = (PQ n72 0 : Value) ∧ ρ 7 = (.bool (false) : Value) ∧ ρ 10 = (.bool (false) : Value) ∧ ρ 26 = (.bool (false) : Value) ∧ True) ⟨T0, T2, T3, T4, T7, T10, T26, trivial⟩ fun ρ98 ⟨T0, T2, T3, T4, T7, T10, T26, _⟩ => (wpR_seq_text (opsR_step rfl (Yk.move T0 (opsR_stepP rfl (Yp.callA1 pk22_pl37 (vr v rfl) ?_)))))))))))))))
  refine calls_either (read_any _ (hG.keep hE) v b (hr.keep hE) (by omega) (by omega)) ?_ ?_
  rotate_left
  ·
   rintro ch w100 ⟨c, hce, rfl, hx⟩
   intro a_ ha_
   show Leaves _ _ a_.tmps _ a_.defers (.panicking _) _
   rw [ha_.defers]
   refine leaves_cons (f := 36) (args := #[PQ n2 0, PQ n10 0]) (by simp) (by simp [go_sem]) ((open1_stop w n2 n10 c _ _ _ (hE.trans hx) (by omega) (by omega) (by omega) (eb hx hb8) (eb hx hb20)).mono ?_)
   rintro e u' w3 ⟨rfl, rfl, hb2, hb3, hE3⟩
   exact leaves_nil (ρ := _) _ rfl [.pointer none, NI c] (.tuple #[.pointer none, NI c]) rfl ha_.get ⟨ResF.cell1 (T2) hb2 pk22_ty33 rfl, ResF.cell1 (T3) hb3 pk22_ty25 rfl, trivial⟩ ⟨_, rfl, _, _, rfl, by rw [hP, hce]; exact ⟨rfl, rfl⟩, hE3⟩
  rintro v_ w102 ⟨gp, vi, bo, ids, O, rfl, hrd, hgb, hgi, hmo, hoo, hx99⟩
  have hE := hE.trans hx99
  have hb8 := eb hx99 hb8
  have hA16 := hA16.trans hx99
  have hb20 := eb hx99 hb20
  have hA78 := hA78.trans hx99
  have hb85 := eb hx99 hb85
  have hPk : PackAt w102 (PQ gp 0) (ids, fun k => (O k).map Prod.fst) := ⟨gp, vi, bo, O, rfl, rfl, hgb, hgi, hmo, hoo⟩
  have hob_n2 := hb8
  refine opsR_step rfl (Yk.storeC (i := 0) (v := PQ gp 0) T2 (vr (PQ gp 0) rfl) hb8 (Nat.le_of_ble_eq_true rfl) pk22_isz33 rfl rfl fun w103 hb104 hg105 hs106 => ?_)
  have hE := row_fresh hE hg105 (Nat.le_trans (Nat.le_refl _) (by omega))
  clear hb8
  clear hA16
  have hb20 := kb hg105 hb20 (by omega)
  clear hA78
  have hb85 := kb hg105 hb85 (by omega)
  have hPk : PackAt w103 (PQ gp 0) (ids, fun k => (O k).map Prod.fst) := PackAt.keepN hPk hob_n2 (fun _ h => by cases h) hg105
  have hb8 := hb104; clear hb104
  have hl107 := bl hb8
  have hob_n10 := hb20
  refine opsR_step rfl (Yk.storeC (i := 0) (v := NI 0) T3 (vr (NI 0) rfl) hb20 (Nat.le_of_ble_eq_true rfl) pk22_isz25 rfl rfl fun w108 hb109 hg110 hs111 => ?_)
  have hE := row_fresh hE hg110 (Nat.le_trans hz18 (by omega))
  clear hb20
  have hb85 := kb hg110 hb85 (by omega)
  have hPk : PackAt w108 (PQ gp 0) (ids, fun k => (O k).map Prod.fst) := PackAt.keepN hPk hob_n10 (fun _ h => by cases h) hg110
  have hb8 := kb hg110 hb8 (by omega)
  have hb20 := hb109; clear hb109
  have hl112 := bl hb20
  refine opsR_end (fun ρ => ρ 0 = (v : Value) ∧ ρ 2 = (PQ n2 0 : Value) ∧ ρ 3 = (PQ n10 0 : Value) ∧ ρ 4 = (PQ n72 0 : Value) ∧ ρ 7 = (.bool (false) : Value) ∧ ρ 10 = (.bool (false) : Value) ∧ ρ 26 = (.bool (false) : Value) ∧ True) ⟨T0, T2, T3, T4, T7, T10, T26, trivial⟩ fun ρ113 ⟨T0, T2, T3, T4, T7, T10, T26, _⟩ => (wpR_ret fun a_ ha_ => ?_)
  show Leaves _ _ a_.tmps _ a_.defers .returning _
  rw [ha_.defers]
  refine leaves_cons (f := 36) (args := #[PQ n2 0, PQ n10 0]) (by simp) (by simp [go_sem]) ((open1_idle n2 n10 _).mono ?_)
  rintro e u' w3 ⟨rfl, rfl, hxi⟩
  exact leaves_nil (ρ := _) _ rfl [PQ gp 0, NI 0] (.tuple #[PQ gp 0, NI 0]) rfl ha_.get ⟨ResF.cell1 (T2) (eb hxi hb8) pk22_ty33 rfl, ResF.cell1 (T3) (eb hxi hb20) pk22_ty25 rfl, trivial⟩ ⟨_, rfl, _, _, rfl, by rw [hP, hrd]; exact ⟨rfl, (hPk).keep hxi⟩, hE.trans hxi⟩
 have hP : openP b = .error 18 := (if_neg q1).trans ((if_neg q2).trans (if_neg q3))
 refine tN (hK1 _ _ (wpR_seq_k _ postP_bodyD fun K114 hK114 => (sk fun K115 hK115 => (wt (oM rfl (oS rfl (Yk.lenRB pk22_ty24 (RB.of (hr.keep hE) T0) (oS rfl (Yk.eqI (a := (b.length : Nat)) (b := (1048576 : Nat)) rfl rfl (k_gtr _ _ _ _) (oL_ [(0, v), (2, PQ n2 0), (3, PQ n10 0), (7, .bool (false))] ⟨T0, T2, T3, (congrArg Value.bool (decide_eq_false (q1))), trivial⟩ fun ρ116 ⟨T0, T2, T3, T7, _⟩ => (tN (hK115 _ _ (wpF_false T7 (wpF_skip (tN (hK114 _ _ (wpR_seq_k _ postP_bodyD fun K117 hK117 => (sk fun K118 hK118 => (wt (oM rfl ?_))))))))))))))))))))
 refine oS rfl (Yk.lenRB pk22_ty24 (RB.of (hr.keep hE) T0) (oS rfl (Yk.eqI (a := (b.length : Nat)) (b := (36 : Nat)) rfl rfl (k_lss _ _ _ _) (oL_ [(0, v), (2, PQ n2 0), (3, PQ n10 0), (7, .bool (false)), (10, .bool (false))] ⟨T0, T2, T3, T7, (congrArg Value.bool (decide_eq_false (q2))), trivial⟩ fun ρ119 ⟨T0, T2, T3, T7, T10, _⟩ => (tN (hK118 _ _ (wpF_false T10 (wpF_skip (tN (hK117 _ _ (wpR_seq_k _ postP_bodyD fun K120 hK120 => (wt (oM rfl (oM rfl (oS rfl (Yk.lenRB pk22_ty24 (RB.of (hr.keep hE) T0) (oS rfl (Yk.bin (xv := NI b.length) (yv := NI 32) rfl rfl rfl (i64_sub _ _ _ (by omega) (by omega)) (oS rfl (Yk.sliceHi (xs := b) (n := (b.length) - (32)) pk22_ty24 pk22_sz5 T0 (hr.keep hE) (vr (NI ((b.length) - (32))) rfl) (by omega) fun v121 hr122 ha123 => (oS rfl (Yk.rows1 pk22_rows1_75 (RB.of hr122 (vr v121 rfl)) fun v124 w125 hr126 hx127 => ?_))))))))))))))))))))))
 have hE := hE.trans hx127
 have hb8 := eb hx127 hb8
 have hA16 := hA16.trans hx127
 have hb20 := eb hx127 hb20
 have hr122 := hr122.keep hx127
 refine oS rfl (Yk.callA1 pk22_pl17 (vr v124 rfl) ((sum_one _ (hG.keep hE) v124 (b.take ((b.length) - (32))) hr126 (by simp only [List.length_take]; omega)).mono ?_))
 rintro e w129 ⟨rfl, hx128⟩
 refine ⟨_, rfl, ?_⟩
 have hE := hE.trans hx128
 have hb8 := eb hx128 hb8
 have hA16 := hA16.trans hx128
 have hb20 := eb hx128 hb20
 have hr122 := hr122.keep hx128
 have hr126 := hr126.keep hx128
 refine oS rfl (Yk.alloc (cs := (Lib.byteCells (List.replicate 32 0)).toArray) pk22_al38 fun n130 w131 hn132 hb133 hx134 hs135 => ?_)
 have hA136 := Ext.refl w129
 have hea137 := hE
 have hea138 := hA16
 have hz139 := hE.size
 have hz140 := hA16.size
 have hlt141 := lte (bl hb8) hn132
 have hlt142 := lte (bl hb20) hn132
 have hE := hE.trans hx134
 have hb8 := eb hx134 hb8
 have hA16 := hA16.trans hx134
 have hb20 := eb hx134 hb20
 have hA136 := hA136.trans hx134
 have hb143 := hb133; clear hb133
 have hl144 : n130 < w131.heap.size := by omega
 refine oS rfl (Yk.storeAll (vr (PQ n130 0) rfl) (vr (AB (Sha.sum (b.take ((b.length) - (32))))) rfl) hb143 (by exact idsize (Sha.sum_length _) List.length_replicate) (by exact sizeId_of (Sha.sum_length _)) (byteCells_one _) fun w145 hb146 hg147 hs148 => ?_)
 have hE := row_fresh hE hg147 (Nat.le_trans hz139 (by omega))
 have hb8 := kb hg147 hb8 (by omega)
 have hA16 := row_fresh hA16 hg147 (Nat.le_trans hz140 (by omega))
 have hb20 := kb hg147 hb20 (by omega)
 have hA136 := row_fresh hA136 hg147 (Nat.le_trans (Nat.le_refl _) (by omega))
 clear hb143
 have hb143 := hb146; clear hb146
 have hl149 := bl hb143
 refine oL_ [(0, v), (2, PQ n2 0), (3, PQ n10 0), (4, PQ n130 0), (7, .bool (false)), (10, .bool (false))] ⟨T0, T2, T3, rfl, T7, T10, trivial⟩ fun ρ150 ⟨T0, T2, T3, T4, T7, T10, _⟩ => (tN (hK120 _ _ (wpR_seq_k _ postP_bodyD fun K151 hK151 => (sk fun K152 hK152 => ?_))))
 refine wpF_draw [Is (.slice (some ⟨n130, 0, none⟩) 32 32), Is (St ((Sha.sum (b.take ((b.length) - (32)))))), Is (v), Is (v), Is (NI b.length), Is (NI ((b.length) - (32))), fun x w' => RB w' x (b.drop ((b.length) - (32))), Is (St (b.drop ((b.length) - (32)))), Is (.bool (true))] (by kernel_rfl) [18, 19, 20, 21, 22, 23, 24, 25, 26] (by kernel_rfl) (by kernel_rfl) (si6 ⟨(fun _ _ _ h k => RB.keep h k), (si2 trivial)⟩) ?hs2006 ?hQ2006
 case hs2006 =>
  refine ⟨?_, ?_, ?_, ?_, ?_, ?_, ?_, ?_, ?_, trivial⟩
  ·refine stepN rfl fun σ w1 hC h => ?_
   have e4 := (eqo (h 4 (by decide))).trans T4
   exact Yk.sliceArr pk22_ty38 pk22_sz5 e4 ⟨Ext.refl _, rfl⟩
  ·refine stepN rfl fun σ w1 hC h => ?_
   have e18 := eqo (h 18 (by decide))
   exact Yk.convRB pk22_ty24 pk22_ty5 pk22_ty9 (RB.of (RB.ofBlkN (eb hC hb143) (Sha.sum_length _) (by decide)) e18) ⟨Ext.refl _, rfl⟩
  ·refine stepN rfl fun σ w1 hC h => ?_
   have e0 := (eqo (h 0 (by decide))).trans T0
   exact Yk.move e0 ⟨Ext.refl _, rfl⟩
  ·refine stepN rfl fun σ w1 hC h => ?_
   have e0 := (eqo (h 0 (by decide))).trans T0
   exact Yk.move e0 ⟨Ext.refl _, rfl⟩
  ·refine stepN rfl fun σ w1 hC h => ?_
   have e21 := eqo (h 21 (by decide))
   exact Yk.lenRB pk22_ty24 (RB.of (hr.keep (hE.trans hC)) e21) ⟨Ext.refl _, rfl⟩
  ·refine stepN rfl fun σ w1 hC h => ?_
   have e22 := eqo (h 22 (by decide))
   exact Yk.bin (xv := NI b.length) (yv := NI 32) e22 rfl rfl (i64_sub _ _ _ (by omega) (by omega)) ⟨Ext.refl _, rfl⟩
  ·refine stepN rfl fun σ w1 hC h => ?_
   have e20 := eqo (h 20 (by decide))
   have e23 := eqo (h 23 (by decide))
   exact Yk.sliceLo (xs := b) (l := (b.length) - (32)) pk22_ty24 pk22_sz5 rfl (RB.of (hr.keep (hE.trans hC)) e20) e23 (by omega) fun v hr _ => ⟨Ext.refl _, hr⟩
  ·refine stepN rfl fun σ w1 hC h => ?_
   have e24 : (fun x w' => RB w' x (b.drop ((b.length) - (32)))) (σ 24) w1 := h 24 (by decide)
   exact Yk.convRB pk22_ty24 pk22_ty5 pk22_ty9 e24 ⟨Ext.refl _, rfl⟩
  ·refine stepN rfl fun σ w1 hC h => ?_
   have e19 := eqo (h 19 (by decide))
   have e25 := eqo (h 25 (by decide))
   exact Yk.eqSt (l := (Sha.sum (b.take ((b.length) - (32))))) (m := b.drop ((b.length) - (32))) (.inr rfl) e19 e25 (decide ((Sha.sum (b.take ((b.length) - (32)))) ≠ (b.drop ((b.length) - (32)) : List UInt8))) rfl ⟨Ext.refl _, (congrArg Value.bool (decide_eq_true (q3)))⟩
 intro ρ153 w154 hx155 he hf
 obtain ⟨-, -, -, -, -, -, -, -, k26, -⟩ := hf
 obtain ⟨T0, T2, T3, T4, T7, T10, -⟩ := he.hold [(0, _), (2, _), (3, _), (4, _), (7, _), (10, _)] ⟨T0, T2, T3, T4, T7, T10, trivial⟩ rfl
 clear he
 have hE := hE.trans hx155
 have hb8 := eb hx155 hb8
 have hA16 := hA16.trans hx155
 have hb20 := eb hx155 hb20
 have hA136 := hA136.trans hx155
 have hb143 := eb hx155 hb143
 have T26 : ρ153 26 = .bool (true) := k26
 clear k26
 refine tN (hK152 _ _ (wpF_true T26 (sk fun K156 hK156 => (wt (oS rfl (Yk.storeC (i := 0) (v := .pointer none) T2 (vr (.pointer none) rfl) hb8 (Nat.le_of_ble_eq_true rfl) pk22_isz33 rfl rfl fun w157 hb158 hg159 hs160 => ?_))))))
 have hE := row_fresh hE hg159 (Nat.le_trans (Nat.le_refl _) (by omega))
 clear hb8
 clear hA16
 have hb20 := kb hg159 hb20 (by omega)
 clear hA136
 have hb143 := kb hg159 hb143 (by omega)
 have hb8 := hb158; clear hb158
 have hl161 := bl hb8
 refine oS rfl (Yk.storeC (i := 0) (v := NI 18) T3 (vr (NI 18) rfl) hb20 (Nat.le_of_ble_eq_true rfl) pk22_isz25 rfl rfl fun w162 hb163 hg164 hs165 => ?_)
 have hE := row_fresh hE hg164 (Nat.le_trans hz18 (by omega))
 clear hb20
 have hb143 := kb hg164 hb143 (by omega)
 have hb8 := kb hg164 hb8 (by omega)
 have hb20 := hb163; clear hb163
 have hl166 := bl hb20
 refine oL_ [(0, v), (2, PQ n2 0), (3, PQ n10 0), (4, PQ n130 0), (7, .bool (false)), (10, .bool (false)), (26, .bool (true))] ⟨T0, T2, T3, T4, T7, T10, T26, trivial⟩ fun ρ167 ⟨T0, T2, T3, T4, T7, T10, T26, _⟩ => (tN (hK156 _ _ (wpF_ret (thenF_ret (postP_ret (fn := Tryd.f15) _ rfl [.pointer none, NI 18] (.tuple #[.pointer none, NI 18]) rfl ⟨ResF.cell1 T2 hb8 pk22_ty33 rfl, ResF.cell1 T3 hb20 pk22_ty25 rfl, trivial⟩ ?_)))))
 exact ⟨_, rfl, _, _, rfl, by rw [hP]; exact ⟨rfl, rfl⟩, hE⟩
open Go.RowKit
theorem take_app {α : Type} (A X : List α) (n : Nat) (h : A.length ≤ n) : (A ++ X).take n = A ++ X.take (n - A.length) := by
  rw [List.take_append, List.take_of_length_le h]
theorem drop_app {α : Type} (A X : List α) (n : Nat) : (A ++ X).drop (A.length + n) = X.drop n := by
  rw [List.drop_append, List.drop_of_length_le (by omega), List.nil_append, show A.length + n - A.length = n by omega]
theorem textB_len (s : Bs) : (textB s).length = (Lib.uvarint s.length).length + s.length := by simp [textB]
theorem textP_enc (A s X : Bs) (fin : Nat) (hs : s.length ≤ 1048576) (h1 : A.length + (textB s).length ≤ fin) : textP (A ++ (textB s ++ X)) A.length fin = some (s, A.length + (textB s).length) := by
  have hl := textB_len s
  have ht : (A ++ (textB s ++ X)).take fin = A ++ (Lib.uvarint s.length ++ (s ++ X.take (fin - A.length - (textB s).length))) := by
    rw [take_app _ _ _ (by omega), take_app _ _ _ (by omega)]
    simp only [textB, List.append_assoc]
  unfold textP
  rw [ht, List.drop_left, lebDec_uv _ (by omega)]
  dsimp only
  rw [if_neg (by omega), if_neg (by simp only [List.length_append]; omega)]
  congr 1
  rw [drop_app, List.drop_left, List.take_left]
  rw [hl, Nat.add_assoc]
def entB (ps : List Pt) (i : Nat) (s : BS) : Ent :=
  if (ps.getD i dPt).base < 0 then ⟨s.b.length, false, List.replicate 32 0, (ps.getD i dPt).bytes⟩
  else ⟨s.b.length, true, s.ids.getD (ps.getD i dPt).base.toNat [], makeP (ps.getD (ps.getD i dPt).base.toNat dPt).bytes (ps.getD i dPt).bytes⟩
def chunkB (ps : List Pt) (i : Nat) (s : BS) : Bs :=
  if (ps.getD i dPt).base < 0 then [0] ++ textB (ps.getD i dPt).bytes
  else [1] ++ s.ids.getD (ps.getD i dPt).base.toNat [] ++ textB (makeP (ps.getD (ps.getD i dPt).base.toNat dPt).bytes (ps.getD i dPt).bytes)
theorem bnext_b (ps : List Pt) (i : Nat) (s : BS) : (bnext ps (ps.getD i dPt) s).b = s.b ++ chunkB ps i s := by
  unfold bnext chunkB
  dsimp only
  split <;> simp only [List.append_assoc]
theorem entOne_enc {ps : List Pt} (hL : LightP ps) {i : Nat} (hi : i < ps.length) {s : BS} (h : BOk i s) (hb : (ps.getD i dPt).base < i) (X : Bs) (fin : Nat) (hf : s.b.length + (chunkB ps i s).length ≤ fin) :
    entOne (s.b ++ (chunkB ps i s ++ X)) fin s.b.length = some (entB ps i s, s.b.length + (chunkB ps i s).length) := by
  have hp := hL.2 _ (getD_mem dPt hi)
  by_cases hbase : (ps.getD i dPt).base < 0
  · have hc : chunkB ps i s = [0] ++ textB (ps.getD i dPt).bytes := if_pos hbase
    have he : entB ps i s = ⟨s.b.length, false, List.replicate 32 0, (ps.getD i dPt).bytes⟩ := if_pos hbase
    rw [hc] at hf ⊢
    rw [he]
    have hg : (s.b ++ ([0] ++ textB (ps.getD i dPt).bytes ++ X)).getD s.b.length 0 = 0 := by
      rw [List.getD_eq_getElem?_getD, List.getElem?_append_right (Nat.le_refl _), Nat.sub_self]; rfl
    have ht := textP_enc (s.b ++ [0]) (ps.getD i dPt).bytes X fin (by omega) (by simp only [List.length_append] at hf ⊢; omega)
    have e : s.b ++ [0] ++ (textB (ps.getD i dPt).bytes ++ X) = s.b ++ ([0] ++ textB (ps.getD i dPt).bytes ++ X) := by simp only [List.append_assoc]
    rw [e, List.length_append, List.length_singleton] at ht
    unfold entOne
    rw [hg, if_pos ⟨by simp only [List.length_append, List.length_singleton] at hf; omega, by decide⟩, if_neg (by decide), ht, Option.map_some]
    simp only [List.length_append, List.length_singleton, Nat.add_assoc]
  · have hc : chunkB ps i s = [1] ++ s.ids.getD (ps.getD i dPt).base.toNat [] ++ textB (makeP (ps.getD (ps.getD i dPt).base.toNat dPt).bytes (ps.getD i dPt).bytes) := if_neg hbase
    have he : entB ps i s = ⟨s.b.length, true, s.ids.getD (ps.getD i dPt).base.toNat [], makeP (ps.getD (ps.getD i dPt).base.toNat dPt).bytes (ps.getD i dPt).bytes⟩ := if_neg hbase
    have hb1 : (ps.getD i dPt).base.toNat < s.ids.length := by rw [h.ids]; omega
    have h32 := h.len _ (getD_mem [] hb1)
    have hq := hL.2 _ (getD_mem dPt (l := ps) (i := (ps.getD i dPt).base.toNat) (by rw [h.ids] at hb1; omega))
    have hm := makeP_len (ps.getD (ps.getD i dPt).base.toNat dPt).bytes (ps.getD i dPt).bytes (by omega) (by omega)
    rw [hc] at hf ⊢
    rw [he]
    generalize makeP (ps.getD (ps.getD i dPt).base.toNat dPt).bytes (ps.getD i dPt).bytes = m at hm hf ⊢
    generalize s.ids.getD (ps.getD i dPt).base.toNat [] = id at h32 hf ⊢
    have hg : (s.b ++ ([1] ++ id ++ textB m ++ X)).getD s.b.length 0 = 1 := by
      rw [List.getD_eq_getElem?_getD, List.getElem?_append_right (Nat.le_refl _), Nat.sub_self]; rfl
    have ht := textP_enc (s.b ++ [1] ++ id) m X fin (by omega) (by simp only [List.length_append] at hf ⊢; omega)
    have e : s.b ++ [1] ++ id ++ (textB m ++ X) = s.b ++ ([1] ++ id ++ textB m ++ X) := by simp only [List.append_assoc]
    rw [e, List.length_append, List.length_append, List.length_singleton, h32] at ht
    have hd : ((s.b ++ ([1] ++ id ++ textB m ++ X)).take fin).drop (s.b.length + 1) = id ++ (textB m ++ X.take (fin - s.b.length - 1 - id.length - (textB m).length)) := by
      simp only [List.length_append, List.length_singleton] at hf
      have e2 : s.b ++ ([1] ++ id ++ textB m ++ X) = s.b ++ ([1] ++ (id ++ (textB m ++ X))) := by simp only [List.append_assoc]
      rw [e2, take_app _ _ _ (by omega), take_app [1] _ _ (by simp only [List.length_singleton]; omega), take_app id _ _ (by simp only [List.length_singleton]; omega), take_app (textB m) _ _ (by simp only [List.length_singleton]; omega), drop_app]
      rfl
    unfold entOne
    rw [hg, if_pos ⟨by simp only [List.length_append, List.length_singleton] at hf; omega, by decide⟩, if_pos rfl, if_neg (by simp only [List.length_append, List.length_singleton] at hf; omega), ht, Option.map_some, hd, ← h32, List.take_left]
    simp only [List.length_append, List.length_singleton, Nat.add_assoc]
structure BInv (ps : List Pt) (i : Nat) (s : BS) (es : List Ent) : Prop where
  ok : BOk i s
  len : es.length = i
  ids : s.ids = (ps.take i).map fun p => Sha.sum p.bytes
  nodup : s.ids.Nodup
  pos : es.map Ent.pos = s.places
  asc : s.places.Pairwise (· < ·)
  top : ∀ p ∈ s.places, p < s.b.length
  ent : ∀ X fin, s.b.length ≤ fin → entGo (s.b ++ X) fin (1 + (Lib.uvarint ps.length).length) i = some (es, s.b.length)
  flat : ∀ j, j < i → (ps.getD j dPt).base < 0 → (es.getD j dEnt.1).based = false ∧ (es.getD j dEnt.1).bytes = (ps.getD j dPt).bytes ∧ s.depths.getD j 0 = 0
  upon : ∀ j, j < i → ¬ (ps.getD j dPt).base < 0 → (ps.getD j dPt).base.toNat < j ∧ (es.getD j dEnt.1).based = true ∧ (es.getD j dEnt.1).base = s.ids.getD (ps.getD j dPt).base.toNat [] ∧ (es.getD j dEnt.1).bytes = makeP (ps.getD (ps.getD j dPt).base.toNat dPt).bytes (ps.getD j dPt).bytes ∧ s.depths.getD j 0 = s.depths.getD (ps.getD j dPt).base.toNat 0 + 1
theorem getD_app_l {α : Type} (l m : List α) (d : α) {i : Nat} (h : i < l.length) : (l ++ m).getD i d = l.getD i d := by
  rw [List.getD_eq_getElem?_getD, List.getD_eq_getElem?_getD, List.getElem?_append_left h]
theorem getD_snoc {α : Type} (l : List α) (x d : α) {i : Nat} (h : l.length = i) : (l ++ [x]).getD i d = x := by
  rw [List.getD_eq_getElem?_getD, List.getElem?_append_right (by omega), h, Nat.sub_self]; rfl
theorem bgo_inv {ps : List Pt} (hL : LightP ps) : ∀ (i : Nat) (s : BS), i ≤ ps.length → bgo ps i = .ok s → ∃ es, BInv ps i s es
  | 0, s, hi, h => by
    have hk := bgo_ok hL 0 s hi h
    cases h
    refine ⟨[], hk, rfl, rfl, List.nodup_nil, rfl, List.Pairwise.nil, (fun p hp => by cases hp), fun X fin hf => ?_, (fun j hj => by omega), (fun j hj => by omega)⟩
    show some ([], _) = some ([], _)
    rw [List.length_cons, Nat.add_comm]
  | i + 1, s, hi, h => by
    have hk := bgo_ok hL (i + 1) s hi h
    cases hb : bgo ps i with
    | error e => rw [bgo_err hb 1] at h; cases h
    | ok s0 =>
      rw [bgo_step hb] at h
      obtain ⟨es, I⟩ := bgo_inv hL i s0 (by omega) hb
      unfold pstep at h
      split at h
      · cases h
      · split at h
        · cases h
        · split at h
          · cases h
          · rename_i h1 h2 h3
            cases h
            have hbase : (ps.getD i dPt).base < i := by omega
            have hl : s0.ids.length = i := I.ok.ids
            have hd : s0.depths.length = i := I.ok.depths
            have hbn := bnext_b ps i s0
            have hcl : 1 ≤ (chunkB ps i s0).length := by unfold chunkB; split <;> simp only [List.length_append, List.length_singleton] <;> omega
            refine ⟨es ++ [entB ps i s0], hk, by rw [List.length_append, I.len]; rfl, ?_, ?_, ?_, ?_, ?_, ?_, ?_, ?_⟩
            · show s0.ids ++ [_] = _
              rw [I.ids, List.take_succ_eq_append_getElem (by omega), List.map_append, List.map_singleton]
              rw [List.getD_eq_getElem?_getD, List.getElem?_eq_getElem (show i < ps.length by omega)]; rfl
            · show (s0.ids ++ [_]).Nodup
              rw [List.nodup_append]
              refine ⟨I.nodup, by simp, fun a ha b hb e => ?_⟩
              rw [List.mem_singleton.1 hb] at e
              exact h2 (e ▸ ha)
            · show _ = s0.places ++ [_]
              rw [List.map_append, I.pos]
              congr 1
              unfold entB
              split <;> rfl
            · show (s0.places ++ [_]).Pairwise _
              rw [List.pairwise_append]
              exact ⟨I.asc, by simp, fun a ha b hb => by rw [List.mem_singleton.1 hb]; exact I.top a ha⟩
            · intro p hp
              rw [hbn, List.length_append]
              rcases List.mem_append.1 (show p ∈ s0.places ++ [_] from hp) with hp | hp
              · have := I.top p hp; omega
              · rw [List.mem_singleton.1 hp]; omega
            · intro X fin hf
              rw [hbn, List.length_append] at hf ⊢
              rw [List.append_assoc, entGo_step (I.ent (chunkB ps i s0 ++ X) fin (by omega)), entOne_enc hL (by omega) I.ok hbase X fin hf]
              rfl
            · intro j hj hjb
              by_cases e : j = i
              · subst e
                rw [getD_snoc _ _ _ I.len]
                have he : entB ps j s0 = ⟨s0.b.length, false, List.replicate 32 0, (ps.getD j dPt).bytes⟩ := if_pos hjb
                rw [he]
                refine ⟨rfl, rfl, ?_⟩
                show (s0.depths ++ [_]).getD j 0 = 0
                rw [getD_snoc _ _ _ hd]
                exact if_pos hjb
              · rw [getD_app_l _ _ _ (by rw [I.len]; omega)]
                have := I.flat j (by omega) hjb
                refine ⟨this.1, this.2.1, ?_⟩
                show (s0.depths ++ [_]).getD j 0 = 0
                rw [getD_app_l _ _ _ (by omega)]
                exact this.2.2
            · intro j hj hjb
              have e1 : ∀ k, k < i → (bnext ps (ps.getD i dPt) s0).ids.getD k [] = s0.ids.getD k [] := fun k hk => getD_app_l _ _ _ (by omega)
              have e2 : ∀ k, k < i → (bnext ps (ps.getD i dPt) s0).depths.getD k 0 = s0.depths.getD k 0 := fun k hk => getD_app_l _ _ _ (by omega)
              by_cases e : j = i
              · subst e
                rw [getD_snoc _ _ _ I.len]
                have he : entB ps j s0 = ⟨s0.b.length, true, s0.ids.getD (ps.getD j dPt).base.toNat [], makeP (ps.getD (ps.getD j dPt).base.toNat dPt).bytes (ps.getD j dPt).bytes⟩ := if_neg hjb
                rw [he]
                have hlt : (ps.getD j dPt).base.toNat < j := by omega
                refine ⟨hlt, rfl, (e1 _ hlt).symm, rfl, ?_⟩
                rw [e2 _ hlt]
                show (s0.depths ++ [_]).getD j 0 = _
                rw [getD_snoc _ _ _ hd]
                exact if_neg hjb
              · rw [getD_app_l _ _ _ (by rw [I.len]; omega)]
                have := I.upon j (by omega) hjb
                have hlt := this.1
                refine ⟨hlt, this.2.1, ?_, this.2.2.2.1, ?_⟩
                · rw [e1 _ (by omega)]; exact this.2.2.1
                · rw [e2 _ (by omega), e2 _ (by omega)]; exact this.2.2.2.2
open Go.RowKit
theorem lookup_zip_at {α β : Type} [BEq α] [LawfulBEq α] : ∀ (l : List α) (m : List β) (j : Nat) (x : α) (y : β), l.Nodup → l[j]? = some x → m[j]? = some y → (l.zip m).lookup x = some y
  | [], _, _, _, _, _, h, _ => by simp at h
  | _ :: _, [], _, _, _, _, _, h => by simp at h
  | a :: l, b :: m, 0, x, y, _, h1, h2 => by
    simp only [List.getElem?_cons_zero, Option.some.injEq] at h1 h2
    rw [h1, h2, List.zip_cons_cons, List.lookup_cons]; simp
  | a :: l, b :: m, j + 1, x, y, hn, h1, h2 => by
    simp only [List.getElem?_cons_succ] at h1 h2
    have hn' := List.nodup_cons.1 hn
    have : (x == a) = false := by
      simp only [beq_eq_false_iff_ne]
      intro e
      exact hn'.1 (e ▸ List.mem_of_getElem? h1)
    rw [List.zip_cons_cons, List.lookup_cons, this]
    exact lookup_zip_at l m j x y hn'.2 h1 h2
theorem lookup_zip_map {α β γ : Type} [BEq α] (f : β → γ) (x : α) : ∀ (l : List α) (m : List β), (l.zip (m.map f)).lookup x = ((l.zip m).lookup x).map f
  | [], _ => by simp
  | _ :: _, [] => by simp
  | a :: l, b :: m => by
    rw [List.map_cons, List.zip_cons_cons, List.zip_cons_cons, List.lookup_cons, List.lookup_cons, lookup_zip_map f x l m]
    split <;> rfl
def entG (s : BS) (es : List Ent) (id : Bs) : Option Ent := (s.ids.zip es).lookup id
theorem some_getD {α : Type} {l : List α} {i : Nat} (d : α) (h : i < l.length) : l[i]? = some (l.getD i d) := by
  rw [List.getD_eq_getElem?_getD, List.getElem?_eq_getElem h]; rfl
section
variable {ps : List Pt} {n : Nat} {s : BS} {es : List Ent}
theorem BInv.at_ (I : BInv ps n s es) {j : Nat} (hj : j < n) : entG s es (s.ids.getD j []) = some (es.getD j dEnt.1) :=
  lookup_zip_at _ _ j _ _ I.nodup (some_getD [] (by rw [I.ok.ids]; exact hj)) (some_getD _ (by rw [I.len]; exact hj))
theorem BInv.place (I : BInv ps n s es) (id : Bs) : placesG s id = (entG s es id).map Ent.pos := by
  unfold placesG entG
  rw [← I.pos, lookup_zip_map]
theorem BInv.ix (I : BInv ps n s es) {id : Bs} (h : id ∈ s.ids) : ∃ j, j < n ∧ s.ids.getD j [] = id := by
  obtain ⟨j, hj, e⟩ := List.getElem_of_mem h
  refine ⟨j, by rw [I.ok.ids] at hj; exact hj, ?_⟩
  rw [List.getD_eq_getElem?_getD, List.getElem?_eq_getElem hj]
  exact e
theorem BInv.miss (I : BInv ps n s es) {id : Bs} (h : id ∉ s.ids) : entG s es id = none := lookup_zip_none _ _ _ h
theorem BInv.posj (I : BInv ps n s es) {j : Nat} (hj : j < n) : s.places.getD j 0 = (es.getD j dEnt.1).pos := by
  rw [← I.pos, List.getD_eq_getElem?_getD, List.getElem?_map, some_getD dEnt.1 (by rw [I.len]; exact hj)]; rfl
theorem BInv.lt (I : BInv ps n s es) {i j : Nat} (hi : i < j) (hj : j < n) : (es.getD i dEnt.1).pos < (es.getD j dEnt.1).pos := by
  rw [← I.posj (by omega), ← I.posj hj]
  have h1 : i < s.places.length := by rw [I.ok.places]; omega
  have h2 : j < s.places.length := by rw [I.ok.places]; omega
  have := List.pairwise_iff_getElem.1 I.asc i j h1 h2 hi
  rw [List.getD_eq_getElem?_getD, List.getElem?_eq_getElem h1, List.getD_eq_getElem?_getD, List.getElem?_eq_getElem h2]
  exact this
theorem BInv.inj (I : BInv ps n s es) {i j : Nat} (hi : i < n) (hj : j < n) (h : (es.getD i dEnt.1).pos = (es.getD j dEnt.1).pos) : i = j := by
  rcases Nat.lt_trichotomy i j with h1 | h1 | h1
  · have := I.lt h1 hj; omega
  · exact h1
  · have := I.lt h1 hi; omega
theorem BInv.placeGo (I : BInv ps n s es) : ∀ (i j : Nat), j < i → i ≤ n → placeGo Ent.pos dEnt.1 es i (es.getD j dEnt.1).pos = some (es.getD j dEnt.1)
  | 0, _, h, _ => by omega
  | i + 1, j, h, hi => by
    show updM (Go.Proofs.YtcegdjpdnlaleaaDoor.placeGo Ent.pos dEnt.1 es i) _ _ _ = _
    unfold updM
    by_cases e : j = i
    · subst e; rw [if_pos rfl]
    · rw [if_neg (fun q => e (I.inj (by omega) (by omega) q))]
      exact I.placeGo i j (by omega) (by omega)
end
def rowB (s : BS) (id : Bs) : Bs := id ++ fourP ((placesG s id).getD 0)
def rowsB (s : BS) : Bs := (sortB s.ids).flatMap (rowB s)
theorem drop_flat {α : Type} (g : α → Bs) (k : Nat) : ∀ (l : List α) (i : Nat), (∀ x ∈ l, (g x).length = k) → (l.flatMap g).drop (k * i) = (l.drop i).flatMap g
  | [], i, _ => by simp
  | a :: l, 0, _ => by simp
  | a :: l, i + 1, h => by
    rw [List.flatMap_cons, List.drop_succ_cons, show k * (i + 1) = (g a).length + k * i by rw [h a (by simp), Nat.mul_succ, Nat.add_comm], drop_app]
    exact drop_flat g k l i fun x hx => h x (by simp [hx])
theorem drop_getD {α : Type} {l : List α} {i : Nat} (d : α) (h : i < l.length) : l.drop i = l.getD i d :: l.drop (i + 1) := by
  rw [List.drop_eq_getElem_cons h, List.getD_eq_getElem?_getD, List.getElem?_eq_getElem h]; rfl
section
variable {ps : List Pt} {n : Nat} {s : BS} {es : List Ent}
theorem BInv.sortlen (I : BInv ps n s es) : (sortB s.ids).length = n := by rw [sortB_len, I.ok.ids]
theorem BInv.sortnd (I : BInv ps n s es) : (sortB s.ids).Nodup := (sortB_perm s.ids).nodup_iff.2 I.nodup
theorem mem_sort {l : List Bs} {x : Bs} : x ∈ sortB l ↔ x ∈ l := (sortB_perm l).mem_iff
theorem BInv.row (I : BInv ps n s es) {i : Nat} (hi : i < n) : (rowsB s).drop (36 * i) = rowB s ((sortB s.ids).getD i []) ++ ((sortB s.ids).drop (i + 1)).flatMap (rowB s) := by
  unfold rowsB
  rw [drop_flat (rowB s) 36 _ i (fun x hx => by unfold rowB; rw [List.length_append, fourP_len, I.ok.len x (mem_sort.1 hx)]), drop_getD [] (by rw [I.sortlen]; exact hi), List.flatMap_cons]
theorem BInv.sorted_mem (I : BInv ps n s es) {i : Nat} (hi : i < n) : (sortB s.ids).getD i [] ∈ s.ids := mem_sort.1 (getD_mem [] (by rw [I.sortlen]; exact hi))
theorem BInv.rowId (I : BInv ps n s es) {i : Nat} (hi : i < n) : rowId (rowsB s) i = (sortB s.ids).getD i [] := by
  unfold Go.Proofs.YtcegdjpdnlaleaaDoor.rowId
  have h32 := I.ok.len _ (I.sorted_mem hi)
  rw [I.row hi]
  unfold rowB
  rw [List.append_assoc, ← h32, List.take_left]
theorem BInv.rowAt (hL : LightP ps) (hn : n ≤ ps.length) (I : BInv ps n s es) {i : Nat} (hi : i < n) : rowAt (rowsB s) i = (placesG s ((sortB s.ids).getD i [])).getD 0 := by
  unfold Go.Proofs.YtcegdjpdnlaleaaDoor.rowAt
  have hm := I.sorted_mem hi
  have h32 := I.ok.len _ hm
  rw [I.row hi]
  unfold rowB
  rw [List.append_assoc, ← h32, List.drop_left]
  refine numP_fourP _ ?_ _
  obtain ⟨j, hj, e⟩ := I.ix hm
  rw [← e, I.place, I.at_ hj, Option.map_some, Option.getD_some, ← I.posj hj]
  have h1 := I.ok.pl _ (getD_mem 0 (l := s.places) (i := j) (by rw [I.ok.places]; exact hj))
  have := hL.1
  omega
theorem BInv.fresh (I : BInv ps n s es) {i : Nat} (hi : i < n) : (sortB s.ids).getD i [] ∉ (sortB s.ids).take i := by
  intro h
  obtain ⟨j, hj, e⟩ := List.getElem_of_mem h
  rw [List.length_take, I.sortlen] at hj
  have hlen := I.sortlen
  have := List.pairwise_iff_getElem.1 I.sortnd j i (by omega) (by omega) (by omega)
  apply this
  rw [List.getElem_take] at e
  rw [e, List.getD_eq_getElem?_getD, List.getElem?_eq_getElem (by omega)]
  rfl
theorem BInv.index (hL : LightP ps) (hn : n ≤ ps.length) (I : BInv ps n s es) : ∀ i, i ≤ n → ∃ S, ixGo Ent.pos dEnt.1 (rowsB s) es i = some S ∧ S.ids = (sortB s.ids).take i ∧ (∀ id ∈ s.ids, id ∉ (sortB s.ids).take i → S.G ((placesG s id).getD 0) = entG s es id) ∧ ∀ id, S.M id = if id ∈ (sortB s.ids).take i then entG s es id else none
  | 0, _ => by
    refine ⟨_, rfl, rfl, fun id hid _ => ?_, fun id => by simp⟩
    obtain ⟨j, hj, rfl⟩ := I.ix hid
    rw [I.place, I.at_ hj, Option.map_some, Option.getD_some, I.len]
    exact I.placeGo n j hj (Nat.le_refl _)
  | i + 1, hi => by
    obtain ⟨S, h1, h2, h3, h4⟩ := I.index hL hn i (by omega)
    have hlen := I.sortlen
    have hx := I.sorted_mem (show i < n by omega)
    have hf := I.fresh (show i < n by omega)
    obtain ⟨j, hj, e⟩ := I.ix hx
    have hc : entG s es ((sortB s.ids).getD i []) = some (es.getD j dEnt.1) := by rw [← e]; exact I.at_ hj
    have ht : (sortB s.ids).take (i + 1) = (sortB s.ids).take i ++ [(sortB s.ids).getD i []] := by
      rw [List.take_succ_eq_append_getElem (by omega), List.getD_eq_getElem?_getD, List.getElem?_eq_getElem (show i < (sortB s.ids).length by omega)]; rfl
    have hG : S.G (Go.Proofs.YtcegdjpdnlaleaaDoor.rowAt (rowsB s) i) = some (es.getD j dEnt.1) := by
      rw [I.rowAt hL hn (by omega), h3 _ hx hf, hc]
    have ho : i = 0 ∨ Lib.compareBytes (S.ids.getD (i - 1) []) (Go.Proofs.YtcegdjpdnlaleaaDoor.rowId (rowsB s) i) < 0 := by
      rcases Nat.eq_zero_or_pos i with h0 | h0
      · exact .inl h0
      · refine .inr ?_
        rw [I.rowId (by omega), h2]
        have g1 : ((sortB s.ids).take i).getD (i - 1) [] = (sortB s.ids)[i - 1]'(by omega) := by
          rw [List.getD_eq_getElem?_getD, List.getElem?_take, if_pos (by omega), List.getElem?_eq_getElem (by omega)]; rfl
        have g2 : (sortB s.ids).getD i [] = (sortB s.ids)[i]'(by omega) := by
          rw [List.getD_eq_getElem?_getD, List.getElem?_eq_getElem (by omega)]; rfl
        rw [g1, g2]
        have a1 := List.pairwise_iff_getElem.1 (sortB_asc s.ids) (i - 1) i (by omega) (by omega) (by omega)
        have a2 := List.pairwise_iff_getElem.1 I.sortnd (i - 1) i (by omega) (by omega) (by omega)
        have a3 : Lib.compareBytes ((sortB s.ids)[i - 1]'(by omega)) ((sortB s.ids)[i]'(by omega)) ≠ 0 := fun q => a2 (cmp_zero q)
        omega
    refine ⟨ixNext Ent.pos (rowsB s) i S (es.getD j dEnt.1), ?_, ?_, ?_, ?_⟩
    · rw [ixGo_step h1]
      unfold ixStep
      rw [hG]
      exact if_pos ho
    · show S.ids ++ [_] = _
      rw [h2, I.rowId (by omega), ht]
    · intro id hid hni
      rw [ht] at hni
      simp only [List.mem_append, List.mem_singleton, not_or] at hni
      obtain ⟨k, hk, rfl⟩ := I.ix hid
      have hne : (placesG s (s.ids.getD k [])).getD 0 ≠ (es.getD j dEnt.1).pos := by
        rw [I.place, I.at_ hk, Option.map_some, Option.getD_some]
        intro q
        have := I.inj hk hj q
        subst this
        exact hni.2 e
      show updM S.G _ none _ = _
      unfold updM
      rw [if_neg hne]
      exact h3 _ hid hni.1
    · intro id
      show updM S.M _ _ _ = _
      unfold updM
      rw [I.rowId (by omega), ht, h4]
      by_cases q : id = (sortB s.ids).getD i []
      · rw [if_pos q, if_pos (by rw [q]; simp), q, hc]
      · rw [if_neg q]
        by_cases q2 : id ∈ (sortB s.ids).take i
        · rw [if_pos q2, if_pos (by simp [q2])]
        · rw [if_neg q2, if_neg (by simp only [List.mem_append, List.mem_singleton, not_or]; exact ⟨q2, q⟩)]
def entE (s : BS) (es : List Ent) (k : Bs) : Ent := (entG s es k).getD dEnt.1
theorem BInv.E (I : BInv ps n s es) {j : Nat} (hj : j < n) : entE s es (s.ids.getD j []) = es.getD j dEnt.1 := by unfold entE; rw [I.at_ hj]; rfl
theorem BInv.depth (I : BInv ps n s es) : ∀ (m j : Nat), j < n → s.depths.getD j 0 ≤ m → depthGo (entE s es) m (es.getD j dEnt.1) = some (s.depths.getD j 0)
  | m, j, hj, hm => by
    by_cases hb : (ps.getD j dPt).base < 0
    · have := I.flat j hj hb
      rw [depthGo_flat this.1, this.2.2]
    · obtain ⟨h1, h2, h3, h4, h5⟩ := I.upon j hj hb
      cases m with
      | zero => omega
      | succ m =>
        rw [depthGo_step h2, h3, I.E (by omega), I.depth m _ (by omega) (by omega), h5]
        rfl
theorem BInv.chain (hL : LightP ps) (hn : n ≤ ps.length) (I : BInv ps n s es) : ∀ (m j : Nat), j < n → s.depths.getD j 0 = m → chainGo (entE s es) (m + 1) (s.ids.getD j []) = some ((ps.getD j dPt).bytes, m)
  | m, j, hj, hm => by
    have hp := hL.2 _ (getD_mem dPt (l := ps) (i := j) (by omega))
    by_cases hb : (ps.getD j dPt).base < 0
    · obtain ⟨h1, h2, h3⟩ := I.flat j hj hb
      rw [chainGo_flat (by rw [I.E hj]; exact h1), I.E hj, h2, if_pos (by omega)]
      rw [h3] at hm
      rw [hm]
    · obtain ⟨h1, h2, h3, h4, h5⟩ := I.upon j hj hb
      have hq := hL.2 _ (getD_mem dPt (l := ps) (i := (ps.getD j dPt).base.toNat) (by omega))
      cases m with
      | zero => omega
      | succ m =>
        rw [chainGo_based (by rw [I.E hj]; exact h2), I.E hj, h3, I.chain hL hn m _ (by omega) (by omega), h4]
        show (if _ then (if _ then some (_, m + 1) else none) else none) = _
        dsimp only
        rw [apply_make _ _ (by omega) (by omega), if_pos rfl, if_pos (by dsimp only; omega)]
def objB (ps : List Pt) (s : BS) (id : Bs) : Option (Bs × Nat) := (s.ids.zip ((ps.map Pt.bytes).zip s.depths)).lookup id
theorem BInv.obj (hL : LightP ps) (hn : n = ps.length) (I : BInv ps n s es) {j : Nat} (hj : j < n) : objB ps s (s.ids.getD j []) = some ((ps.getD j dPt).bytes, s.depths.getD j 0) :=
  lookup_zip_at _ _ j _ _ I.nodup (some_getD [] (by rw [I.ok.ids]; exact hj)) (by
    rw [List.getElem?_zip_eq_some]
    dsimp only
    exact ⟨by rw [List.getElem?_map, some_getD dPt (by omega)]; rfl, some_getD 0 (by rw [I.ok.depths]; exact hj)⟩)
theorem BInv.sum (hn : n ≤ ps.length) (I : BInv ps n s es) {j : Nat} (hj : j < n) : Sha.sum (ps.getD j dPt).bytes = s.ids.getD j [] := by
  have : s.ids[j]? = some (Sha.sum (ps.getD j dPt).bytes) := by
    rw [I.ids, List.getElem?_map, List.getElem?_take, if_pos hj, some_getD dPt (by omega)]; rfl
  rw [show s.ids.getD j [] = (s.ids[j]?).getD [] from List.getD_eq_getElem?_getD, this]; rfl
theorem BInv.objs (hL : LightP ps) (hn : n = ps.length) (I : BInv ps n s es) : ∀ i, i ≤ n → ∃ o, objGo (entE s es) (sortB s.ids) i = .ok o ∧ o.total ≤ 200 * i ∧ ∀ id, o.O id = if id ∈ (sortB s.ids).take i then objB ps s id else none
  | 0, _ => ⟨_, rfl, Nat.le_refl _, fun id => by simp⟩
  | i + 1, hi => by
    obtain ⟨o, h1, h2, h3⟩ := I.objs hL hn i (by omega)
    have hlen := I.sortlen
    have hx := I.sorted_mem (show i < n by omega)
    obtain ⟨j, hj, e⟩ := I.ix hx
    have hp := hL.2 _ (getD_mem dPt (l := ps) (i := j) (by omega))
    have h60 := hL.1
    have hd := I.ok.dp _ (getD_mem 0 (l := s.depths) (i := j) (by rw [I.ok.depths]; exact hj))
    have ht : (sortB s.ids).take (i + 1) = (sortB s.ids).take i ++ [(sortB s.ids).getD i []] := by
      rw [List.take_succ_eq_append_getElem (by omega), List.getD_eq_getElem?_getD, List.getElem?_eq_getElem (show i < (sortB s.ids).length by omega)]; rfl
    have g : objStep (entE s es) ((sortB s.ids).getD i []) o = .ok ⟨o.total + (ps.getD j dPt).bytes.length, updM o.O ((sortB s.ids).getD i []) (some ((ps.getD j dPt).bytes, s.depths.getD j 0))⟩ := by
      rw [← e, objStep_eq (by rw [I.E hj]; exact I.depth 50 j hj hd) (I.chain hL (by omega) _ j hj rfl), if_pos (I.sum (by omega) hj), if_pos (by omega)]
    refine ⟨_, by rw [objGo_step h1]; exact g, by dsimp only; omega, fun id => ?_⟩
    dsimp only
    unfold updM
    rw [ht, h3]
    by_cases q : id = (sortB s.ids).getD i []
    · rw [if_pos q, if_pos (by rw [q]; simp), q, ← e, I.obj hL hn hj]
    · rw [if_neg q]
      by_cases q2 : id ∈ (sortB s.ids).take i
      · rw [if_pos q2, if_pos (by simp [q2])]
      · rw [if_neg q2, if_neg (by simp only [List.mem_append, List.mem_singleton, not_or]; exact ⟨q2, q⟩)]
theorem countP_perm {l m : List Bs} (h : l.Perm m) (p : Bs → Bool) : l.countP p = m.countP p := h.countP_eq p
theorem fanL_sort (l : List Bs) : fanL (sortB l) = fanL l := by
  unfold fanL
  congr 1
  funext c
  exact countP_perm (sortB_perm l) _
theorem flat4_drop (l : List Nat) (X : Bs) (i : Nat) (hi : i < l.length) (hv : ∀ x ∈ l, x < 2 ^ 32) : numP ((l.flatMap fourP ++ X).drop (4 * i)) = l.getD i 0 := by
  have hl := flat4 l
  rw [List.drop_append, drop_flat fourP 4 l i (fun _ _ => rfl), drop_getD 0 hi, List.flatMap_cons, List.append_assoc]
  exact numP_fourP _ (hv _ (getD_mem 0 hi)) _
theorem open_build (hL : LightP ps) (h : bgo ps ps.length = .ok s) : openP (buildP ps).1 = .ok (sortB s.ids, objB ps s) := by
  obtain ⟨es, I⟩ := bgo_inv hL ps.length s (Nat.le_refl _) h
  have h60 := hL.1
  have hB := I.ok.b
  have hbl := behindB_len I.ok s.b.length
  have hsl : ∀ x, (Sha.sum x).length = 32 := Sha.sum_length
  have e1 : (buildP ps).1 = s.b ++ behindB s s.b.length ++ Sha.sum (s.b ++ behindB s s.b.length) := by unfold buildP; rw [h]
  have hlen : (buildP ps).1.length = s.b.length + (1028 + 36 * ps.length) + 32 := by rw [e1, List.length_append, List.length_append, hbl, hsl]
  have hbeh : behindB s s.b.length = (fanL s.ids).flatMap fourP ++ rowsB s ++ fourP s.b.length := rfl
  have hfan : ((fanL s.ids).flatMap fourP).length = 1024 := by rw [flat4, fanL_len]
  have hrows : (rowsB s).length = 36 * ps.length := by
    have := flat36 (fun id => (placesG s id).getD 0) (sortB s.ids) (fun x hx => I.ok.len x (mem_sort.1 hx))
    rw [I.sortlen] at this
    exact this
  have huv := uv3 (n := ps.length) (by omega)
  generalize hC : (buildP ps).1 = c at e1 hlen ⊢
  unfold openP
  rw [if_neg (by omega), if_neg (by omega), if_pos (by
    rw [e1, List.length_append, hsl, Nat.add_sub_cancel, List.take_left, List.drop_left])]
  -- the head
  obtain ⟨r, hr⟩ : ∃ r, s.b = 80 :: Lib.uvarint ps.length ++ r := by
    have : ∀ i t, bgo ps i = .ok t → ∃ r, t.b = 80 :: Lib.uvarint ps.length ++ r := by
      intro i
      induction i with
      | zero => intro t ht; cases ht; exact ⟨[], by simp⟩
      | succ i ih =>
        intro t ht
        cases hb : bgo ps i with
        | error e => rw [bgo_err hb 1] at ht; cases ht
        | ok t0 =>
          obtain ⟨r, hr⟩ := ih t0 hb
          rw [bgo_step hb] at ht
          unfold pstep at ht
          split at ht
          · cases ht
          · split at ht
            · cases ht
            · split at ht
              · cases ht
              · cases ht
                exact ⟨r ++ chunkB ps i t0, by rw [bnext_b, hr, List.append_assoc]⟩
    exact this _ _ h
  have hd1 : c.drop 1 = Lib.uvarint ps.length ++ (r ++ behindB s s.b.length ++ Sha.sum (s.b ++ behindB s s.b.length)) := by
    rw [e1, hr]
    simp only [List.cons_append, List.append_assoc, List.drop_succ_cons, List.drop_zero]
  have h80 : c.getD 0 0 = 80 := by rw [e1, hr]; rfl
  have hat : numP (c.drop (c.length - 36)) = s.b.length := by
    have e2 : c = (s.b ++ (fanL s.ids).flatMap fourP ++ rowsB s) ++ (fourP s.b.length ++ Sha.sum (s.b ++ behindB s s.b.length)) := by rw [e1, hbeh]; simp only [List.append_assoc]
    have e3 : c.length - 36 = (s.b ++ (fanL s.ids).flatMap fourP ++ rowsB s).length := by rw [hlen]; simp only [List.length_append, hfan, hrows]; omega
    rw [e3, e2, List.drop_left]
    exact numP_fourP _ (by omega) _
  have hfirst : 1 + (Lib.uvarint ps.length).length ≤ s.b.length := by rw [hr]; simp only [List.cons_append, List.length_cons, List.length_append]; omega
  have hent : entriesP c ps.length (1 + (Lib.uvarint ps.length).length) s.b.length = some es := by
    unfold entriesP
    rw [e1, List.append_assoc, I.ent _ _ (Nat.le_refl _)]
    show (if s.b.length = s.b.length then some es else none) = _
    rw [if_pos rfl]
  obtain ⟨S, g1, g2, g3, g4⟩ := I.index hL (Nat.le_refl _) ps.length (Nat.le_refl _)
  have htake : (sortB s.ids).take ps.length = sortB s.ids := List.take_of_length_le (by rw [I.sortlen]; exact Nat.le_refl _)
  rw [htake] at g2 g4
  have hM : S.M = entG s es := by
    funext id
    rw [g4]
    split
    · rfl
    · rename_i q
      exact (I.miss (fun q2 => q (mem_sort.2 q2))).symm
  have hE : entOf S.M = entE s es := by rw [hM]; rfl
  obtain ⟨o, o1, o2, o3⟩ := I.objs hL rfl ps.length (Nat.le_refl _)
  have hO : o.O = objB ps s := by
    funext id
    rw [o3, htake]
    split
    · rfl
    · rename_i q
      exact (lookup_zip_none _ _ _ (fun q2 => q (mem_sort.2 q2))).symm
  have ht : (c.drop (s.b.length + 1024)).take (c.length - 36 - (s.b.length + 1024)) = rowsB s := by
    have e2 : c = (s.b ++ (fanL s.ids).flatMap fourP) ++ (rowsB s ++ (fourP s.b.length ++ Sha.sum (s.b ++ behindB s s.b.length))) := by rw [e1, hbeh]; simp only [List.append_assoc]
    have e3 : s.b.length + 1024 = (s.b ++ (fanL s.ids).flatMap fourP).length := by rw [List.length_append, hfan]
    rw [e2, e3, List.drop_left, show ∀ a : Nat, a - (s.b ++ (fanL s.ids).flatMap fourP).length = a - (s.b.length + 1024) from fun a => by rw [e3], ← e2, hlen, show s.b.length + (1028 + 36 * ps.length) + 32 - 36 - (s.b.length + 1024) = (rowsB s).length by rw [hrows]; omega, List.take_left]
  unfold readP
  rw [hd1, lebDec_uv _ (by omega)]
  dsimp only
  rw [hat]
  unfold readA
  rw [if_pos ⟨h80, hfirst, by omega, by omega⟩, if_pos (by omega)]
  unfold readB
  rw [hent]
  show readC c s.b.length es = _
  unfold readC
  rw [ht, I.len, g1]
  show readD c s.b.length es S = _
  unfold readD
  rw [if_pos (fanB_of fun i hi => by
    rw [g2, fanL_sort, e1, hbeh]
    have e2 : s.b ++ ((fanL s.ids).flatMap fourP ++ rowsB s ++ fourP s.b.length) ++ Sha.sum (s.b ++ ((fanL s.ids).flatMap fourP ++ rowsB s ++ fourP s.b.length)) = s.b ++ ((fanL s.ids).flatMap fourP ++ (rowsB s ++ (fourP s.b.length ++ Sha.sum (s.b ++ ((fanL s.ids).flatMap fourP ++ rowsB s ++ fourP s.b.length))))) := by simp only [List.append_assoc]
    rw [e2, drop_app]
    refine flat4_drop _ _ i (by rw [fanL_len]; exact hi) fun x hx => ?_
    obtain ⟨k, hk, rfl⟩ := List.getElem_of_mem hx
    have := fanL_le s.ids k
    rw [List.getD_eq_getElem?_getD, List.getElem?_eq_getElem hk, I.ok.ids] at this
    have : (fanL s.ids)[k] ≤ ps.length := this
    omega), if_pos (by
    refine List.all_eq_true.2 fun e he => ?_
    obtain ⟨j, hj, rfl⟩ := List.getElem_of_mem he
    rw [I.len] at hj
    have ej : es[j] = es.getD j dEnt.1 := by rw [List.getD_eq_getElem?_getD, List.getElem?_eq_getElem]; rfl
    rw [ej, hM]
    by_cases hb : (ps.getD j dPt).base < 0
    · rw [(I.flat j hj hb).1]; rfl
    · obtain ⟨k1, k2, k3, -⟩ := I.upon j hj hb
      rw [k2, k3, I.at_ (by omega)]
      rfl)]
  rw [hE, g2, readE_ok (o := o) (by rw [I.sortlen]; exact o1), hO]
end
open Go.RowKit
section
variable {P : Program} {K : Value → World → Prop} {ρ : Slots} {w : World} {d : Option Tmp} {ty : TypeId} {pos : String} {af : Array Edge} {gd : Option (Nat × Bool)}
theorem run_slNil {t e : TypeId} (ht : P.underlying t = some (.slice e)) (a : Option Addr) (n c : Nat) (w : World) : (Op.equal t (.slice a n c) (.slice none 0 0)).run P w = .ok a.isNone w := by
  unfold Op.equal
  rw [show Op.maxDepth = (Op.maxDepth - 1) + 1 from rfl]
  cases a <;> simp [Op.equalIn, run_underlying ht, Sem.run_bind, Sem.run_pure]
theorem Yk.eqlNilSl {t e ty2 : TypeId} (ht : P.underlying t = some (.slice e)) {x : Operand} {a : Option Addr} {n c : Nat} (hx : evalR ρ x = .slice a n c) (hk : K (.bool a.isNone) w) : Yk P K ((execOp (evalR ρ) ⟨d, .binOp .eql t x (.const (.slice none 0 0)) ty2, ty, pos, af, gd⟩).run P w) := by
  have hy : evalR ρ (.const (.slice none 0 0)) = .slice none 0 0 := rfl
  refine Yk.value (v := .bool a.isNone) (w' := w) ?_ hk
  have hr := run_slNil ht a n c w
  unfold execOp
  simp only [hx, hy]
  cases a <;> simp [eqGuard, Go.binOp, hr]
theorem Yk.lit0G {α : Type} {k : Nat} {enc : α → List Value} {t e : TypeId} (hr : ∀ (w : World), (Instr.buildSlice t 0 #[]).run P w = .ok (.slice (some ⟨w.heap.size, 0, none⟩) 0 0) (w.alloc (.cells #[] e)))
    (hk : ∀ v w', OG w.heap.size e k enc w' v [] → Ext w w' → K v w') : Yk P K ((execOp (evalR ρ) ⟨d, .buildSlice t 0 #[], ty, pos, af, gd⟩).run P w) := by
  have hr' : (execOp (evalR ρ) ⟨d, .buildSlice t 0 #[], ty, pos, af, gd⟩).run P w = .ok (.value (.slice (some ⟨w.heap.size, 0, none⟩) 0 0)) (w.alloc (.cells #[] e)) := by
    unfold execOp
    simp only [List.map_toArray, List.map_nil, Sem.run_bind, hr, Result.andThen_ok, Sem.run_pure]
  rw [hr']
  refine hk _ _ ⟨fun x hx => (List.not_mem_nil hx).elim, ⟨by simp, .inr ⟨w.heap.size, 0, #[], rfl, Nat.le_refl _, heap_alloc_new w _, Nat.le_refl _, by simp [maxLen], by simp, by simp⟩⟩⟩ (Below.alloc (Below.refl _ _) (Nat.le_refl _) _)
end
open Go.RowKit
set_option maxRecDepth 100000
def PackO (w : World) (v : Value) : Option PackV → Prop
 | none => v = .pointer none
 | some p => PackAt w v p
theorem PackO.keep {w w' : World} {v : Value} : ∀ {q : Option PackV}, PackO w v q → Ext w w' → PackO w' v q
 | none, h, _ => h
 | some _, h, k => PackAt.keep h k
def idsQ (q : Option PackV) : List Bs := match q with | none => [] | some p => p.1
def lenQ (q : Option PackV) : Nat := (idsQ q).length
def getQ (q : Option PackV) (id : Bs) : (Bs × Nat) × Nat :=
 match q with
 | none => (([], 0), 1)
 | some p => match p.2 id with
  | none => (([], 0), 12)
  | some x => (x, 0)
theorem pk23_ty24 : Tryd.prog.underlying 24 = some (.slice 5) := by kernel_rfl
theorem pk23_l0_24 (w : World) : (Instr.buildSlice 24 0 #[]).run Tryd.prog w = .ok (.slice (some ⟨w.heap.size, 0, none⟩) 0 0) (w.alloc (.cells #[] 5)) := by kernel_rfl
theorem pk23_inf5 : (Tryd.prog.info? 5).map (fun i => (i.zero, i.size, i.bytes)) = some (some (.int .u8 0), 1, 1) := by kernel_rfl
theorem pk23_ty47 : Tryd.prog.underlying 47 = some (.slice 38) := by kernel_rfl
theorem pk23_l0_47 (w : World) : (Instr.buildSlice 47 0 #[]).run Tryd.prog w = .ok (.slice (some ⟨w.heap.size, 0, none⟩) 0 0) (w.alloc (.cells #[] 38)) := by kernel_rfl
theorem pk23_ig38 : ∃ z, (Tryd.prog.info? 38).map (fun i => (i.zero, i.size, i.bytes)) = some (some z, 32, 32) ∧ z.cells.size = 32 := info_ex (by kernel_rfl)
theorem pk23_ty33 : Tryd.prog.underlying 33 = some (.pointer 74) := by kernel_rfl
theorem pk23_fo74_0 : FieldOff Tryd.prog 74 0 0 := fun b o w => by simp [go_sem]
theorem pk23_pl48 : Plain Tryd.prog 48 := fun _ _ => by kernel_rfl
theorem pk23_isz81 : (Tryd.prog.info? 81).map (·.size) = some 2 := by kernel_rfl
theorem pk23_al81 {d : Option Tmp} {ty : TypeId} {pos : String} {af : Array Edge} {gd : Option (Nat × Bool)} (σ : Operand → Value) (w : World) : (execOp σ ⟨d, .alloc 81, ty, pos, af, gd⟩).run Tryd.prog w = .ok (.value (PQ w.heap.size 0)) (w.alloc (.cells ([(Value.slice none 0 0), NI 0]).toArray 81)) := by kernel_rfl
theorem pk23_ty81 : ∃ fs, Tryd.prog.underlying 81 = some (.struct fs) := struct_of (by kernel_rfl)
theorem pk23_fo74_1 : FieldOff Tryd.prog 74 1 1 := fun b o w => by simp [go_sem]
theorem pk23_ty72 : Tryd.prog.underlying 72 = some (.map 38 81) := by kernel_rfl
theorem pk23_ty38 : Tryd.prog.underlying 38 = some (.array 32 5) := by kernel_rfl
theorem pk23_pl41 : Plain Tryd.prog 41 := fun _ _ => by kernel_rfl
theorem pk23_fo81_1 : FieldOff Tryd.prog 81 1 1 := fun b o w => by simp [go_sem]
theorem pk23_ty3 : Tryd.prog.underlying 3 = some (.int .i64) := by kernel_rfl
theorem pk23_fo81_0 : FieldOff Tryd.prog 81 0 0 := fun b o w => by simp [go_sem]
theorem pk23_pl42 : Plain Tryd.prog 42 := fun _ _ => by kernel_rfl
set_option maxHeartbeats 1600000
theorem cloneN (w : World) :
  Calls Tryd.prog 42 #[(.slice none 0 0)] w fun e w' => ∃ v', e = .returned v' ∧ NewB 5 w w' v' [] := by
 refine calls_of_wpF (args := [(.slice none 0 0)]) Tryd.func42 rfl 8 rfl (Nat.le_of_ble_eq_true rfl) ?_
 intro ρ0 hb
 have T0 : ρ0 0 = ((.slice none 0 0) : Value) := hb.get 0
 clear hb
 have hE := Ext.refl w
 refine sk fun K1 hK1 => (wt (oA rfl (oZ (tN (hK1 _ _ (sk fun K2 hK2 => (sk fun K3 hK3 => (wt (oM rfl (oS rfl (Yk.eqlNilSl pk23_ty24 T0 (oZ (tN (hK3 _ _ (wpF_true (vr (.bool (true)) rfl) (sk fun K4 hK4 => (wt (oA rfl ?_))))))))))))))))))
 refine oZ (tN (hK4 _ _ (wpF_ret (thenF_ret (postF_ret (fn := Tryd.f42) _ rfl [(Value.slice none 0 0)] ((Value.slice none 0 0)) rfl ⟨rfl, trivial⟩ ?_)))))
 exact ⟨_, rfl, ⟨World.ownsRow_nil _ _ _ 1, hE.grown⟩⟩

theorem cloneS (w : World) (a : Addr) (c : Nat) (l : Bs) (hr : RB w (.slice (some a) l.length c) l) (hl : l.length < 1099511627776) :
  Calls Tryd.prog 42 #[(.slice (some a) l.length c)] w fun e w' => ∃ v', e = .returned v' ∧ NewB 5 w w' v' l := by
 refine calls_of_wpF (args := [(.slice (some a) l.length c)]) Tryd.func42 rfl 8 rfl (Nat.le_of_ble_eq_true rfl) ?_
 intro ρ0 hb
 have T0 : ρ0 0 = ((.slice (some a) l.length c) : Value) := hb.get 0
 clear hb
 have hE := Ext.refl w
 refine sk fun K1 hK1 => (wt (oA rfl (oZ (tN (hK1 _ _ (sk fun K2 hK2 => (sk fun K3 hK3 => (wt (oM rfl (oS rfl (Yk.eqlNilSl pk23_ty24 T0 (oZ (tN (hK3 _ _ (wpF_false (vr (.bool (false)) rfl) (wpF_skip (tN (hK2 _ _ (sk fun K4 hK4 => ?_)))))))))))))))))))
 refine wt (oS rfl (Yk.lit0 pk23_l0_24 fun v5 w6 hN7 => ?_))
 have hE := hE.trans hN7.ext
 have ho8 := hN7.own; clear hN7
 refine oM rfl (oS rfl (Yk.appendRB _ _ w.heap.size (.int .u8 0) pk23_ty24 pk23_inf5 rfl pk23_ty24 (([] : List UInt8)) (l) (own_of ho8 (vr v5 rfl)) (RB.of (hr.keep hE) T0) (by simp only [List.length_nil]; omega) hE.size fun v9 w10 ho11 hg12 => ?_))
 have hg12 : Grew w6 w10 v5 v9 := hg12
 have hE := ext_grew hE hg12 ho8 (Nat.le_refl _)
 clear ho8
 refine oA rfl (oZ (tN (hK4 _ _ (wpF_ret (postF_ret (fn := Tryd.f42) _ rfl [v9] (v9) rfl ⟨rfl, trivial⟩ ?_)))))
 exact ⟨_, rfl, ⟨(show World.ownsRow _ _ _ _ _ _ _ from by simpa using ho11), hE.grown⟩⟩

theorem clone_any (w : World) (v : Value) (l : Bs) (h : RB w v l) (hl : l.length < 1099511627776) :
  Calls Tryd.prog 42 #[v] w fun e w' => ∃ v', e = .returned v' ∧ NewB 5 w w' v' l := by
 obtain ⟨h1, ao, cap, rfl, h2, h3, h4, h5⟩ := id h
 cases ao with
 | none =>
  have hl := h4 rfl
  have : l = [] := List.eq_nil_of_length_eq_zero hl.1
  subst this
  rw [show cap = 0 from hl.2]
  exact cloneN w
 | some a => exact cloneS w a cap l h hl

theorem cloneIdN (w : World) :
  Calls Tryd.prog 48 #[(.slice none 0 0)] w fun e w' => ∃ v', e = .returned v' ∧ OG w.heap.size 38 32 Lib.byteCells w' v' [] ∧ Ext w w' := by
 refine calls_of_wpF (args := [(.slice none 0 0)]) Tryd.func48 rfl 8 rfl (Nat.le_of_ble_eq_true rfl) ?_
 intro ρ0 hb
 have T0 : ρ0 0 = ((.slice none 0 0) : Value) := hb.get 0
 clear hb
 have hE := Ext.refl w
 refine sk fun K1 hK1 => (wt (oA rfl (oZ (tN (hK1 _ _ (sk fun K2 hK2 => (sk fun K3 hK3 => (wt (oM rfl (oS rfl (Yk.eqlNilSl pk23_ty47 T0 (oZ (tN (hK3 _ _ (wpF_true (vr (.bool (true)) rfl) (sk fun K4 hK4 => (wt (oA rfl ?_))))))))))))))))))
 refine oZ (tN (hK4 _ _ (wpF_ret (thenF_ret (postF_ret (fn := Tryd.f48) _ rfl [(Value.slice none 0 0)] ((Value.slice none 0 0)) rfl ⟨rfl, trivial⟩ ?_)))))
 exact ⟨_, rfl, OG.nil _ _ _ _ _, hE⟩

theorem cloneIdS (w : World) (a : Addr) (c : Nat) (l : List Bs) (hr : RG 32 Lib.byteCells w (.slice (some a) l.length c) l) (hl : l.length < 1099511627776) :
  Calls Tryd.prog 48 #[(.slice (some a) l.length c)] w fun e w' => ∃ v', e = .returned v' ∧ OG w.heap.size 38 32 Lib.byteCells w' v' l ∧ Ext w w' := by
 refine calls_of_wpF (args := [(.slice (some a) l.length c)]) Tryd.func48 rfl 8 rfl (Nat.le_of_ble_eq_true rfl) ?_
 intro ρ0 hb
 have T0 : ρ0 0 = ((.slice (some a) l.length c) : Value) := hb.get 0
 clear hb
 have hE := Ext.refl w
 refine sk fun K1 hK1 => (wt (oA rfl (oZ (tN (hK1 _ _ (sk fun K2 hK2 => (sk fun K3 hK3 => (wt (oM rfl (oS rfl (Yk.eqlNilSl pk23_ty47 T0 (oZ (tN (hK3 _ _ (wpF_false (vr (.bool (false)) rfl) (wpF_skip (tN (hK2 _ _ (sk fun K4 hK4 => ?_)))))))))))))))))))
 refine wt (oS rfl (Yk.lit0G (k := 32) (enc := Lib.byteCells) pk23_l0_47 fun v5 w6 ho7 hx8 => ?_))
 have hE := hE.trans hx8
 refine oM rfl (oS rfl (Yk.appendRG _ _ w.heap.size _ 32 pk23_ty47 pk23_ig38.choose_spec.1 pk23_ig38.choose_spec.2 pk23_ty47 ([]) (l) (OG.of ho7 (vr v5 rfl)) (RG.of (hr.keep hE) T0) (fun _ _ => byteCells_one _) (by simp only [List.length_nil]; omega) (by simp only [List.length_nil]; omega) hE.size fun v9 w10 ho11 hg12 => ?_))
 have hg12 : Grew w6 w10 v5 v9 := hg12
 have hE := ext_grew hE hg12 ho7.2 (Nat.le_refl _)
 clear ho7
 refine oA rfl (oZ (tN (hK4 _ _ (wpF_ret (postF_ret (fn := Tryd.f48) _ rfl [v9] (v9) rfl ⟨rfl, trivial⟩ ?_)))))
 exact ⟨_, rfl, (show OG _ _ _ _ _ _ _ from by simpa using ho11), hE⟩

theorem cloneId_any (w : World) (v : Value) (l : List Bs) (h : RG 32 Lib.byteCells w v l) (hl : l.length < 1099511627776) :
  Calls Tryd.prog 48 #[v] w fun e w' => ∃ v', e = .returned v' ∧ OG w.heap.size 38 32 Lib.byteCells w' v' l ∧ Ext w w' := by
 obtain ⟨h0, h1, ao, cap, rfl, h2, h3, h4, h5⟩ := id h
 cases ao with
 | none =>
  have hl := h4 rfl
  have : l = [] := List.eq_nil_of_length_eq_zero hl.1
  subst this
  rw [show cap = 0 from hl.2]
  exact cloneIdN w
 | some a => exact cloneIdS w a cap l h hl

theorem plen_nil (w : World)  :
  Calls Tryd.prog 16 #[.pointer none] w fun e w' => e = .returned (NI (lenQ (none : Option PackV))) ∧ Ext w w' := by
 refine calls_of_wpF (args := [.pointer none]) Tryd.func16 rfl 10 rfl (Nat.le_of_ble_eq_true rfl) ?_
 intro ρ0 hb
 have T0 : ρ0 0 = (.pointer none : Value) := hb.get 0
 clear hb
 have hE := Ext.refl w
 refine sk fun K1 hK1 => (wt (oA rfl (oZ (tN (hK1 _ _ (sk fun K2 hK2 => (sk fun K3 hK3 => (wt (oM rfl (oS rfl (Yk.eqlNil pk23_ty33 T0 (oZ (tN (hK3 _ _ (wpF_true (vr (.bool (true)) rfl) (sk fun K4 hK4 => (wt (oA rfl ?_))))))))))))))))))
 refine oZ (tN (hK4 _ _ (wpF_ret (thenF_ret (postF_ret (fn := Tryd.f16) _ rfl [NI 0] (NI 0) rfl ⟨rfl, trivial⟩ ?_)))))
 exact ⟨rfl, hE⟩

theorem plen_at (w : World) (g bo : Nat) (vi : Value) (ids : List Bs) (O : Bs → Option ObjV) (hg : w.heap[g]? = some (.cells ([vi, .map (some bo)]).toArray 74 (0, 0))) (hrg : RG 32 Lib.byteCells w vi ids) (hmo : MapF rk objV (fun id : List UInt8 => id.length = 32) w bo O) (hoo : OOk w O) :
  Calls Tryd.prog 16 #[PQ g 0] w fun e w' => e = .returned (NI (lenQ (some (ids, fun k => (O k).map Prod.fst)))) ∧ Ext w w' := by
 refine calls_of_wpF (args := [PQ g 0]) Tryd.func16 rfl 10 rfl (Nat.le_of_ble_eq_true rfl) ?_
 intro ρ0 hb
 have T0 : ρ0 0 = (PQ g 0 : Value) := hb.get 0
 clear hb
 have hE := Ext.refl w
 refine sk fun K1 hK1 => (wt (oA rfl (oZ (tN (hK1 _ _ (sk fun K2 hK2 => (sk fun K3 hK3 => (wt (oM rfl (oS rfl (Yk.eqlNil pk23_ty33 T0 (oZ (tN (hK3 _ _ (wpF_false (vr (.bool (false)) rfl) (wpF_skip (tN (hK2 _ _ (sk fun K4 hK4 => ?_)))))))))))))))))))
 refine wt (oM rfl (oS rfl (Yk.nilCheck T0 (oS rfl (Yk.fieldAt pk23_fo74_0 (vr (PQ g 0) rfl) (oS rfl (Yk.cell1 pk23_ty47 rfl (vr (PQ g 0) rfl) (cellAt hg (show _ = some (vi : Value) from rfl)) (oS rfl (Yk.lenRG pk23_ty47 (RG.of hrg (vr vi rfl)) (oA rfl (oZ (tN (hK4 _ _ (wpF_ret (postF_ret (fn := Tryd.f16) _ rfl [NI ids.length] (NI ids.length) rfl ⟨rfl, trivial⟩ ?_)))))))))))))))
 exact ⟨rfl, hE⟩

theorem plen_any (w : World) (v : Value) (q : Option PackV) (h : PackO w v q) :
  Calls Tryd.prog 16 #[v] w fun e w' => e = .returned (NI (lenQ q)) ∧ Ext w w' := by
 match q, h with
 | none, h => rw [show v = .pointer none from h]; exact plen_nil w
 | some p, h =>
  obtain ⟨g, vi, bo, O, rfl, h2, hg, hrg, hmo, hoo⟩ := h
  obtain ⟨ids, P⟩ := p
  subst h2
  exact plen_at w g bo vi ids O hg hrg hmo hoo

theorem pids_nil (w : World)  :
  Calls Tryd.prog 22 #[.pointer none] w fun e w' => ∃ v', e = .returned v' ∧ OG w.heap.size 38 32 Lib.byteCells w' v' (idsQ (none : Option PackV)) ∧ Ext w w' := by
 refine calls_of_wpF (args := [.pointer none]) Tryd.func22 rfl 10 rfl (Nat.le_of_ble_eq_true rfl) ?_
 intro ρ0 hb
 have T0 : ρ0 0 = (.pointer none : Value) := hb.get 0
 clear hb
 have hE := Ext.refl w
 refine sk fun K1 hK1 => (wt (oA rfl (oZ (tN (hK1 _ _ (sk fun K2 hK2 => (sk fun K3 hK3 => (wt (oM rfl (oS rfl (Yk.eqlNil pk23_ty33 T0 (oZ (tN (hK3 _ _ (wpF_true (vr (.bool (true)) rfl) (sk fun K4 hK4 => (wt (oA rfl ?_))))))))))))))))))
 refine oZ (tN (hK4 _ _ (wpF_ret (thenF_ret (postF_ret (fn := Tryd.f22) _ rfl [(Value.slice none 0 0)] ((Value.slice none 0 0)) rfl ⟨rfl, trivial⟩ ?_)))))
 exact ⟨_, rfl, OG.nil _ _ _ _ _, hE⟩

theorem pids_at (w : World) (g bo : Nat) (vi : Value) (ids : List Bs) (O : Bs → Option ObjV) (hg : w.heap[g]? = some (.cells ([vi, .map (some bo)]).toArray 74 (0, 0))) (hrg : RG 32 Lib.byteCells w vi ids) (hmo : MapF rk objV (fun id : List UInt8 => id.length = 32) w bo O) (hoo : OOk w O) (hi : ids.length < 1099511627776) :
  Calls Tryd.prog 22 #[PQ g 0] w fun e w' => ∃ v', e = .returned v' ∧ OG w.heap.size 38 32 Lib.byteCells w' v' (idsQ (some (ids, fun k => (O k).map Prod.fst))) ∧ Ext w w' := by
 refine calls_of_wpF (args := [PQ g 0]) Tryd.func22 rfl 10 rfl (Nat.le_of_ble_eq_true rfl) ?_
 intro ρ0 hb
 have T0 : ρ0 0 = (PQ g 0 : Value) := hb.get 0
 clear hb
 have hE := Ext.refl w
 refine sk fun K1 hK1 => (wt (oA rfl (oZ (tN (hK1 _ _ (sk fun K2 hK2 => (sk fun K3 hK3 => (wt (oM rfl (oS rfl (Yk.eqlNil pk23_ty33 T0 (oZ (tN (hK3 _ _ (wpF_false (vr (.bool (false)) rfl) (wpF_skip (tN (hK2 _ _ (sk fun K4 hK4 => ?_)))))))))))))))))))
 refine wt (oM rfl (oS rfl (Yk.nilCheck T0 (oS rfl (Yk.fieldAt pk23_fo74_0 (vr (PQ g 0) rfl) (oS rfl (Yk.cell1 pk23_ty47 rfl (vr (PQ g 0) rfl) (cellAt hg (show _ = some (vi : Value) from rfl)) (oS rfl (Yk.callA1 pk23_pl48 (vr vi rfl) ((cloneId_any _ vi ids hrg (by omega)).mono ?_))))))))))
 rintro e w8 ⟨v5, rfl, ho6, hx7⟩
 refine ⟨_, rfl, ?_⟩
 have hg := eb hx7 hg
 have hrg := hrg.keep hx7
 have hmo := hmo.keep hx7
 have hE := hE.trans hx7
 refine oA rfl (oZ (tN (hK4 _ _ (wpF_ret (postF_ret (fn := Tryd.f22) _ rfl [v5] (v5) rfl ⟨rfl, trivial⟩ ?_)))))
 exact ⟨_, rfl, ho6, hE⟩

theorem pids_any (w : World) (v : Value) (q : Option PackV) (h : PackO w v q) (hi : lenQ q < 1099511627776) :
  Calls Tryd.prog 22 #[v] w fun e w' => ∃ v', e = .returned v' ∧ OG w.heap.size 38 32 Lib.byteCells w' v' (idsQ q) ∧ Ext w w' := by
 match q, h with
 | none, h => rw [show v = .pointer none from h]; exact pids_nil w
 | some p, h =>
  obtain ⟨g, vi, bo, O, rfl, h2, hg, hrg, hmo, hoo⟩ := h
  obtain ⟨ids, P⟩ := p
  subst h2
  exact pids_at w g bo vi ids O hg hrg hmo hoo hi

theorem pget0_nil (w : World)  (id : Bs) (hid : id.length = 32) :
  Calls Tryd.prog 41 #[.pointer none, AB id] w fun e w' => ∃ x, e = .returned x ∧ ∃ (o : Bs × Nat) (s : Value), x = .tuple #[.agg ([s, NI o.2]).toArray, NI (getQ (none : Option PackV) id).2] ∧ o = (getQ (none : Option PackV) id).1 ∧ RB w' s o.1 ∧ Ext w w' := by
 refine calls_of_wpF (args := [.pointer none, AB id]) Tryd.func41 rfl 24 rfl (Nat.le_of_ble_eq_true rfl) ?_
 intro ρ0 hb
 have T0 : ρ0 0 = (.pointer none : Value) := hb.get 0
 have T1 : ρ0 1 = (AB id : Value) := hb.get 1
 clear hb
 have hE := Ext.refl w
 refine sk fun K1 hK1 => (wt (oS rfl (Yk.box (cs := (Lib.byteCells id : List Value).toArray) T1 fun n2 w3 hn4 hb5 hx6 hs7 => ?_)))
 have hE := hE.trans hx6
 have hb8 := hb5; clear hb5
 have hl9 : n2 < w3.heap.size := by omega
 refine oS rfl (Yk.alloc (cs := ([(Value.slice none 0 0), NI 0]).toArray) pk23_al81 fun n10 w11 hn12 hb13 hx14 hs15 => ?_)
 have hA16 := Ext.refl w3
 have hea17 := hE
 have hz18 := hE.size
 have hlt19 := lte (bl hb8) hn12
 have hE := hE.trans hx14
 have hb8 := eb hx14 hb8
 have hA16 := hA16.trans hx14
 have hb20 := hb13; clear hb13
 have hl21 : n10 < w11.heap.size := by omega
 refine oA rfl (oZ (tN (hK1 _ _ (sk fun K22 hK22 => (sk fun K23 hK23 => (wt (oM rfl (oS rfl (Yk.eqlNil pk23_ty33 T0 (oZ (tN (hK23 _ _ (wpF_true (vr (.bool (true)) rfl) (sk fun K24 hK24 => (wt (oS rfl (Yk.run (v := .agg ([(Value.slice none 0 0), NI 0]).toArray) (by kernel_rfl) (oS rfl (Yk.storeAll (vr (PQ n10 0) rfl) (vr (.agg ([(Value.slice none 0 0), NI 0]).toArray) rfl) hb20 rfl (show (Tryd.prog.info? 81).map (·.size) = some 2 from pk23_isz81) (obj_one rfl) fun w25 hb26 hg27 hs28 => ?_)))))))))))))))))))
 have hE := row_fresh hE hg27 (Nat.le_trans hz18 (by omega))
 have hb8 := kb hg27 hb8 (by omega)
 have hA16 := row_fresh hA16 hg27 (Nat.le_trans (Nat.le_refl _) (by omega))
 clear hb20
 have hb20 := hb26; clear hb26
 have hl29 := bl hb20
 refine oA rfl (oZ (tN (hK24 _ _ (wpF_ret (thenF_ret (postF_ret (fn := Tryd.f41) _ rfl [.agg ([(Value.slice none 0 0), NI 0]).toArray, NI 1] (.tuple #[.agg ([(Value.slice none 0 0), NI 0]).toArray, NI 1]) rfl ⟨ResF.row rfl hb20 (pk23_ty81).choose_spec rfl ((show (Tryd.prog.info? 81).map (·.size) = some 2 from pk23_isz81)), rfl, trivial⟩ ?_))))))
 exact ⟨_, rfl, ([], 0), _, rfl, rfl, RB.nil _, hE⟩

theorem pget0_at (w : World) (g bo : Nat) (vi : Value) (ids : List Bs) (O : Bs → Option ObjV) (hg : w.heap[g]? = some (.cells ([vi, .map (some bo)]).toArray 74 (0, 0))) (hrg : RG 32 Lib.byteCells w vi ids) (hmo : MapF rk objV (fun id : List UInt8 => id.length = 32) w bo O) (hoo : OOk w O) (id : Bs) (hid : id.length = 32) :
  Calls Tryd.prog 41 #[PQ g 0, AB id] w fun e w' => ∃ x, e = .returned x ∧ ∃ (o : Bs × Nat) (s : Value), x = .tuple #[.agg ([s, NI o.2]).toArray, NI (getQ (some (ids, fun k => (O k).map Prod.fst)) id).2] ∧ o = (getQ (some (ids, fun k => (O k).map Prod.fst)) id).1 ∧ RB w' s o.1 ∧ Ext w w' := by
 refine calls_of_wpF (args := [PQ g 0, AB id]) Tryd.func41 rfl 24 rfl (Nat.le_of_ble_eq_true rfl) ?_
 intro ρ0 hb
 have T0 : ρ0 0 = (PQ g 0 : Value) := hb.get 0
 have T1 : ρ0 1 = (AB id : Value) := hb.get 1
 clear hb
 have hE := Ext.refl w
 refine sk fun K1 hK1 => (wt (oS rfl (Yk.box (cs := (Lib.byteCells id : List Value).toArray) T1 fun n2 w3 hn4 hb5 hx6 hs7 => ?_)))
 have hlt8 := lte (bl hg) hn4
 have hlt9 := lte hmo.lt hn4
 have hg := eb hx6 hg
 have hmo := hmo.keep hx6
 have hE := hE.trans hx6
 have hb10 := hb5; clear hb5
 have hl11 : n2 < w3.heap.size := by omega
 refine oS rfl (Yk.alloc (cs := ([(Value.slice none 0 0), NI 0]).toArray) pk23_al81 fun n12 w13 hn14 hb15 hx16 hs17 => ?_)
 have hA18 := Ext.refl w3
 have hea19 := hE
 have hz20 := hE.size
 have hlt21 := lte (bl hg) hn14
 have hlt22 := lte hmo.lt hn14
 have hlt23 := lte (bl hb10) hn14
 have hg := eb hx16 hg
 have hmo := hmo.keep hx16
 have hE := hE.trans hx16
 have hb10 := eb hx16 hb10
 have hA18 := hA18.trans hx16
 have hb24 := hb15; clear hb15
 have hl25 : n12 < w13.heap.size := by omega
 refine oA rfl (oZ (tN (hK1 _ _ (sk fun K26 hK26 => (sk fun K27 hK27 => (wt (oM rfl (oS rfl (Yk.eqlNil pk23_ty33 T0 (oZ ?_))))))))))
 rcases hO : O id with _ | x
 ·have hQ : getQ (some (ids, fun k => (O k).map Prod.fst)) id = (([], 0), 12) := by show (match (O id).map Prod.fst with | none => _ | some x => _) = _; rw [hO]; rfl
  refine tN (hK27 _ _ (wpF_false (vr (.bool (false)) rfl) (wpF_skip (tN (hK26 _ _ (sk fun K28 hK28 => ?_))))))
  have hA29 := Ext.refl w13
  have hea30 := hE
  have hea31 := hA18
  have hz32 := hE.size
  have hz33 := hA18.size
  have hlt34 : g < w13.heap.size := (bl hg)
  have hlt35 : bo < w13.heap.size := hmo.lt
  have hlt36 : n2 < w13.heap.size := (bl hb10)
  have hlt37 : n12 < w13.heap.size := (bl hb24)
  refine wpF_draw_new 9 10 11 81 ([(Value.slice none 0 0), NI 0]).toArray ([(Value.slice none 0 0), NI 0]).toArray [Is (PQ g 0), Is (PQ g 0), Is (PQ g 1), Is (.map (some bo)), Is (AB id), Is (.tuple #[.agg ([(Value.slice none 0 0), NI 0]).toArray, .bool (false)]), Is (.tuple #[.agg ([(Value.slice none 0 0), NI 0]).toArray, .bool (false)]), Is (.agg ([(Value.slice none 0 0), NI 0]).toArray), Is (.bool (false)), fun x w' => x = PQ w13.heap.size 0 ∧ w13.heap.size < w'.heap.size, (fun _ _ => True)] (by kernel_rfl) [12, 13, 14, 15, 16, 17, 11, 18, 19, 6, 7] (by kernel_rfl) (by kernel_rfl) (by kernel_rfl) (by kernel_rfl) rfl rfl (by kernel_rfl) rfl rfl rfl rfl rfl (si9 ⟨(fun _ _ _ h k => k.elim (fun e => e ▸ h) (fun e => ⟨h.1, e⟩)), Stab.any, trivial⟩) ?hs1003 ?hQ1003
  case hs1003 =>
   refine ⟨?_, ?_, ?_, ?_, ?_, ?_, ?_, ?_, ?_, ?_, ?_, ?_, trivial⟩
   ·refine stepFC (stepN rfl fun σ w1 hC h => ?_)
    have hC : Ext w13 w1 := hC
    have e0 := (eqo (h 0 (by decide))).trans T0
    exact Yk.move e0 ⟨rfl, rfl⟩
   ·refine stepFC (stepN rfl fun σ w1 hC h => ?_)
    have hC : Ext w13 w1 := hC
    have e12 := eqo (h 12 (by decide))
    exact Yk.nilCheck e12 ⟨rfl, rfl⟩
   ·refine stepFC (stepN rfl fun σ w1 hC h => ?_)
    have hC : Ext w13 w1 := hC
    have e13 := eqo (h 13 (by decide))
    exact Yk.fieldAt pk23_fo74_1 e13 ⟨rfl, rfl⟩
   ·refine stepFC (stepN rfl fun σ w1 hC h => ?_)
    have hC : Ext w13 w1 := hC
    have e14 := eqo (h 14 (by decide))
    exact Yk.cell1 pk23_ty72 rfl e14 (cellAt (eb hC hg) (show _ = some (.map (some bo) : Value) from rfl)) ⟨rfl, rfl⟩
   ·refine stepFC (stepN rfl fun σ w1 hC h => ?_)
    have hC : Ext w13 w1 := hC
    have e3 : σ 3 = PQ n2 0 := (eqo (h 3 (by decide))).trans rfl
    exact Yk.loadAll e3 (eb hC hb10) pk23_ty38 rfl (by exact sizeId_of hid) ⟨rfl, rfl⟩
   ·refine stepFC (stepN rfl fun σ w1 hC h => ?_)
    have hC : Ext w13 w1 := hC
    have e15 := eqo (h 15 (by decide))
    have e16 := eqo (h 16 (by decide))
    exact Yk.lookOkN (ek := rk) (ev := objV) (D := (fun id : List UInt8 => id.length = 32)) idLaw id_ok (fun _ _ => rk_inj) pk23_ty72 (z := objV dObj) zeroObj e15 e16 (hmo.keep hC) hid hO ⟨rfl, rfl⟩
   ·refine stepFC (stepN rfl fun σ w1 hC h => ?_)
    have hC : Ext w13 w1 := hC
    have e17 := eqo (h 17 (by decide))
    exact Yk.move e17 ⟨rfl, rfl⟩
   ·refine stepFC (stepN rfl fun σ w1 hC h => ?_)
    have hC : Ext w13 w1 := hC
    have e11 := eqo (h 11 (by decide))
    exact Yk.extract (vs := [.agg ([(Value.slice none 0 0), NI 0]).toArray, .bool (false)]) e11 (show _ = some (.agg ([(Value.slice none 0 0), NI 0]).toArray : Value) from rfl) ⟨rfl, rfl⟩
   ·refine stepFC (stepN rfl fun σ w1 hC h => ?_)
    have hC : Ext w13 w1 := hC
    have e11 := eqo (h 11 (by decide))
    exact Yk.extract (vs := [.agg ([(Value.slice none 0 0), NI 0]).toArray, .bool (false)]) e11 (show _ = some (.bool (false) : Value) from rfl) ⟨rfl, rfl⟩
   ·refine stepFC (stepN rfl fun σ w1 hC h => ?_)
    have hC : w1 = World.drew w13 := hC
    subst hC
    exact Yk.allocX pk23_al81 ⟨rfl, rfl, by simp⟩
   ·refine stepFC (stepN rfl fun σ w1 hC h => ?_)
    have e6 : (fun x w' => x = PQ w13.heap.size 0 ∧ w13.heap.size < w'.heap.size) (σ 6) w1 := h 6 (by decide)
    have e18 := eqo (h 18 (by decide))
    rcases (show w1 = World.drew w13 ∨ w1 = (World.drew w13).alloc (.cells ([(Value.slice none 0 0), NI 0]).toArray 81) from hC) with hC | hC
    ·subst hC; exact absurd e6.2 (Nat.lt_irrefl _)
    ·subst hC
     exact Yk.storeAll e6.1 e18 (heap_alloc_new _ _) rfl (show (Tryd.prog.info? 81).map (·.size) = some 2 from pk23_isz81) (obj_one rfl) fun w2 h1 h2 h3 => ⟨⟨h1, row_fresh ((Below.refl _ _).drew.alloc (Nat.le_refl _) _) h2 (Nat.le_refl _), by rw [h3]; simp⟩, trivial⟩
   ·exact trivial
  intro ρ38 w39 hx40 hb41 hs42 he hf
  obtain ⟨-, -, -, -, -, -, -, -, k19, k6, -⟩ := hf
  obtain ⟨T0, T1, T3, T4, T5, T9, -⟩ := he.hold [(0, _), (1, _), (3, PQ n2 0), (4, PQ n12 0), (5, NI 0), (9, .bool (false))] ⟨T0, T1, rfl, rfl, rfl, rfl, trivial⟩ rfl
  clear he
  have hg := eb hx40 hg
  have hmo := hmo.keep hx40
  have hE := hE.trans hx40
  have hb10 := eb hx40 hb10
  have hA18 := hA18.trans hx40
  have hb24 := eb hx40 hb24
  have hA29 := hA29.trans hx40
  obtain ⟨n43, hn44⟩ : ∃ g, w13.heap.size = g := ⟨_, rfl⟩
  have T6 : ρ38 6 = _ := (show (fun x w' => x = PQ w13.heap.size 0 ∧ w13.heap.size < w'.heap.size) (ρ38 6) w39 from k6).1
  rw [hn44] at T6 hb41 hs42; clear k6
  have hl45 : n43 < w39.heap.size := by omega
  have T19 : ρ38 19 = .bool (false) := k19
  clear k19
  refine oA rfl (oZ (tN (hK28 _ _ (sk fun K46 hK46 => (sk fun K47 hK47 => (wt (oM rfl (oS rfl (Yk.notB T19 (oZ (tN (hK47 _ _ (wpF_true (vr (.bool (true)) rfl) (sk fun K48 hK48 => (wt (oS rfl (Yk.run (v := .agg ([(Value.slice none 0 0), NI 0]).toArray) (by kernel_rfl) (oS rfl (Yk.storeAll T4 (vr (.agg ([(Value.slice none 0 0), NI 0]).toArray) rfl) hb24 rfl (show (Tryd.prog.info? 81).map (·.size) = some 2 from pk23_isz81) (obj_one rfl) fun w49 hb50 hg51 hs52 => ?_)))))))))))))))))))
  have hg := kb hg51 hg (by omega)
  have hmo := MapF.other hmo hg51 (some_ne (by omega))
  have hE := row_fresh hE hg51 (Nat.le_trans hz20 (by omega))
  have hb10 := kb hg51 hb10 (by omega)
  have hA18 := row_fresh hA18 hg51 (Nat.le_trans (Nat.le_refl _) (by omega))
  clear hb24
  clear hA29
  have hb41 := kb hg51 hb41 (by omega)
  have hb24 := hb50; clear hb50
  have hl53 := bl hb24
  refine oA rfl (oZ (tN (hK48 _ _ (wpF_ret (thenF_ret (postF_ret (fn := Tryd.f41) _ rfl [.agg ([(Value.slice none 0 0), NI 0]).toArray, NI 12] (.tuple #[.agg ([(Value.slice none 0 0), NI 0]).toArray, NI 12]) rfl ⟨ResF.row T4 hb24 (pk23_ty81).choose_spec rfl ((show (Tryd.prog.info? 81).map (·.size) = some 2 from pk23_isz81)), rfl, trivial⟩ ?_))))))
  exact ⟨_, rfl, ([], 0), _, by rw [hQ], by rw [hQ], RB.nil _, hE⟩
 have hQ : getQ (some (ids, fun k => (O k).map Prod.fst)) id = (x.1, 0) := by show (match (O id).map Prod.fst with | none => _ | some x => _) = _; rw [hO]; rfl
 have hxr := hoo id x hO
 refine tN (hK27 _ _ (wpF_false (vr (.bool (false)) rfl) (wpF_skip (tN (hK26 _ _ (sk fun K54 hK54 => ?_))))))
 have hA55 := Ext.refl w13
 have hea56 := hE
 have hea57 := hA18
 have hz58 := hE.size
 have hz59 := hA18.size
 have hlt60 : g < w13.heap.size := (bl hg)
 have hlt61 : bo < w13.heap.size := hmo.lt
 have hlt62 : n2 < w13.heap.size := (bl hb10)
 have hlt63 : n12 < w13.heap.size := (bl hb24)
 refine wpF_draw_new 9 10 11 81 ([(Value.slice none 0 0), NI 0]).toArray ([x.2, NI x.1.2]).toArray [Is (PQ g 0), Is (PQ g 0), Is (PQ g 1), Is (.map (some bo)), Is (AB id), Is (.tuple #[.agg ([x.2, NI x.1.2]).toArray, .bool (true)]), Is (.tuple #[.agg ([x.2, NI x.1.2]).toArray, .bool (true)]), Is (.agg ([x.2, NI x.1.2]).toArray), Is (.bool (true)), fun x w' => x = PQ w13.heap.size 0 ∧ w13.heap.size < w'.heap.size, (fun _ _ => True)] (by kernel_rfl) [12, 13, 14, 15, 16, 17, 11, 18, 19, 6, 7] (by kernel_rfl) (by kernel_rfl) (by kernel_rfl) (by kernel_rfl) rfl rfl (by kernel_rfl) rfl rfl rfl rfl rfl (si9 ⟨(fun _ _ _ h k => k.elim (fun e => e ▸ h) (fun e => ⟨h.1, e⟩)), Stab.any, trivial⟩) ?hs2003 ?hQ2003
 case hs2003 =>
  refine ⟨?_, ?_, ?_, ?_, ?_, ?_, ?_, ?_, ?_, ?_, ?_, ?_, trivial⟩
  ·refine stepFC (stepN rfl fun σ w1 hC h => ?_)
   have hC : Ext w13 w1 := hC
   have e0 := (eqo (h 0 (by decide))).trans T0
   exact Yk.move e0 ⟨rfl, rfl⟩
  ·refine stepFC (stepN rfl fun σ w1 hC h => ?_)
   have hC : Ext w13 w1 := hC
   have e12 := eqo (h 12 (by decide))
   exact Yk.nilCheck e12 ⟨rfl, rfl⟩
  ·refine stepFC (stepN rfl fun σ w1 hC h => ?_)
   have hC : Ext w13 w1 := hC
   have e13 := eqo (h 13 (by decide))
   exact Yk.fieldAt pk23_fo74_1 e13 ⟨rfl, rfl⟩
  ·refine stepFC (stepN rfl fun σ w1 hC h => ?_)
   have hC : Ext w13 w1 := hC
   have e14 := eqo (h 14 (by decide))
   exact Yk.cell1 pk23_ty72 rfl e14 (cellAt (eb hC hg) (show _ = some (.map (some bo) : Value) from rfl)) ⟨rfl, rfl⟩
  ·refine stepFC (stepN rfl fun σ w1 hC h => ?_)
   have hC : Ext w13 w1 := hC
   have e3 : σ 3 = PQ n2 0 := (eqo (h 3 (by decide))).trans rfl
   exact Yk.loadAll e3 (eb hC hb10) pk23_ty38 rfl (by exact sizeId_of hid) ⟨rfl, rfl⟩
  ·refine stepFC (stepN rfl fun σ w1 hC h => ?_)
   have hC : Ext w13 w1 := hC
   have e15 := eqo (h 15 (by decide))
   have e16 := eqo (h 16 (by decide))
   exact Yk.lookOkS (ek := rk) (ev := objV) (D := (fun id : List UInt8 => id.length = 32)) idLaw id_ok (fun _ _ => rk_inj) pk23_ty72 (z := objV dObj) zeroObj e15 e16 (hmo.keep hC) hid hO ⟨rfl, rfl⟩
  ·refine stepFC (stepN rfl fun σ w1 hC h => ?_)
   have hC : Ext w13 w1 := hC
   have e17 := eqo (h 17 (by decide))
   exact Yk.move e17 ⟨rfl, rfl⟩
  ·refine stepFC (stepN rfl fun σ w1 hC h => ?_)
   have hC : Ext w13 w1 := hC
   have e11 := eqo (h 11 (by decide))
   exact Yk.extract (vs := [.agg ([x.2, NI x.1.2]).toArray, .bool (true)]) e11 (show _ = some (.agg ([x.2, NI x.1.2]).toArray : Value) from rfl) ⟨rfl, rfl⟩
  ·refine stepFC (stepN rfl fun σ w1 hC h => ?_)
   have hC : Ext w13 w1 := hC
   have e11 := eqo (h 11 (by decide))
   exact Yk.extract (vs := [.agg ([x.2, NI x.1.2]).toArray, .bool (true)]) e11 (show _ = some (.bool (true) : Value) from rfl) ⟨rfl, rfl⟩
  ·refine stepFC (stepN rfl fun σ w1 hC h => ?_)
   have hC : w1 = World.drew w13 := hC
   subst hC
   exact Yk.allocX pk23_al81 ⟨rfl, rfl, by simp⟩
  ·refine stepFC (stepN rfl fun σ w1 hC h => ?_)
   have e6 : (fun x w' => x = PQ w13.heap.size 0 ∧ w13.heap.size < w'.heap.size) (σ 6) w1 := h 6 (by decide)
   have e18 := eqo (h 18 (by decide))
   rcases (show w1 = World.drew w13 ∨ w1 = (World.drew w13).alloc (.cells ([(Value.slice none 0 0), NI 0]).toArray 81) from hC) with hC | hC
   ·subst hC; exact absurd e6.2 (Nat.lt_irrefl _)
   ·subst hC
    exact Yk.storeAll e6.1 e18 (heap_alloc_new _ _) rfl (show (Tryd.prog.info? 81).map (·.size) = some 2 from pk23_isz81) (obj_one (RB.one hxr).2) fun w2 h1 h2 h3 => ⟨⟨h1, row_fresh ((Below.refl _ _).drew.alloc (Nat.le_refl _) _) h2 (Nat.le_refl _), by rw [h3]; simp⟩, trivial⟩
  ·exact trivial
 intro ρ64 w65 hx66 hb67 hs68 he hf
 obtain ⟨-, -, -, -, -, -, -, -, k19, k6, -⟩ := hf
 obtain ⟨T0, T1, T3, T4, T5, T9, -⟩ := he.hold [(0, _), (1, _), (3, PQ n2 0), (4, PQ n12 0), (5, NI 0), (9, .bool (false))] ⟨T0, T1, rfl, rfl, rfl, rfl, trivial⟩ rfl
 clear he
 have hg := eb hx66 hg
 have hmo := hmo.keep hx66
 have hE := hE.trans hx66
 have hb10 := eb hx66 hb10
 have hA18 := hA18.trans hx66
 have hb24 := eb hx66 hb24
 have hA55 := hA55.trans hx66
 obtain ⟨n69, hn70⟩ : ∃ g, w13.heap.size = g := ⟨_, rfl⟩
 have T6 : ρ64 6 = _ := (show (fun x w' => x = PQ w13.heap.size 0 ∧ w13.heap.size < w'.heap.size) (ρ64 6) w65 from k6).1
 rw [hn70] at T6 hb67 hs68; clear k6
 have hl71 : n69 < w65.heap.size := by omega
 have T19 : ρ64 19 = .bool (true) := k19
 clear k19
 refine oA rfl (oZ (tN (hK54 _ _ (sk fun K72 hK72 => (sk fun K73 hK73 => (wt (oM rfl (oS rfl (Yk.notB T19 (oZ (tN (hK73 _ _ (wpF_false (vr (.bool (false)) rfl) (wpF_skip (tN (hK72 _ _ (sk fun K74 hK74 => (wt (oS rfl (Yk.loadAll T6 hb67 (pk23_ty81).choose_spec rfl (show (Tryd.prog.info? 81).map (·.size) = some 2 from pk23_isz81) ?_))))))))))))))))))))
 refine oS rfl (Yk.storeAll T4 (vr (.agg ([x.2, NI x.1.2]).toArray) rfl) hb24 rfl (show (Tryd.prog.info? 81).map (·.size) = some 2 from pk23_isz81) (obj_one (RB.one (hxr.keep hE)).2) fun w75 hb76 hg77 hs78 => ?_)
 have hg := kb hg77 hg (by omega)
 have hmo := MapF.other hmo hg77 (some_ne (by omega))
 have hE := row_fresh hE hg77 (Nat.le_trans hz20 (by omega))
 have hb10 := kb hg77 hb10 (by omega)
 have hA18 := row_fresh hA18 hg77 (Nat.le_trans (Nat.le_refl _) (by omega))
 clear hb24
 clear hA55
 have hb67 := kb hg77 hb67 (by omega)
 have hb24 := hb76; clear hb76
 have hl79 := bl hb24
 refine oA rfl (oZ (tN (hK74 _ _ (wpF_ret (postF_ret (fn := Tryd.f41) _ rfl [.agg ([x.2, NI x.1.2]).toArray, NI 0] (.tuple #[.agg ([x.2, NI x.1.2]).toArray, NI 0]) rfl ⟨ResF.row T4 hb24 (pk23_ty81).choose_spec rfl ((show (Tryd.prog.info? 81).map (·.size) = some 2 from pk23_isz81)), rfl, trivial⟩ ?_)))))
 exact ⟨_, rfl, x.1, x.2, by rw [hQ], by rw [hQ], (hxr.keep hE), hE⟩

theorem pget0_any (w : World) (v : Value) (q : Option PackV) (h : PackO w v q) (id : Bs) (hid : id.length = 32) :
  Calls Tryd.prog 41 #[v, AB id] w fun e w' => ∃ x, e = .returned x ∧ ∃ (o : Bs × Nat) (s : Value), x = .tuple #[.agg ([s, NI o.2]).toArray, NI (getQ q id).2] ∧ o = (getQ q id).1 ∧ RB w' s o.1 ∧ Ext w w' := by
 match q, h with
 | none, h => rw [show v = .pointer none from h]; exact pget0_nil w id hid
 | some p, h =>
  obtain ⟨g, vi, bo, O, rfl, h2, hg, hrg, hmo, hoo⟩ := h
  obtain ⟨ids, P⟩ := p
  subst h2
  exact pget0_at w g bo vi ids O hg hrg hmo hoo id hid

theorem pdep_any (w : World) (v : Value) (q : Option PackV) (hq : PackO w v q) (id : Bs) (hid : id.length = 32) :
  Calls Tryd.prog 19 #[v, AB id] w fun e w' => e = .returned (.tuple #[NI (getQ q id).1.2, NI (getQ q id).2]) ∧ Ext w w' := by
 refine calls_of_wpF (args := [v, AB id]) Tryd.func19 rfl 17 rfl (Nat.le_of_ble_eq_true rfl) ?_
 intro ρ0 hb
 have T0 : ρ0 0 = (v : Value) := hb.get 0
 have T1 : ρ0 1 = (AB id : Value) := hb.get 1
 clear hb
 have hE := Ext.refl w
 refine sk fun K1 hK1 => (wt (oS rfl (Yk.box (cs := (Lib.byteCells id : List Value).toArray) T1 fun n2 w3 hn4 hb5 hx6 hs7 => ?_)))
 have hE := hE.trans hx6
 have hb8 := hb5; clear hb5
 have hl9 : n2 < w3.heap.size := by omega
 refine oA rfl (oA rfl (oZ (tN (hK1 _ _ (sk fun K10 hK10 => (wt (oM rfl (oS rfl (Yk.loadAll (vr (PQ n2 0) rfl) hb8 pk23_ty38 rfl (by exact sizeId_of hid) (oS rfl (Yk.callA2 pk23_pl41 T0 (vr (AB id) rfl) ((pget0_any _ v q (hq.keep hE) id hid).mono ?_))))))))))))
 rintro e w14 ⟨_, rfl, o, v11, rfl, ho, hr12, hx13⟩
 refine ⟨_, rfl, ?_⟩
 have hE := hE.trans hx13
 have hb8 := eb hx13 hb8
 subst ho
 refine oM rfl (oS rfl (Yk.extract (vs := [.agg ([v11, NI ((getQ q id).1.2)]).toArray, NI ((getQ q id).2)]) (vr (.tuple #[.agg ([v11, NI ((getQ q id).1.2)]).toArray, NI ((getQ q id).2)]) rfl) (show _ = some (.agg ([v11, NI ((getQ q id).1.2)]).toArray : Value) from rfl) (oS rfl (Yk.extract (vs := [.agg ([v11, NI ((getQ q id).1.2)]).toArray, NI ((getQ q id).2)]) (vr (.tuple #[.agg ([v11, NI ((getQ q id).1.2)]).toArray, NI ((getQ q id).2)]) rfl) (show _ = some (NI ((getQ q id).2) : Value) from rfl) (oS rfl (Yk.alloc (cs := ([(Value.slice none 0 0), NI 0]).toArray) pk23_al81 fun n15 w16 hn17 hb18 hx19 hs20 => ?_))))))
 have hA21 := Ext.refl w14
 have hea22 := hE
 have hz23 := hE.size
 have hlt24 := lte (bl hb8) hn17
 have hE := hE.trans hx19
 have hb8 := eb hx19 hb8
 have hA21 := hA21.trans hx19
 have hb25 := hb18; clear hb18
 have hl26 : n15 < w16.heap.size := by omega
 refine oS rfl (Yk.storeAll (vr (PQ n15 0) rfl) (vr (.agg ([v11, NI ((getQ q id).1.2)]).toArray) rfl) hb25 rfl (show (Tryd.prog.info? 81).map (·.size) = some 2 from pk23_isz81) (obj_one (RB.one (hr12.keep hA21)).2) fun w27 hb28 hg29 hs30 => ?_)
 have hE := row_fresh hE hg29 (Nat.le_trans hz23 (by omega))
 have hb8 := kb hg29 hb8 (by omega)
 have hA21 := row_fresh hA21 hg29 (Nat.le_trans (Nat.le_refl _) (by omega))
 clear hb25
 have hb25 := hb28; clear hb28
 have hl31 := bl hb25
 refine oA rfl (oZ (tN (hK10 _ _ (sk fun K32 hK32 => (wt (oS rfl (Yk.fieldAt pk23_fo81_1 (vr (PQ n15 0) rfl) (oS rfl (Yk.cell1 pk23_ty3 rfl (vr (PQ n15 1) rfl) (cellAt hb25 (show _ = some (NI ((getQ q id).1.2) : Value) from rfl)) (oM rfl (oA rfl (oA rfl (oZ (tN (hK32 _ _ (wpF_ret (postF_ret (fn := Tryd.f19) _ rfl [NI ((getQ q id).1.2), NI ((getQ q id).2)] (.tuple #[NI ((getQ q id).1.2), NI ((getQ q id).2)]) rfl ⟨rfl, rfl, trivial⟩ ?_)))))))))))))))))
 exact ⟨rfl, hE⟩

theorem pget_any (w : World) (v : Value) (q : Option PackV) (hq : PackO w v q) (id : Bs) (hid : id.length = 32) (hb : (getQ q id).1.1.length < 1099511627776) :
  Calls Tryd.prog 18 #[v, AB id] w fun e w' => ∃ v', e = .returned (.tuple #[v', NI (getQ q id).2]) ∧ w'.ownsRow w.heap.size 5 1 v' (getQ q id).1.1.length (Lib.byteCells (getQ q id).1.1) ∧ Ext w w' := by
 refine calls_of_wpF (args := [v, AB id]) Tryd.func18 rfl 18 rfl (Nat.le_of_ble_eq_true rfl) ?_
 intro ρ0 hb
 have T0 : ρ0 0 = (v : Value) := hb.get 0
 have T1 : ρ0 1 = (AB id : Value) := hb.get 1
 clear hb
 have hE := Ext.refl w
 refine sk fun K1 hK1 => (wt (oS rfl (Yk.box (cs := (Lib.byteCells id : List Value).toArray) T1 fun n2 w3 hn4 hb5 hx6 hs7 => ?_)))
 have hE := hE.trans hx6
 have hb8 := hb5; clear hb5
 have hl9 : n2 < w3.heap.size := by omega
 refine oA rfl (oA rfl (oZ (tN (hK1 _ _ (sk fun K10 hK10 => (wt (oM rfl (oS rfl (Yk.loadAll (vr (PQ n2 0) rfl) hb8 pk23_ty38 rfl (by exact sizeId_of hid) (oS rfl (Yk.callA2 pk23_pl41 T0 (vr (AB id) rfl) ((pget0_any _ v q (hq.keep hE) id hid).mono ?_))))))))))))
 rintro e w14 ⟨_, rfl, o, v11, rfl, ho, hr12, hx13⟩
 refine ⟨_, rfl, ?_⟩
 have hE := hE.trans hx13
 have hb8 := eb hx13 hb8
 subst ho
 refine oM rfl (oS rfl (Yk.extract (vs := [.agg ([v11, NI ((getQ q id).1.2)]).toArray, NI ((getQ q id).2)]) (vr (.tuple #[.agg ([v11, NI ((getQ q id).1.2)]).toArray, NI ((getQ q id).2)]) rfl) (show _ = some (.agg ([v11, NI ((getQ q id).1.2)]).toArray : Value) from rfl) (oS rfl (Yk.extract (vs := [.agg ([v11, NI ((getQ q id).1.2)]).toArray, NI ((getQ q id).2)]) (vr (.tuple #[.agg ([v11, NI ((getQ q id).1.2)]).toArray, NI ((getQ q id).2)]) rfl) (show _ = some (NI ((getQ q id).2) : Value) from rfl) (oS rfl (Yk.alloc (cs := ([(Value.slice none 0 0), NI 0]).toArray) pk23_al81 fun n15 w16 hn17 hb18 hx19 hs20 => ?_))))))
 have hA21 := Ext.refl w14
 have hea22 := hE
 have hz23 := hE.size
 have hlt24 := lte (bl hb8) hn17
 have hE := hE.trans hx19
 have hb8 := eb hx19 hb8
 have hA21 := hA21.trans hx19
 have hb25 := hb18; clear hb18
 have hl26 : n15 < w16.heap.size := by omega
 refine oS rfl (Yk.storeAll (vr (PQ n15 0) rfl) (vr (.agg ([v11, NI ((getQ q id).1.2)]).toArray) rfl) hb25 rfl (show (Tryd.prog.info? 81).map (·.size) = some 2 from pk23_isz81) (obj_one (RB.one (hr12.keep hA21)).2) fun w27 hb28 hg29 hs30 => ?_)
 have hE := row_fresh hE hg29 (Nat.le_trans hz23 (by omega))
 have hb8 := kb hg29 hb8 (by omega)
 have hA21 := row_fresh hA21 hg29 (Nat.le_trans (Nat.le_refl _) (by omega))
 clear hb25
 have hb25 := hb28; clear hb28
 have hl31 := bl hb25
 refine oA rfl (oZ (tN (hK10 _ _ (sk fun K32 hK32 => (wt (oS rfl (Yk.fieldAt pk23_fo81_0 (vr (PQ n15 0) rfl) (oS rfl (Yk.cell1 pk23_ty24 rfl (vr (PQ n15 0) rfl) (cellAt hb25 (show _ = some (v11 : Value) from rfl)) (oS rfl (Yk.callA1 pk23_pl42 (vr v11 rfl) ((clone_any _ v11 (getQ q id).1.1 (hr12.keep hA21) (by omega)).mono ?_))))))))))))
 rintro e w36 ⟨v33, rfl, hN34⟩
 refine ⟨_, rfl, ?_⟩
 have hA37 := Ext.refl w27
 have hea38 := hE
 have hea39 := hA21
 have hz40 := hE.size
 have hz41 := hA21.size
 have hap42 : OB v33 n2 := own_older hN34.own (bl hb8)
 have hap43 : OB v33 n15 := own_older hN34.own (bl hb25)
 have hE := hE.trans hN34.ext
 have hb8 := eb hN34.ext hb8
 have hA21 := hA21.trans hN34.ext
 have hb25 := eb hN34.ext hb25
 have hA37 := hA37.trans hN34.ext
 have ho44 := hN34.own; clear hN34
 refine oM rfl (oA rfl (oA rfl (oZ (tN (hK32 _ _ (wpF_ret (postF_ret (fn := Tryd.f18) _ rfl [v33, NI ((getQ q id).2)] (.tuple #[v33, NI ((getQ q id).2)]) rfl ⟨rfl, rfl, trivial⟩ ?_)))))))
 exact ⟨_, rfl, ownsRow_base ho44 (by omega), hE⟩
open Go.RowKit
section
variable {P : Program} {K : Value → World → Prop} {ρ : Slots} {w : World} {d : Option Tmp} {ty : TypeId} {pos : String} {af : Array Edge} {gd : Option (Nat × Bool)}
theorem RG.pair {α : Type} {k : Nat} {enc : α → List Value} {g : Nat} {e : TypeId} {fr : Nat × Nat} {a b : α} (ha : (enc a).length = k) (hb : (enc b).length = k) (h : w.heap[g]? = some (.cells ((enc a).toArray ++ (enc b).toArray) e fr)) : RG k enc w (.slice (some ⟨g, 0, none⟩) 2 2) [a, b] := by
  refine ⟨fun x hx => ?_, by simp [ha, hb]; omega, _, 2, rfl, Nat.le_refl _, by simp [maxLen], (fun h => by cases h), fun q hq j u hu => ?_⟩
  · simp only [List.mem_cons, List.not_mem_nil, or_false] at hx
    rcases hx with rfl | rfl
    · exact ha
    · exact hb
  · cases hq
    rw [Addr.add_lit, Nat.zero_add]
    exact cellAt (l := enc a ++ enc b) (t := e) (fr := fr) (by rw [h]; simp) (by simpa using hu)
theorem Yk.lit2G {α : Type} {k : Nat} {enc : α → List Value} {t e : TypeId} {x y : Operand} {a b : α} (hx : evalR ρ x = .agg (enc a).toArray) (hy : evalR ρ y = .agg (enc b).toArray) (ha : (enc a).length = k) (hb : (enc b).length = k)
    (hr : ∀ (cs cs' : Array Value), cs.size = k → cs'.size = k → ∀ w : World, (Instr.buildSlice t 2 #[(0, .agg cs), (1, .agg cs')]).run P w = .ok (.slice (some ⟨w.heap.size, 0, none⟩) 2 2) (w.alloc (.cells (cs ++ cs') e)))
    (hk : ∀ v w', RG k enc w' v [a, b] → Ext w w' → K v w') : Yk P K ((execOp (evalR ρ) ⟨d, .buildSlice t 2 #[(0, x), (1, y)], ty, pos, af, gd⟩).run P w) := by
  have hE : Ext w (w.alloc (.cells ((enc a).toArray ++ (enc b).toArray) e)) := (Below.refl _ _).alloc (Nat.le_refl _) _
  refine Yk.value (v := .slice (some ⟨w.heap.size, 0, none⟩) 2 2) (w' := w.alloc (.cells ((enc a).toArray ++ (enc b).toArray) e)) ?_ (hk _ _ (RG.pair ha hb (heap_alloc_new w _)) hE)
  unfold execOp
  simp only [List.map_toArray, List.map_cons, List.map_nil, hx, hy, Sem.run_bind, hr _ _ (show (enc a).toArray.size = k by rw [List.size_toArray]; exact ha) (show (enc b).toArray.size = k by rw [List.size_toArray]; exact hb), Result.andThen_ok, Sem.run_pure]
end
abbrev exA : Bs := [97, 98, 99, 100, 101, 102, 103, 104]
abbrev exB : Bs := [97, 98, 99, 100, 101, 102, 103, 104, 105]
theorem ex_sums : Sha.sum exB ≠ Sha.sum exA := by decide +kernel
def exPs (va vb : Value) : List Pt := [⟨va, exA, -1⟩, ⟨vb, exB, 0⟩]
theorem ex_light (va vb : Value) : LightP (exPs va vb) := ⟨by show 2 ≤ 60; omega, fun p hp => by
  simp only [exPs, List.mem_cons, List.not_mem_nil, or_false] at hp
  rcases hp with rfl | rfl <;> (simp only [List.length_cons, List.length_nil]; omega)⟩
theorem ex_go (va vb : Value) : ∃ s, bgo (exPs va vb) 2 = .ok s ∧ s.ids = [Sha.sum exA, Sha.sum exB] ∧ s.depths = [0, 1] := by
  let s0 : BS := ⟨80 :: Lib.uvarint 2, [], [], [], 0⟩
  let s1 : BS := bnext (exPs va vb) ⟨va, exA, -1⟩ s0
  have h0 : bgo (exPs va vb) 0 = .ok s0 := rfl
  have h1 : bgo (exPs va vb) 1 = .ok s1 := by
    rw [bgo_step h0]
    show (if (-1 : Int) < -1 ∨ ((0 : Nat) : Int) ≤ (-1 : Int) then _ else if Sha.sum exA ∈ ([] : List Bs) then _ else if 50 < depthB ⟨va, exA, -1⟩ s0 then _ else _) = _
    rw [if_neg (by omega), if_neg (by simp), if_neg (by show ¬ 50 < 0; omega)]
    rfl
  refine ⟨bnext (exPs va vb) ⟨vb, exB, 0⟩ s1, ?_, rfl, rfl⟩
  rw [bgo_step h1]
  show (if (0 : Int) < -1 ∨ ((1 : Nat) : Int) ≤ (0 : Int) then _ else if Sha.sum exB ∈ [Sha.sum exA] then _ else if 50 < depthB ⟨vb, exB, 0⟩ s1 then _ else _) = _
  rw [if_neg (by omega), if_neg (by rw [List.mem_singleton]; exact ex_sums), if_neg (by show ¬ 50 < 1; omega)]
  rfl
theorem ex_build (va vb : Value) : (buildP (exPs va vb)).2 = 0 := by
  obtain ⟨s, h, -⟩ := ex_go va vb
  unfold buildP
  rw [show (exPs va vb).length = 2 from rfl, h]
theorem ex_open (va vb : Value) : ∃ p, openP (buildP (exPs va vb)).1 = .ok p ∧ lenQ (some p) = 2 ∧ getQ (some p) (Sha.sum exB) = ((exB, 1), 0) := by
  obtain ⟨s, h, hi, hd⟩ := ex_go va vb
  refine ⟨_, open_build (ex_light va vb) h, ?_, ?_⟩
  · show (sortB s.ids).length = 2
    rw [sortB_len, hi]; rfl
  · have : objB (exPs va vb) s (Sha.sum exB) = some (exB, 1) := by
      refine lookup_zip_at _ _ 1 _ _ ?_ ?_ ?_
      · rw [hi]; simp [ex_sums.symm]
      · rw [hi]; rfl
      · rw [hd]; rfl
    show (match objB (exPs va vb) s (Sha.sum exB) with | none => _ | some x => _) = _
    rw [this]
theorem ex_none : (buildP []).1.length = 1062 ∧ (buildP []).2 = 0 := by
  have h : bgo [] 0 = .ok ⟨80 :: Lib.uvarint 0, [], [], [], 0⟩ := rfl
  have hk := bgo_ok (ps := []) ⟨by simp, fun p hp => by cases hp⟩ 0 _ (Nat.le_refl _) h
  have e : buildP [] = ((80 :: Lib.uvarint 0) ++ behindB ⟨80 :: Lib.uvarint 0, [], [], [], 0⟩ (80 :: Lib.uvarint 0).length ++ Sha.sum ((80 :: Lib.uvarint 0) ++ behindB ⟨80 :: Lib.uvarint 0, [], [], [], 0⟩ (80 :: Lib.uvarint 0).length), 0) := rfl
  rw [e]
  refine ⟨?_, rfl⟩
  rw [List.length_append, List.length_append, behindB_len hk, Sha.sum_length, Lib.uvarint_small (by omega)]
  rfl
open Go.RowKit
set_option maxRecDepth 100000
theorem pk24_ty24 : Tryd.prog.underlying 24 = some (.slice 5) := by kernel_rfl
theorem pk24_ty5 : Tryd.prog.underlying 5 = some (.int .u8) := by kernel_rfl
theorem pk24_bd55si_01 {z0 : Value} (h0 : ∃ ao n c, z0 = .slice ao n c) (z1 : Int) (w : World) : (Instr.build 55 #[(0, z0), (1, .int .i64 z1)]).run Tryd.prog w = .ok (.agg ([z0, .int .i64 z1] : List Value).toArray) w := by obtain ⟨_, _, _, rfl⟩ := h0; kernel_rfl
theorem pk24_l2h28 (c0 c1 d0 d1 : Value) (w : World) : (Instr.buildSlice 28 2 #[(0, .agg #[c0, c1]), (1, .agg #[d0, d1])]).run Tryd.prog w = .ok (.slice (some ⟨w.heap.size, 0, none⟩) 2 2) (w.alloc (.cells #[c0, c1, d0, d1] 55)) := by kernel_rfl
theorem pk24_l2g28 : ∀ (cs cs' : Array Value), cs.size = 2 → cs'.size = 2 → ∀ w : World, (Instr.buildSlice 28 2 #[(0, .agg cs), (1, .agg cs')]).run Tryd.prog w = .ok (.slice (some ⟨w.heap.size, 0, none⟩) 2 2) (w.alloc (.cells (cs ++ cs') 55))
 | ⟨[c0, c1]⟩, ⟨[d0, d1]⟩, _, _, w => pk24_l2h28 c0 c1 d0 d1 w
theorem pk24_pl11 : Plain Tryd.prog 11 := fun _ _ => by kernel_rfl
theorem pk24_pl15 : Plain Tryd.prog 15 := fun _ _ => by kernel_rfl
theorem pk24_rows1_75 (ao : Option Addr) (n c : Nat) (w : World) : (Instr.buildSlice 75 1 #[(0, .slice ao n c)]).run Tryd.prog w = .ok (.slice (some ⟨w.heap.size, 0, none⟩) 1 1) (w.alloc (.cells #[.slice ao n c] 24)) := by kernel_rfl
theorem pk24_pl17 : Plain Tryd.prog 17 := fun _ _ => by kernel_rfl
theorem pk24_pl19 : Plain Tryd.prog 19 := fun _ _ => by kernel_rfl
theorem pk24_pl16 : Plain Tryd.prog 16 := fun _ _ => by kernel_rfl
theorem pk24_ty38 : Tryd.prog.underlying 38 = some (.array 32 5) := by kernel_rfl
theorem pk24_pl18 : Plain Tryd.prog 18 := fun _ _ => by kernel_rfl
theorem pk24_pl22 : Plain Tryd.prog 22 := fun _ _ => by kernel_rfl
theorem pk24_ty47 : Tryd.prog.underlying 47 = some (.slice 38) := by kernel_rfl
theorem pk24_pl14 : Plain Tryd.prog 14 := fun _ _ => by kernel_rfl
set_option maxHeartbeats 1600000
theorem awake11 (w : World) (hG : Laid w) :
  Calls Tryd.prog 14 #[] w fun e w' => e = .returned (.bool true) ∧ Ext w w' := by
 refine calls_of_wpF (args := []) Tryd.func14 rfl 66 rfl (Nat.le_of_ble_eq_true rfl) ?_
 intro ρ0 hb
 clear hb
 have hE := Ext.refl w
 refine sk fun K1 hK1 => (wt (oA rfl (oZ (tN (hK1 _ _ (sk fun K2 hK2 => (wt (oS rfl (Yk.litN (e := 5) ([97, 98, 99, 100, 101, 102, 103, 104] : List UInt8) (by decide) (fun _ _ => by kernel_rfl) fun v3 w4 hN5 => ?_)))))))))
 have hE := hE.trans hN5.ext
 have ho6 := hN5.own; clear hN5
 refine oS rfl (Yk.convMark pk24_ty24 pk24_ty5 (vr v3 rfl) ho6 (by decide) fun w7 hr8 hg9 => ?_)
 have hE := ext_grew hE hg9 ho6 (Nat.le_refl _)
 clear ho6
 refine oS rfl (Yk.build2 (vr v3 rfl) (vr (.int .i64 (-1 : Int)) rfl) (fun w => pk24_bd55si_01 (RB.slice hr8) (-1) w) (oS rfl (Yk.litN (e := 5) ([97, 98, 99, 100, 101, 102, 103, 104, 105] : List UInt8) (by decide) (fun _ _ => by kernel_rfl) fun v10 w11 hN12 => ?_)))
 have hA13 := Ext.refl w7
 have hea14 := hE
 have hz15 := hE.size
 have hE := hE.trans hN12.ext
 have hA13 := hA13.trans hN12.ext
 have ho16 := hN12.own; clear hN12
 refine oS rfl (Yk.convMark pk24_ty24 pk24_ty5 (vr v10 rfl) ho16 (by decide) fun w17 hr18 hg19 => ?_)
 have hE := ext_grew hE hg19 ho16 hz15
 have hA13 := ext_grew hA13 hg19 ho16 (Nat.le_refl _)
 clear ho16
 refine oS rfl (Yk.build2 (vr v10 rfl) (vr (NI 0) rfl) (fun w => pk24_bd55si_01 (RB.slice hr18) (((0 : Nat) : Int)) w) (oS rfl (Yk.lit2G (a := (⟨v3, ([97, 98, 99, 100, 101, 102, 103, 104] : List UInt8), -1⟩ : Pt)) (b := (⟨v10, ([97, 98, 99, 100, 101, 102, 103, 104, 105] : List UInt8), 0⟩ : Pt)) (enc := partC) (show _ = (.agg ([v3, .int .i64 (-1 : Int)]).toArray : Value) from rfl) (vr (.agg ([v10, NI 0]).toArray) rfl) (rfl) (rfl) pk24_l2g28 fun v20 w21 hr22 hx23 => ?_)))
 have hE := hE.trans hx23
 have hA13 := hA13.trans hx23
 have hr18 := hr18.keep hx23
 refine oS rfl (Yk.callA1 pk24_pl11 (vr v20 rfl) ((build_any _ (hG.keep hE) v20 (exPs v3 v10) hr22 (by intro p hp; simp only [exPs, List.mem_cons, List.not_mem_nil, or_false] at hp; rcases hp with rfl | rfl; exact ⟨(hr8.keep hA13), by dsimp only; omega, by dsimp only; omega⟩; exact ⟨hr18, by dsimp only; omega, by dsimp only; omega⟩) (ex_light _ _)).mono ?_))
 rintro e w27 ⟨v24, rfl, hr25, hx26⟩
 refine ⟨_, rfl, ?_⟩
 have hE := hE.trans hx26
 have hA13 := hA13.trans hx26
 have hr18 := hr18.keep hx26
 have hr22 := hr22.keep hx26
 refine oM rfl (oS rfl (Yk.extract (vs := [v24, NI ((buildP (exPs v3 v10)).2)]) (vr (.tuple #[v24, NI ((buildP (exPs v3 v10)).2)]) rfl) (show _ = some (v24 : Value) from rfl) (oS rfl (Yk.extract (vs := [v24, NI ((buildP (exPs v3 v10)).2)]) (vr (.tuple #[v24, NI ((buildP (exPs v3 v10)).2)]) rfl) (show _ = some (NI ((buildP (exPs v3 v10)).2) : Value) from rfl) (oA rfl (oA rfl (oZ (tN (hK2 _ _ (sk fun K28 hK28 => (wt (oM rfl (oS rfl (Yk.callA1 pk24_pl15 (vr v24 rfl) ((open_any _ (hG.keep hE) v24 ((buildP (exPs v3 v10)).1) hr25).mono ?_)))))))))))))))
 rintro e w33 ⟨_, rfl, v29, k30, rfl, hO31, hx32⟩
 refine ⟨_, rfl, ?_⟩
 have hE := hE.trans hx32
 have hA13 := hA13.trans hx32
 have hr18 := hr18.keep hx32
 have hr22 := hr22.keep hx32
 have hr25 := hr25.keep hx32
 obtain ⟨pk, hpk, hlen, hget⟩ := ex_open v3 v10
 rw [hpk] at hO31
 obtain ⟨hc0, hat⟩ := hO31
 subst hc0
 have hq : PackO w33 v29 (some pk) := hat
 refine oM rfl (oS rfl (Yk.extract (vs := [v29, NI 0]) (vr (.tuple #[v29, NI 0]) rfl) (show _ = some (v29 : Value) from rfl) (oS rfl (Yk.extract (vs := [v29, NI 0]) (vr (.tuple #[v29, NI 0]) rfl) (show _ = some (NI 0 : Value) from rfl) (oA rfl (oA rfl (oZ (tN (hK28 _ _ (sk fun K34 hK34 => (wt (oM rfl (oS rfl (Yk.litN (e := 5) ([97, 98, 99, 100, 101, 102, 103, 104, 105] : List UInt8) (by decide) (fun _ _ => by kernel_rfl) fun v35 w36 hN37 => ?_))))))))))))))
 have hA38 := Ext.refl w33
 have hea39 := hE
 have hea40 := hA13
 have hz41 := hE.size
 have hz42 := hA13.size
 have hE := hE.trans hN37.ext
 have hA13 := hA13.trans hN37.ext
 have hA38 := hA38.trans hN37.ext
 have ho43 := hN37.own; clear hN37
 refine oS rfl (Yk.convMark pk24_ty24 pk24_ty5 (vr v35 rfl) ho43 (by decide) fun w44 hr45 hg46 => ?_)
 have hE := ext_grew hE hg46 ho43 hz41
 have hA13 := ext_grew hA13 hg46 ho43 hz42
 have hA38 := ext_grew hA38 hg46 ho43 (Nat.le_refl _)
 clear ho43
 refine oS rfl (Yk.rows1 pk24_rows1_75 (RB.of hr45 (vr v35 rfl)) fun v47 w48 hr49 hx50 => ?_)
 have hE := hE.trans hx50
 have hA13 := hA13.trans hx50
 have hA38 := hA38.trans hx50
 have hr45 := hr45.keep hx50
 refine oS rfl (Yk.callA1 pk24_pl17 (vr v47 rfl) ((sum_one _ (hG.keep hE) v47 (([97, 98, 99, 100, 101, 102, 103, 104, 105] : List UInt8)) hr49 (by decide)).mono ?_))
 rintro e w52 ⟨rfl, hx51⟩
 refine ⟨_, rfl, ?_⟩
 have hE := hE.trans hx51
 have hA13 := hA13.trans hx51
 have hA38 := hA38.trans hx51
 have hr45 := hr45.keep hx51
 have hr49 := hr49.keep hx51
 refine oS rfl (Yk.callA2 pk24_pl19 (vr v29 rfl) (vr (AB (Sha.sum (([97, 98, 99, 100, 101, 102, 103, 104, 105] : List UInt8)))) rfl) ((pdep_any _ (v29) (some pk) (hq.keep hA38) (Sha.sum (([97, 98, 99, 100, 101, 102, 103, 104, 105] : List UInt8))) (Sha.sum_length _)).mono ?_))
 rintro e w54 ⟨rfl, hx53⟩
 refine ⟨_, rfl, ?_⟩
 have hE := hE.trans hx53
 have hA13 := hA13.trans hx53
 have hA38 := hA38.trans hx53
 have hr45 := hr45.keep hx53
 have hr49 := hr49.keep hx53
 refine oM rfl (oS rfl (Yk.extract (vs := [NI ((getQ (some pk) (Sha.sum (([97, 98, 99, 100, 101, 102, 103, 104, 105] : List UInt8)))).1.2), NI ((getQ (some pk) (Sha.sum (([97, 98, 99, 100, 101, 102, 103, 104, 105] : List UInt8)))).2)]) (vr (.tuple #[NI ((getQ (some pk) (Sha.sum (([97, 98, 99, 100, 101, 102, 103, 104, 105] : List UInt8)))).1.2), NI ((getQ (some pk) (Sha.sum (([97, 98, 99, 100, 101, 102, 103, 104, 105] : List UInt8)))).2)]) rfl) (show _ = some (NI ((getQ (some pk) (Sha.sum (([97, 98, 99, 100, 101, 102, 103, 104, 105] : List UInt8)))).1.2) : Value) from rfl) (oS rfl (Yk.extract (vs := [NI ((getQ (some pk) (Sha.sum (([97, 98, 99, 100, 101, 102, 103, 104, 105] : List UInt8)))).1.2), NI ((getQ (some pk) (Sha.sum (([97, 98, 99, 100, 101, 102, 103, 104, 105] : List UInt8)))).2)]) (vr (.tuple #[NI ((getQ (some pk) (Sha.sum (([97, 98, 99, 100, 101, 102, 103, 104, 105] : List UInt8)))).1.2), NI ((getQ (some pk) (Sha.sum (([97, 98, 99, 100, 101, 102, 103, 104, 105] : List UInt8)))).2)]) rfl) (show _ = some (NI ((getQ (some pk) (Sha.sum (([97, 98, 99, 100, 101, 102, 103, 104, 105] : List UInt8)))).2) : Value) from rfl) (oA rfl (oA rfl (oZ (tN (hK34 _ _ (sk fun K55 hK55 => (wt (oS rfl (Yk.callA1 pk24_pl11 (vr (Value.slice none 0 0) rfl) ((build_any _ (hG.keep hE) (.slice none 0 0) [] (RG.nil _ _ _) (fun p hp => by cases hp) ⟨by simp, fun p hp => by cases hp⟩).mono ?_))))))))))))))
 rintro e w59 ⟨v56, rfl, hr57, hx58⟩
 refine ⟨_, rfl, ?_⟩
 have hE := hE.trans hx58
 have hA13 := hA13.trans hx58
 have hA38 := hA38.trans hx58
 have hr45 := hr45.keep hx58
 have hr49 := hr49.keep hx58
 refine oM rfl (oS rfl (Yk.extract (vs := [v56, NI ((buildP []).2)]) (vr (.tuple #[v56, NI ((buildP []).2)]) rfl) (show _ = some (v56 : Value) from rfl) (oS rfl (Yk.extract (vs := [v56, NI ((buildP []).2)]) (vr (.tuple #[v56, NI ((buildP []).2)]) rfl) (show _ = some (NI ((buildP []).2) : Value) from rfl) (oA rfl (oA rfl (oZ (tN (hK55 _ _ (sk fun K60 hK60 => (wt (oM rfl (oS rfl (Yk.eqI (a := ((buildP (exPs v3 v10)).2 : Nat)) (b := (0 : Nat)) rfl rfl (k_eql _ _ _ _) (oM rfl (oY (d := 40) rfl rfl (vr (.bool (true)) (congrArg Value.bool (decide_eq_true (ex_build v3 v10)))) (Yk.move (vr (NI 0) rfl) (oY (d := 40) rfl rfl (vr (.bool (true)) (congrArg Value.bool (decide_eq_true (ex_build v3 v10)))) (Yk.eqI (a := (0 : Nat)) (b := (0 : Nat)) rfl rfl (k_eql _ _ _ _) (oS rfl (Yk.pickT (vr (.bool (true)) (congrArg Value.bool (decide_eq_true (ex_build v3 v10)))) (vr (.bool (true)) (congrArg Value.bool (decide_eq_true (rfl)))) (oM rfl ?_))))))))))))))))))))))
 refine oY (d := 44) rfl rfl (vr (.bool (true)) rfl) (Yk.move (vr (NI ((getQ (some pk) (Sha.sum (([97, 98, 99, 100, 101, 102, 103, 104, 105] : List UInt8)))).2)) rfl) (oY (d := 44) rfl rfl (vr (.bool (true)) rfl) (Yk.eqI (a := ((getQ (some pk) (Sha.sum (([97, 98, 99, 100, 101, 102, 103, 104, 105] : List UInt8)))).2 : Nat)) (b := (0 : Nat)) rfl rfl (k_eql _ _ _ _) (oS rfl (Yk.pickT (vr (.bool (true)) rfl) (vr (.bool (true)) (congrArg Value.bool (decide_eq_true (by rw [hget])))) (oM rfl (oY (d := 48) rfl rfl (vr (.bool (true)) rfl) (Yk.move (vr (NI ((buildP []).2)) rfl) (oY (d := 48) rfl rfl (vr (.bool (true)) rfl) (Yk.eqI (a := ((buildP []).2 : Nat)) (b := (0 : Nat)) rfl rfl (k_eql _ _ _ _) (oS rfl (Yk.pickT (vr (.bool (true)) rfl) (vr (.bool (true)) (congrArg Value.bool (decide_eq_true (ex_none.2)))) (oM rfl (oY (d := 52) rfl rfl (vr (.bool (true)) rfl) (Yk.move (vr (NI ((getQ (some pk) (Sha.sum (([97, 98, 99, 100, 101, 102, 103, 104, 105] : List UInt8)))).1.2)) rfl) (oY (d := 52) rfl rfl (vr (.bool (true)) rfl) (Yk.eqI (a := ((getQ (some pk) (Sha.sum (([97, 98, 99, 100, 101, 102, 103, 104, 105] : List UInt8)))).1.2 : Nat)) (b := (1 : Nat)) rfl rfl (k_eql _ _ _ _) (oS rfl (Yk.pickT (vr (.bool (true)) rfl) (vr (.bool (true)) (congrArg Value.bool (decide_eq_true (by rw [hget])))) (oM rfl (oY (d := 56) rfl rfl (vr (.bool (true)) rfl) (Yk.move (vr v29 rfl) (oY (d := 56) rfl rfl (vr (.bool (true)) rfl) (Yk.callA1 pk24_pl16 (vr v29 rfl) ((plen_any _ (v29) (some pk) (hq.keep hA38)).mono ?_)))))))))))))))))))))))))
 rintro e w62 ⟨rfl, hx61⟩
 refine ⟨_, rfl, ?_⟩
 have hE := hE.trans hx61
 have hA13 := hA13.trans hx61
 have hA38 := hA38.trans hx61
 have hr45 := hr45.keep hx61
 have hr49 := hr49.keep hx61
 have hr57 := hr57.keep hx61
 refine oY (d := 56) rfl rfl (vr (.bool (true)) rfl) (Yk.eqI (a := (lenQ (some pk) : Nat)) (b := (2 : Nat)) rfl rfl (k_eql _ _ _ _) (oS rfl (Yk.pickT (vr (.bool (true)) rfl) (vr (.bool (true)) (congrArg Value.bool (decide_eq_true (hlen)))) (oM rfl (oY (d := 61) rfl rfl (vr (.bool (true)) rfl) (Yk.move (vr v56 rfl) (oY (d := 61) rfl rfl (vr (.bool (true)) rfl) (Yk.lenRB pk24_ty24 (RB.of hr57 (vr v56 rfl)) (oY (d := 61) rfl rfl (vr (.bool (true)) rfl) (Yk.eqI (a := (((buildP []).1 : List UInt8).length : Nat)) (b := (1062 : Nat)) rfl rfl (k_eql _ _ _ _) (oS rfl (Yk.pickT (vr (.bool (true)) rfl) (vr (.bool (true)) (congrArg Value.bool (decide_eq_true (ex_none.1)))) (oA rfl (oL_ [(0, .bool (true)), (1, v24), (2, NI ((buildP (exPs v3 v10)).2)), (3, v29), (4, NI 0), (5, NI ((getQ (some pk) (Sha.sum (([97, 98, 99, 100, 101, 102, 103, 104, 105] : List UInt8)))).1.2)), (6, NI ((getQ (some pk) (Sha.sum (([97, 98, 99, 100, 101, 102, 103, 104, 105] : List UInt8)))).2)), (7, v56), (8, NI ((buildP []).2))] ⟨rfl, rfl, rfl, rfl, rfl, rfl, rfl, rfl, rfl, trivial⟩ fun ρ63 ⟨T0, T1, T2, T3, T4, T5, T6, T7, T8, _⟩ => (tN (hK60 _ _ (wpF_ret (postF_ret (fn := Tryd.f14) _ rfl [.bool (true)] (.bool (true)) rfl ⟨T0, trivial⟩ ?_))))))))))))))))))
 exact ⟨rfl, hE⟩

theorem packNone_walk (w : World) (hG : Laid w) (id : Bs) (hid : id.length = 32) :
  Calls Tryd.prog 8 #[AB id] w fun e w' => e = .returned (.bool true) ∧ Ext w w' := by
 refine calls_of_wpF (args := [AB id]) Tryd.func8 rfl 40 rfl (Nat.le_of_ble_eq_true rfl) ?_
 intro ρ0 hb
 have T0 : ρ0 0 = (AB id : Value) := hb.get 0
 clear hb
 have hE := Ext.refl w
 refine sk fun K1 hK1 => (wt (oS rfl (Yk.box (cs := (Lib.byteCells id : List Value).toArray) T0 fun n2 w3 hn4 hb5 hx6 hs7 => ?_)))
 have hE := hE.trans hx6
 have hb8 := hb5; clear hb5
 have hl9 : n2 < w3.heap.size := by omega
 refine oA rfl (oZ (tN (hK1 _ _ (sk fun K10 hK10 => (wt (oA rfl (oZ ?_)))))))
 have hq : PackO w3 (.pointer none) none := rfl
 refine tN (hK10 _ _ (sk fun K11 hK11 => (wt (oM rfl (oS rfl (Yk.loadAll (vr (PQ n2 0) rfl) hb8 pk24_ty38 rfl (by exact sizeId_of hid) (oS rfl (Yk.callA2 pk24_pl18 (vr (.pointer none) rfl) (vr (AB id) rfl) ((pget_any _ (.pointer none) none hq (id) hid (by show 0 < 1099511627776; decide)).mono ?_)))))))))
 rintro e w15 ⟨v12, rfl, ho13, hx14⟩
 refine ⟨_, rfl, ?_⟩
 have hA16 := Ext.refl w3
 have hea17 := hE
 have hz18 := hE.size
 have hap19 : OB v12 n2 := own_older ho13 (bl hb8)
 have hE := hE.trans hx14
 have hb8 := eb hx14 hb8
 have hA16 := hA16.trans hx14
 refine oM rfl (oS rfl (Yk.extract (vs := [v12, NI ((getQ none (id)).2)]) (vr (.tuple #[v12, NI ((getQ none (id)).2)]) rfl) (show _ = some (v12 : Value) from rfl) (oS rfl (Yk.extract (vs := [v12, NI ((getQ none (id)).2)]) (vr (.tuple #[v12, NI ((getQ none (id)).2)]) rfl) (show _ = some (NI ((getQ none (id)).2) : Value) from rfl) (oA rfl (oA rfl (oZ (tN (hK11 _ _ (sk fun K20 hK20 => (wt (oM rfl (oS rfl (Yk.loadAll (vr (PQ n2 0) rfl) hb8 pk24_ty38 rfl (by exact sizeId_of hid) (oS rfl (Yk.callA2 pk24_pl19 (vr (.pointer none) rfl) (vr (AB id) rfl) ((pdep_any _ (.pointer none) none (hq.keep hA16) (id) hid).mono ?_)))))))))))))))))
 rintro e w22 ⟨rfl, hx21⟩
 refine ⟨_, rfl, ?_⟩
 have hE := hE.trans hx21
 have hb8 := eb hx21 hb8
 have hA16 := hA16.trans hx21
 have ho13 := Stab.own _ _ _ _ _ _ _ _ ho13 hx21
 refine oM rfl (oS rfl (Yk.extract (vs := [NI ((getQ none (id)).1.2), NI ((getQ none (id)).2)]) (vr (.tuple #[NI ((getQ none (id)).1.2), NI ((getQ none (id)).2)]) rfl) (show _ = some (NI ((getQ none (id)).1.2) : Value) from rfl) (oS rfl (Yk.extract (vs := [NI ((getQ none (id)).1.2), NI ((getQ none (id)).2)]) (vr (.tuple #[NI ((getQ none (id)).1.2), NI ((getQ none (id)).2)]) rfl) (show _ = some (NI ((getQ none (id)).2) : Value) from rfl) (oA rfl (oA rfl (oZ (tN (hK20 _ _ (sk fun K23 hK23 => (wt (oM rfl (oS rfl (Yk.callA1 pk24_pl16 (vr (.pointer none) rfl) ((plen_any _ (.pointer none) none (hq.keep hA16)).mono ?_)))))))))))))))
 rintro e w25 ⟨rfl, hx24⟩
 refine ⟨_, rfl, ?_⟩
 have hE := hE.trans hx24
 have hb8 := eb hx24 hb8
 have hA16 := hA16.trans hx24
 have ho13 := Stab.own _ _ _ _ _ _ _ _ ho13 hx24
 refine oS rfl (Yk.eqI (a := (lenQ none : Nat)) (b := (0 : Nat)) rfl rfl (k_eql _ _ _ _) (oM rfl (oY (d := 23) rfl rfl (vr (.bool (true)) (congrArg Value.bool (decide_eq_true (rfl)))) (Yk.move (vr (.pointer none) rfl) (oY (d := 23) rfl rfl (vr (.bool (true)) (congrArg Value.bool (decide_eq_true (rfl)))) (Yk.callA1 pk24_pl22 (vr (.pointer none) rfl) ((pids_any _ (.pointer none) none (hq.keep hA16) (by decide)).mono ?_)))))))
 rintro e w29 ⟨v26, rfl, ho27, hx28⟩
 refine ⟨_, rfl, ?_⟩
 have hA30 := Ext.refl w25
 have hea31 := hE
 have hea32 := hA16
 have hz33 := hE.size
 have hz34 := hA16.size
 have hap35 : OB v26 n2 := own_older ho27.2 (bl hb8)
 have hap36 : ApartV v12 v26 := apartv_new ho13 ho27.2
 have hap37 : ApartV v26 v12 := apartv_new' ho13 ho27.2
 have hE := hE.trans hx28
 have hb8 := eb hx28 hb8
 have hA16 := hA16.trans hx28
 have ho13 := Stab.own _ _ _ _ _ _ _ _ ho13 hx28
 have hA30 := hA30.trans hx28
 refine oY (d := 23) rfl rfl (vr (.bool (true)) (congrArg Value.bool (decide_eq_true (rfl)))) (Yk.lenRG pk24_ty47 (RG.of (RG.ofOwn ho27) (vr v26 rfl)) (oY (d := 23) rfl rfl (vr (.bool (true)) (congrArg Value.bool (decide_eq_true (rfl)))) (Yk.eqI (a := (((idsQ none)).length : Nat)) (b := (0 : Nat)) rfl rfl (k_eql _ _ _ _) (oS rfl (Yk.pickT (vr (.bool (true)) (congrArg Value.bool (decide_eq_true (rfl)))) (vr (.bool (true)) (congrArg Value.bool (decide_eq_true (rfl)))) (oM rfl (oY (d := 29) rfl rfl (vr (.bool (true)) rfl) (Yk.move (vr (NI ((getQ none (id)).2)) rfl) (oY (d := 29) rfl rfl (vr (.bool (true)) rfl) (Yk.eqI (a := ((getQ none (id)).2 : Nat)) (b := (1 : Nat)) rfl rfl (k_eql _ _ _ _) (oS rfl (Yk.pickT (vr (.bool (true)) rfl) (vr (.bool (true)) (congrArg Value.bool (decide_eq_true (rfl)))) (oM rfl (oY (d := 33) rfl rfl (vr (.bool (true)) rfl) (Yk.move (vr (NI ((getQ none (id)).2)) rfl) (oY (d := 33) rfl rfl (vr (.bool (true)) rfl) (Yk.eqI (a := ((getQ none (id)).2 : Nat)) (b := (1 : Nat)) rfl rfl (k_eql _ _ _ _) (oS rfl (Yk.pickT (vr (.bool (true)) rfl) (vr (.bool (true)) (congrArg Value.bool (decide_eq_true (rfl)))) (oM rfl (oY (d := 37) rfl rfl (vr (.bool (true)) rfl) (Yk.callA0 pk24_pl14  ((awake11 _ (hG.keep hE)).mono ?_)))))))))))))))))))))))
 rintro e w39 ⟨rfl, hx38⟩
 refine ⟨_, rfl, ?_⟩
 have hE := hE.trans hx38
 have hb8 := eb hx38 hb8
 have hA16 := hA16.trans hx38
 have ho13 := Stab.own _ _ _ _ _ _ _ _ ho13 hx38
 have hA30 := hA30.trans hx38
 have ho27 := ho27.keep hx38
 refine oS rfl (Yk.pickT (vr (.bool (true)) rfl) (vr (.bool (true)) rfl) (oA rfl (oL_ [(0, AB id), (1, PQ n2 0), (2, .bool (true)), (3, .pointer none), (5, NI ((getQ none (id)).2)), (7, NI ((getQ none (id)).2))] ⟨T0, rfl, rfl, rfl, rfl, rfl, trivial⟩ fun ρ40 ⟨T0, T1, T2, T3, T5, T7, _⟩ => (tN (hK23 _ _ (wpF_ret (postF_ret (fn := Tryd.f8) _ rfl [.bool (true)] (.bool (true)) rfl ⟨T2, trivial⟩ ?_)))))))
 exact ⟨rfl, hE⟩
open Go.ChangeShapes Go.WideShapes Go.ChangeAt Go.RowKit
theorem g_first : Tryd.prog.globalNamed "variorum/sha.first" = some 0 := by kernel_rfl
theorem gt_first : (Tryd.prog.globals[0]?).map (·.type) = some 88 := by kernel_rfl
theorem gc_first : Tryd.prog.cellsOf 88 = 8 := by kernel_rfl
def zs_first : List Int := [1779033703, 3144134277, 1013904242, 2773480762, 1359893119, 2600822924, 528734635, 1541459225]
theorem zs_first_eq : (zs_first.map fun z => Value.int .u32 z).toArray = cellsU Sha.first := by kernel_rfl
theorem g_words : Tryd.prog.globalNamed "variorum/sha.words" = some 1 := by kernel_rfl
theorem gt_words : (Tryd.prog.globals[1]?).map (·.type) = some 89 := by kernel_rfl
theorem gc_words : Tryd.prog.cellsOf 89 = 64 := by kernel_rfl
def zs_words : List Int := [1116352408, 1899447441, 3049323471, 3921009573, 961987163, 1508970993, 2453635748, 2870763221, 3624381080, 310598401, 607225278, 1426881987, 1925078388, 2162078206, 2614888103, 3248222580, 3835390401, 4022224774, 264347078, 604807628, 770255983, 1249150122, 1555081692, 1996064986, 2554220882, 2821834349, 2952996808, 3210313671, 3336571891, 3584528711, 113926993, 338241895, 666307205, 773529912, 1294757372, 1396182291, 1695183700, 1986661051, 2177026350, 2456956037, 2730485921, 2820302411, 3259730800, 3345764771, 3516065817, 3600352804, 4094571909, 275423344, 430227734, 506948616, 659060556, 883997877, 958139571, 1322822218, 1537002063, 1747873779, 1955562222, 2024104815, 2227730452, 2361852424, 2428436474, 2756734187, 3204031479, 3329325298]
theorem zs_words_eq : (zs_words.map fun z => Value.int .u32 z).toArray = cellsU Sha.words := by kernel_rfl
theorem gc_u : Tryd.prog.cellsOf 87 = 1 := by kernel_rfl
theorem var_block {P : Program} {W : World} {name : String} {g : Nat} {cs : Array Value} (hg : P.globalNamed name = some g) (h : W.var? P name = some cs) : ∃ t fr, W.heap[g]? = some (.cells cs t fr) := by
 unfold World.var? at h
 rw [hg] at h
 simp only [Option.bind_some] at h
 split at h
 ·rename_i cs' t fr he
  cases h
  exact ⟨t, fr, he⟩
 ·cases h
theorem laid_of {W : World} (h : laidMetH Tryd.prog [("variorum/sha.first", Rows.laid_variorum_sha_first), ("variorum/sha.words", Rows.laid_variorum_sha_words)] W) : Laid W := by
 have h1 : Lib.TabIs Tryd.prog W "variorum/sha.first" .u32 zs_first := Lib.tabIs_of_head g_first gt_first Tryd.underlying88 Tryd.underlying87 gc_u gc_first h
 have h2 : Lib.TabIs Tryd.prog W "variorum/sha.words" .u32 zs_words := Lib.tabIs_of_head (rest := []) g_words gt_words Tryd.underlying89 Tryd.underlying87 gc_u gc_words (laidMet.tail h)
 unfold Lib.TabIs at h1 h2
 rw [zs_first_eq] at h1
 rw [zs_words_eq] at h2
 exact ⟨var_block g_first h1, var_block g_words h2⟩
noncomputable def laidWorld (os : Os) : World :=
 let h0 := (World.holding Tryd.prog os ⟨#[], #[], []⟩).heap
 let h1 := h0.modify 0 fun
   | .cells _ t frozen => .cells (cellsU Sha.first) t frozen
   | o => o
 let h2 := h1.modify 1 fun
   | .cells _ t frozen => .cells (cellsU Sha.words) t frozen
   | o => o
 { World.holding Tryd.prog os ⟨#[], #[], []⟩ with heap := h2 }
theorem laid_met (os : Os) (args : Array Value) : laidMet Tryd.prog [("variorum/sha.first", Rows.laid_variorum_sha_first), ("variorum/sha.words", Rows.laid_variorum_sha_words)] ((laidWorld os).forCall (fun _ _ => 0) ⟨#[], args, []⟩).memory :=
 laidMet_of_run' 8 (by kernel_rfl) (by kernel_rfl)
end Go.Proofs.YtcegdjpdnlaleaaDoor
