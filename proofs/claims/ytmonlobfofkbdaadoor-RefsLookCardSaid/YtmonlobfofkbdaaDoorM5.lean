/- Part 5 of what stands behind these statements: laws and walks of the functions that are reached. Conditions: those that each theorem names. -/
import Derived.Test.YtmonlobfofkbdaaDoorM4
set_option linter.unusedVariables false
set_option linter.unusedSimpArgs false
namespace Go.Proofs.YtmonlobfofkbdaaDoor
open Go.RowKit
set_option maxRecDepth 100000
section
variable {l o : List Bs} {i : Nat}
theorem set_nd {x : Bs} (h : o.Nodup) (hx : x ∉ o) : (o ++ [x]).Nodup := by
 rw [List.nodup_append]
 exact ⟨h, by simp, fun a ha b hb => by rw [List.mem_singleton.1 hb]; intro e; exact hx (e ▸ ha)⟩
theorem set_memT (hi : i < l.length) (h : ∀ x, x ∈ o ↔ x ∈ l.take i) : ∀ x, x ∈ o ++ [l.getD i []] ↔ x ∈ l.take (i + 1) := fun x => by
 rw [take_memS hi, List.mem_append, h x, List.mem_singleton]
theorem set_memF (hi : i < l.length) (h : ∀ x, x ∈ o ↔ x ∈ l.take i) (hin : l.getD i [] ∈ o) : ∀ x, x ∈ o ↔ x ∈ l.take (i + 1) := fun x => by
 rw [take_memS hi, ← h x]
 exact ⟨.inl, fun h => h.elim id fun e => e ▸ hin⟩
end
theorem wr52_ty23 : Tryd.prog.underlying 23 = some (.slice 25) := by kernel_rfl
theorem wr52_szg25 : ∀ w' : World, (sizeOf 25).run Tryd.prog w' = .ok 32 w' := fun _ => by kernel_rfl
theorem wr52_ty25 : Tryd.prog.underlying 25 = some (.array 32 5) := by kernel_rfl
theorem wr52_isz25 : (Tryd.prog.info? 25).map (·.size) = some 32 := by kernel_rfl
theorem wr52_eg25 : Tryd.prog.eqGuardType Tryd.prog.depth 25 = false := by kernel_rfl
theorem wr52_ty5 : Tryd.prog.underlying 5 = some (.int .u8) := by kernel_rfl
theorem wr52_sz5 : ∀ w' : World, (sizeOf 5).run Tryd.prog w' = .ok 1 w' := fun _ => by kernel_rfl
theorem wr52_lh23 (c0 c1 c2 c3 c4 c5 c6 c7 c8 c9 c10 c11 c12 c13 c14 c15 c16 c17 c18 c19 c20 c21 c22 c23 c24 c25 c26 c27 c28 c29 c30 c31 : Value) (w : World) : (Instr.buildSlice 23 1 #[(0, .agg #[c0, c1, c2, c3, c4, c5, c6, c7, c8, c9, c10, c11, c12, c13, c14, c15, c16, c17, c18, c19, c20, c21, c22, c23, c24, c25, c26, c27, c28, c29, c30, c31])]).run Tryd.prog w = .ok (.slice (some ⟨w.heap.size, 0, none⟩) 1 1) (w.alloc (.cells #[c0, c1, c2, c3, c4, c5, c6, c7, c8, c9, c10, c11, c12, c13, c14, c15, c16, c17, c18, c19, c20, c21, c22, c23, c24, c25, c26, c27, c28, c29, c30, c31] 25)) := by kernel_rfl
theorem wr52_lg23 : ∀ (cs : Array Value), cs.size = 32 → ∀ w : World, (Instr.buildSlice 23 1 #[(0, .agg cs)]).run Tryd.prog w = .ok (.slice (some ⟨w.heap.size, 0, none⟩) 1 1) (w.alloc (.cells cs 25))
 | ⟨[c0, c1, c2, c3, c4, c5, c6, c7, c8, c9, c10, c11, c12, c13, c14, c15, c16, c17, c18, c19, c20, c21, c22, c23, c24, c25, c26, c27, c28, c29, c30, c31]⟩, _, w => wr52_lh23 c0 c1 c2 c3 c4 c5 c6 c7 c8 c9 c10 c11 c12 c13 c14 c15 c16 c17 c18 c19 c20 c21 c22 c23 c24 c25 c26 c27 c28 c29 c30 c31 w
theorem wr52_ig25 : ∃ z, (Tryd.prog.info? 25).map (fun i => (i.zero, i.size, i.bytes)) = some (some z, 32, 32) ∧ z.cells.size = 32 := info_ex (by kernel_rfl)
theorem wr52_pl144 : Plain Tryd.prog 144 := fun _ _ => by kernel_rfl
theorem wr52_pl132 : Plain Tryd.prog 132 := fun _ _ => by kernel_rfl
theorem wr52_pl152 : Plain Tryd.prog 152 := fun _ _ => by kernel_rfl
theorem wr52_pl133 : Plain Tryd.prog 133 := fun _ _ => by kernel_rfl
set_option maxHeartbeats 1600000
theorem refIn_any (w : World) (v : Value) (l : List Bs) (hr : RG 32 Lib.byteCells w v l) (hll : l.length < 9223372036854775807) (id : Bs) (hid : id.length = 32) :
  Calls Tryd.prog 132 #[v, AB id] w fun e w' => e = .returned (.bool (decide (id ∈ l))) ∧ Ext w w' := by
 refine calls_of_wpF (args := [v, AB id]) Tryd.func132 rfl 18 rfl (Nat.le_of_ble_eq_true rfl) ?_
 intro ρ0 hb
 have T0 : ρ0 0 = (v : Value) := hb.get 0
 have T1 : ρ0 1 = (AB id : Value) := hb.get 1
 clear hb
 have hE := Ext.refl w
 refine sk fun K1 hK1 => (wt (oS rfl (Yk.box (cs := (Lib.byteCells id : List Value).toArray) T1 fun n2 w3 hn4 hb5 hx6 hs7 => ?_)))
 have hE := hE.trans hx6
 have hb8 := hb5; clear hb5
 have hl9 : n2 < w3.heap.size := by omega
 refine oA rfl (oZ (tN (hK1 _ _ (sk fun K10 hK10 => (sk fun K11 hK11 => (wt (oA rfl (oL_ [(0, v), (1, AB id), (3, PQ n2 0), (4, .bool (false)), (5, NI 0)] ⟨T0, T1, rfl, rfl, rfl, trivial⟩ fun ρ12 ⟨T0, T1, T3, T4, T5, _⟩ => (tN (hK11 _ _ (wpF_block (wpF_loop (fun (ρ : Slots) (wz : World) => ∃ i : Nat, ρ 0 = (v : Value) ∧ ρ 1 = (AB id : Value) ∧ ρ 3 = (PQ n2 0 : Value) ∧ ρ 5 = (NI i : Value) ∧ Ext w wz ∧ wz.heap[n2]? = some (.cells (Lib.byteCells id).toArray 25 (0, 0)) ∧ (i ≤ l.length) ∧ (id ∉ l.take i) ∧ True) (fun ρ _ => l.length - (intOf (ρ 5)).toNat) ⟨0, T0, T1, T3, T5, hE, hb8, Nat.zero_le _, (by simp), trivial⟩ ?_))))))))))))
 clear hE hb8
 rintro ρ13 w14 ⟨i, T0, T1, T3, T5, hE, hb8, hi, hn, -⟩
 have q5 := T5
 by_cases hlt : i < l.length
 ·have hel : (l.getD i []).length = 32 := bytes_len32 (RG.elem hr [] hlt)
  by_cases q1 : l.getD i [] = id
  ·refine sk fun K15 hK15 => (sk fun K16 hK16 => (wt (oM rfl (oM rfl (oS rfl (Yk.lenRG wr52_ty23 (RG.of (hr.keep hE) T0) (oS rfl (Yk.eqI (a := (i : Nat)) (b := (l.length : Nat)) T5 rfl (k_lss _ _ _ _) (oZ (tN (hK16 _ _ (wpF_true (vr (.bool (true)) (congrArg Value.bool (decide_eq_true (hlt)))) (wpF_skip (tN (hK15 _ _ (sk fun K17 hK17 => (wpF_block (sk fun K18 hK18 => ?_))))))))))))))))))
   refine wpF_draw [Is (v), Is (NI i), fun x w' => PR (Lib.byteCells (l.getD (i) ([] : List UInt8))) x w', Is (AB (l.getD (i) ([] : List UInt8))), Is (AB id), Is (.bool (true))] (by kernel_rfl) [12, 13, 14, 15, 16, 17] (by kernel_rfl) (by kernel_rfl) (si2 ⟨(fun _ _ _ h k => PR.keep h k), (si3 trivial)⟩) ?hs1004 ?hQ1004
   case hs1004 =>
    refine ⟨?_, ?_, ?_, ?_, ?_, ?_, trivial⟩
    ·refine stepN rfl fun σ w1 hC h => ?_
     have e0 := (eqo (h 0 (by decide))).trans T0
     exact Yk.move e0 ⟨Ext.refl _, rfl⟩
    ·refine stepN rfl fun σ w1 hC h => ?_
     have e5 := (eqo (h 5 (by decide))).trans T5
     exact Yk.move e5 ⟨Ext.refl _, rfl⟩
    ·refine stepN rfl fun σ w1 hC h => ?_
     have e12 := eqo (h 12 (by decide))
     have e13 := eqo (h 13 (by decide))
     exact Yk.atRG wr52_ty23 wr52_szg25 (by decide) ([] : List UInt8) (RG.of (hr.keep (hE.trans hC)) e12) e13 (by omega) fun v h => ⟨Ext.refl _, h⟩
    ·refine stepN rfl fun σ w1 hC h => ?_
     have e14 : (fun x w' => PR (Lib.byteCells (l.getD (i) ([] : List UInt8))) x w') (σ 14) w1 := h 14 (by decide)
     exact Yk.loadPR e14 wr52_ty25 rfl (by rw [RG.elem hr ([] : List UInt8) (by omega)]; exact wr52_isz25) ⟨Ext.refl _, rfl⟩
    ·refine stepN rfl fun σ w1 hC h => ?_
     have e3 := (eqo (h 3 (by decide))).trans T3
     exact Yk.loadAll e3 (eb hC hb8) wr52_ty25 rfl (by exact sizeId_of hid) ⟨Ext.refl _, rfl⟩
    ·refine stepN rfl fun σ w1 hC h => ?_
     have e15 := eqo (h 15 (by decide))
     have e16 := eqo (h 16 (by decide))
     exact Yk.eqArr (l1 := (l.getD (i) ([] : List UInt8))) (l2 := id) wr52_ty25 wr52_ty5 wr52_sz5 wr52_eg25 e15 e16 (hel) (hid) ⟨Ext.refl _, (congrArg Value.bool (decide_eq_true (q1)))⟩
   intro ρ19 w20 hx21 he hf
   obtain ⟨-, -, -, -, -, k17, -⟩ := hf
   obtain ⟨T0, T1, T3, T5, T9, -⟩ := he.hold [(0, _), (1, _), (3, _), (5, _), (9, _)] ⟨T0, T1, T3, T5, (congrArg Value.bool (decide_eq_true (hlt))), trivial⟩ rfl
   clear he
   have hE := hE.trans hx21
   have hb8 := eb hx21 hb8
   have T17 : ρ19 17 = .bool (true) := k17
   clear k17
   refine tN (hK18 _ _ (wpF_true T17 (sk fun K22 hK22 => (wt (oA rfl (oZ (tN (hK22 _ _ (wpF_ret (inBlockF_ret (thenF_ret (thenF_ret (inBlockF_ret (thenF_ret (postF_ret (fn := Tryd.f132) _ rfl [.bool (true)] (.bool (true)) rfl ⟨rfl, trivial⟩ ?_)))))))))))))))
   exact ⟨by rw [decide_eq_true (show id ∈ l from q1 ▸ getD_mem [] hlt)], hE⟩
  refine sk fun K23 hK23 => (sk fun K24 hK24 => (wt (oM rfl (oM rfl (oS rfl (Yk.lenRG wr52_ty23 (RG.of (hr.keep hE) T0) (oS rfl (Yk.eqI (a := (i : Nat)) (b := (l.length : Nat)) T5 rfl (k_lss _ _ _ _) (oZ (tN (hK24 _ _ (wpF_true (vr (.bool (true)) (congrArg Value.bool (decide_eq_true (hlt)))) (wpF_skip (tN (hK23 _ _ (sk fun K25 hK25 => (wpF_block (sk fun K26 hK26 => ?_))))))))))))))))))
  refine wpF_draw [Is (v), Is (NI i), fun x w' => PR (Lib.byteCells (l.getD (i) ([] : List UInt8))) x w', Is (AB (l.getD (i) ([] : List UInt8))), Is (AB id), Is (.bool (false))] (by kernel_rfl) [12, 13, 14, 15, 16, 17] (by kernel_rfl) (by kernel_rfl) (si2 ⟨(fun _ _ _ h k => PR.keep h k), (si3 trivial)⟩) ?hs2004 ?hQ2004
  case hs2004 =>
   refine ⟨?_, ?_, ?_, ?_, ?_, ?_, trivial⟩
   ·refine stepN rfl fun σ w1 hC h => ?_
    have e0 := (eqo (h 0 (by decide))).trans T0
    exact Yk.move e0 ⟨Ext.refl _, rfl⟩
   ·refine stepN rfl fun σ w1 hC h => ?_
    have e5 := (eqo (h 5 (by decide))).trans T5
    exact Yk.move e5 ⟨Ext.refl _, rfl⟩
   ·refine stepN rfl fun σ w1 hC h => ?_
    have e12 := eqo (h 12 (by decide))
    have e13 := eqo (h 13 (by decide))
    exact Yk.atRG wr52_ty23 wr52_szg25 (by decide) ([] : List UInt8) (RG.of (hr.keep (hE.trans hC)) e12) e13 (by omega) fun v h => ⟨Ext.refl _, h⟩
   ·refine stepN rfl fun σ w1 hC h => ?_
    have e14 : (fun x w' => PR (Lib.byteCells (l.getD (i) ([] : List UInt8))) x w') (σ 14) w1 := h 14 (by decide)
    exact Yk.loadPR e14 wr52_ty25 rfl (by rw [RG.elem hr ([] : List UInt8) (by omega)]; exact wr52_isz25) ⟨Ext.refl _, rfl⟩
   ·refine stepN rfl fun σ w1 hC h => ?_
    have e3 := (eqo (h 3 (by decide))).trans T3
    exact Yk.loadAll e3 (eb hC hb8) wr52_ty25 rfl (by exact sizeId_of hid) ⟨Ext.refl _, rfl⟩
   ·refine stepN rfl fun σ w1 hC h => ?_
    have e15 := eqo (h 15 (by decide))
    have e16 := eqo (h 16 (by decide))
    exact Yk.eqArr (l1 := (l.getD (i) ([] : List UInt8))) (l2 := id) wr52_ty25 wr52_ty5 wr52_sz5 wr52_eg25 e15 e16 (hel) (hid) ⟨Ext.refl _, (congrArg Value.bool (decide_eq_false (q1)))⟩
  intro ρ27 w28 hx29 he hf
  obtain ⟨-, -, -, -, -, k17, -⟩ := hf
  obtain ⟨T0, T1, T3, T5, T9, -⟩ := he.hold [(0, _), (1, _), (3, _), (5, _), (9, _)] ⟨T0, T1, T3, T5, (congrArg Value.bool (decide_eq_true (hlt))), trivial⟩ rfl
  clear he
  have hE := hE.trans hx29
  have hb8 := eb hx29 hb8
  have T17 : ρ27 17 = .bool (false) := k17
  clear k17
  refine tN (hK26 _ _ (wpF_false T17 (wpF_skip (bN (tN (hK25 _ _ (wt (oM rfl (oS rfl (Yk.bin (xv := NI i) (yv := NI 1) T5 rfl rfl (i64_add _ _ _ (by omega)) (oA rfl (oL_ [(0, v), (1, AB id), (3, PQ n2 0), (5, NI ((i) + (1))), (9, .bool (true)), (17, .bool (false))] ⟨T0, T1, T3, rfl, T9, T17, trivial⟩ fun ρ30 ⟨T0, T1, T3, T5, T9, T17, _⟩ => (tN (And.intro ⟨i + 1, T0, T1, T3, T5, hE, hb8, by omega, take_ne hlt hn q1, trivial⟩ ?_))))))))))))))
  show l.length - (intOf (ρ30 5)).toNat < l.length - (intOf (ρ13 5)).toNat
  rw [T5, q5]
  simp only [intOf, Int.toNat_natCast]; omega
 refine sk fun K31 hK31 => (sk fun K32 hK32 => (wt (oM rfl (oM rfl (oS rfl (Yk.lenRG wr52_ty23 (RG.of (hr.keep hE) T0) (oS rfl (Yk.eqI (a := (i : Nat)) (b := (l.length : Nat)) T5 rfl (k_lss _ _ _ _) (oZ (tN (hK32 _ _ (wpF_false (vr (.bool (false)) (congrArg Value.bool (decide_eq_false (hlt)))) (wpF_exit (thenF_exit (thenF_exit (inBlockF_hit (tN (hK10 _ _ (sk fun K33 hK33 => (wt (oA rfl (oZ ?_))))))))))))))))))))))
 refine tN (hK33 _ _ (wpF_ret (postF_ret (fn := Tryd.f132) _ rfl [.bool (false)] (.bool (false)) rfl ⟨rfl, trivial⟩ ?_)))
 rw [show i = l.length by omega, List.take_length] at hn
 exact ⟨by rw [decide_eq_false hn], hE⟩

theorem refSort_any (w : World) (v : Value) (l : List Bs) (hr : RG 32 Lib.byteCells w v l) (hll : l.length ≤ 1099511627776) :
  Calls Tryd.prog 152 #[v] w fun e w' => ∃ v', e = .returned v' ∧ OG w.heap.size 25 32 Lib.byteCells w' v' (sortB l) ∧ Ext w w' := by
 refine calls_of_wpF (args := [v]) Tryd.func152 rfl 54 rfl (Nat.le_of_ble_eq_true rfl) ?_
 intro ρ0 hb
 have T0 : ρ0 0 = (v : Value) := hb.get 0
 clear hb
 have hE := Ext.refl w
 refine sk fun K1 hK1 => (wt (oA rfl (oZ (tN (hK1 _ _ (sk fun K2 hK2 => (wt (oA rfl (oZ ?_)))))))))
 have hrow0 : OG w.heap.size 25 32 Lib.byteCells w (Value.slice none 0 0) ([] : List Bs) := OG.nil _ _ _ _ _
 refine tN (hK2 _ _ (sk fun K3 hK3 => (sk fun K4 hK4 => (wt (oA rfl (oL_ [(0, v), (2, (Value.slice none 0 0)), (3, (Value.slice none 0 0)), (4, NI 0)] ⟨T0, rfl, rfl, rfl, trivial⟩ fun ρ5 ⟨T0, T2, T3, T4, _⟩ => (tN (hK4 _ _ (wpF_block (wpF_loop (fun (ρ : Slots) (wz : World) => ∃ i : Nat, ∃ o : List Bs, ∃ vo : Value, ρ 0 = (v : Value) ∧ ρ 2 = ((Value.slice none 0 0) : Value) ∧ ρ 4 = (NI i : Value) ∧ ρ 3 = (vo : Value) ∧ Ext w wz ∧ OG w.heap.size 25 32 (Lib.byteCells) wz vo (o) ∧ (i ≤ l.length) ∧ (Asc o) ∧ (o.Perm (l.take i)) ∧ True) (fun ρ _ => l.length - (intOf (ρ 4)).toNat) ⟨0, [], (Value.slice none 0 0), T0, T2, T4, T3, hE, og_eq hrow0 (rfl), Nat.zero_le _, List.Pairwise.nil, (by simp), trivial⟩ ?_))))))))))
 clear hrow0
 clear hE
 rintro ρ6 w7 ⟨i, o, vo, T0, T2, T4, T3, hE, hr_vo, hi, ha, hp, -⟩
 have q4 := T4
 by_cases hlt : i < l.length
 ·obtain ⟨x, hx⟩ : ∃ x, x = l.getD i [] := ⟨_, rfl⟩
  have xlen : x.length = 32 := by rw [hx]; exact bytes_len32 (RG.elem hr [] hlt)
  have hol : o.length = i := by rw [hp.length_eq, List.length_take]; omega
  refine sk fun K8 hK8 => (sk fun K9 hK9 => (wt (oM rfl (oM rfl (oS rfl (Yk.lenRG wr52_ty23 (RG.of (hr.keep hE) T0) (oS rfl (Yk.eqI (a := (i : Nat)) (b := (l.length : Nat)) T4 rfl (k_lss _ _ _ _) (oZ (tN (hK9 _ _ (wpF_true (vr (.bool (true)) (congrArg Value.bool (decide_eq_true (hlt)))) (wpF_skip (tN (hK8 _ _ (sk fun K10 hK10 => (wpF_block (sk fun K11 hK11 => (wt ?_)))))))))))))))))))
  refine oM rfl (oS rfl (Yk.lenRG wr52_ty23 (RG.of (RG.ofOwn hr_vo) T3) (oA rfl (oZ (tN (hK11 _ _ (sk fun K12 hK12 => (wt (oM rfl (oM rfl (oM rfl ?_)))))))))))
  have hl15 : (Lib.byteCells (l.getD (i) ([] : List UInt8))).length = 32 := (RG.elem (hr.keep hE) ([] : List UInt8) (by omega))
  refine oS rfl (Yk.atRG wr52_ty23 wr52_szg25 (by decide) ([] : List UInt8) (RG.of (hr.keep hE) T0) T4 (by omega) fun v13 hp14 => (oS rfl (Yk.loadPR (PR.of hp14 (vr v13 rfl)) wr52_ty25 rfl (by rw [hl15]; exact wr52_isz25) (oS rfl (Yk.lit1G (a := (l.getD (i) ([] : List UInt8))) (enc := Lib.byteCells) (vr (AB (l.getD (i) ([] : List UInt8))) rfl) (by rw [Lib.byteCells_length]; exact (bytes_len32 (hl15))) wr52_lg23 fun v16 w17 hr18 hx19 => ?_)))))
  have hE := hE.trans hx19
  have hr_vo := hr_vo.keep hx19
  have hp14 := PR.keep hp14 hx19
  refine oS rfl (Yk.appendRG _ _ w.heap.size _ 32 wr52_ty23 wr52_ig25.choose_spec.1 wr52_ig25.choose_spec.2 wr52_ty23 (o) ([(l.getD (i) ([] : List UInt8))]) (OG.of hr_vo T3) (RG.of hr18 (vr v16 rfl)) (fun _ _ => byteCells_one _) (by simp only [List.length_cons, List.length_nil]; omega) (by simp only [List.length_cons, List.length_nil]; omega) hE.size fun v20 w21 ho22 hg23 => ?_)
  have hg23 : Grew w17 w21 vo v20 := .eqv T3 hg23
  have hE := ext_grew hE hg23 hr_vo.2 (Nat.le_refl _)
  clear hp14
  clear hr18
  clear hr_vo
  refine oA rfl (oL_ [(0, v), (2, (Value.slice none 0 0)), (3, v20), (4, NI i), (5, NI o.length), (9, .bool (true))] ⟨T0, T2, rfl, T4, rfl, (congrArg Value.bool (decide_eq_true (hlt))), trivial⟩ fun ρ24 ⟨T0, T2, T3, T4, T5, T9, _⟩ => (tN (hK12 _ _ (sk fun K25 hK25 => (wpF_block (wpF_loop (fun (ρ : Slots) (wz : World) => ∃ j : Nat, ∃ y : Bs, ∃ vp : Value, ρ 0 = (v : Value) ∧ ρ 2 = ((Value.slice none 0 0) : Value) ∧ ρ 4 = (NI i : Value) ∧ ρ 9 = (.bool (true) : Value) ∧ ρ 5 = (NI j : Value) ∧ ρ 3 = (vp : Value) ∧ Ext w wz ∧ OG w.heap.size 25 32 (Lib.byteCells) wz vp (insAt o j y) ∧ (j ≤ o.length) ∧ (∀ k, j ≤ k → k < o.length → 0 < Lib.compareBytes (o.getD k []) x) ∧ True) (fun ρ _ => (intOf (ρ 5)).toNat) ⟨o.length, x, v20, T0, T2, T4, T9, T5, T3, hE, og_eq ho22 ((by rw [← hx]; exact insAt_end o x)), Nat.le_refl _, (fun k h1 h2 => by omega), trivial⟩ ?_))))))
  clear ho22
  clear hE
  rintro ρ26 w27 ⟨j, y, vp, T0, T2, T4, T9, T5, T3, hE, hr_vp, hj, hgt, -⟩
  have q5 := T5
  have hil := insAt_len o j y
  obtain ⟨g, hg⟩ := OG.block hr_vp (i := 0) (by omega)
  by_cases hj0 : j = 0
  ·have hstop : j = 0 ∨ ¬ 0 < Lib.compareBytes (o.getD (j - 1) []) x := .inl hj0
   refine sk fun K28 hK28 => (sk fun K29 hK29 => ?_)
   refine wpF_draw [Is (NI j), Is (.bool (false)), Is (.bool (false)), Is undef, Is undef, Is undef, Is undef, Is undef, Is undef, Is undef, Is undef, Is undef, Is undef, Is undef, Is (.bool (false))] (by kernel_rfl) [21, 22, 23, 24, 25, 26, 27, 28, 29, 30, 31, 32, 33, 34, 35] (by kernel_rfl) (by kernel_rfl) (si3 (si12 trivial)) ?hs1007 ?hQ1007
   case hs1007 =>
    refine ⟨?_, ?_, ?_, ?_, ?_, ?_, ?_, ?_, ?_, ?_, ?_, ?_, ?_, ?_, ?_, trivial⟩
    ·refine stepN rfl fun σ w1 hC h => ?_
     have e5 := (eqo (h 5 (by decide))).trans T5
     exact Yk.move e5 ⟨Ext.refl _, rfl⟩
    ·refine stepN rfl fun σ w1 hC h => ?_
     have e21 := eqo (h 21 (by decide))
     exact Yk.eqI (a := (j : Nat)) (b := (0 : Nat)) e21 rfl (k_gtr _ _ _ _) ⟨Ext.refl _, (congrArg Value.bool (decide_eq_false (by omega)))⟩
    ·refine stepN rfl fun σ w1 hC h => ?_
     have e22 := eqo (h 22 (by decide))
     exact Yk.move e22 ⟨Ext.refl _, rfl⟩
    ·refine stepX 2 true 23 rfl rfl (fun x _ (h : x = .bool false) => by rw [h]; intro h; cases h) fun _ => rfl
    ·refine stepX 2 true 23 rfl rfl (fun x _ (h : x = .bool false) => by rw [h]; intro h; cases h) fun _ => rfl
    ·refine stepX 2 true 23 rfl rfl (fun x _ (h : x = .bool false) => by rw [h]; intro h; cases h) fun _ => rfl
    ·refine stepX 2 true 23 rfl rfl (fun x _ (h : x = .bool false) => by rw [h]; intro h; cases h) fun _ => rfl
    ·refine stepX 2 true 23 rfl rfl (fun x _ (h : x = .bool false) => by rw [h]; intro h; cases h) fun _ => rfl
    ·refine stepX 2 true 23 rfl rfl (fun x _ (h : x = .bool false) => by rw [h]; intro h; cases h) fun _ => rfl
    ·refine stepX 2 true 23 rfl rfl (fun x _ (h : x = .bool false) => by rw [h]; intro h; cases h) fun _ => rfl
    ·refine stepX 2 true 23 rfl rfl (fun x _ (h : x = .bool false) => by rw [h]; intro h; cases h) fun _ => rfl
    ·refine stepX 2 true 23 rfl rfl (fun x _ (h : x = .bool false) => by rw [h]; intro h; cases h) fun _ => rfl
    ·refine stepX 2 true 23 rfl rfl (fun x _ (h : x = .bool false) => by rw [h]; intro h; cases h) fun _ => rfl
    ·refine stepX 2 true 23 rfl rfl (fun x _ (h : x = .bool false) => by rw [h]; intro h; cases h) fun _ => rfl
    ·refine stepN rfl fun σ w1 hC h => ?_
     have e23 := eqo (h 23 (by decide))
     exact Yk.pickF e23 (vr (.bool (false)) rfl) ⟨Ext.refl _, rfl⟩
   intro ρ30 w31 hx32 he hf
   obtain ⟨-, -, -, -, -, -, -, -, -, -, -, -, -, -, k35, -⟩ := hf
   obtain ⟨T0, T2, T3, T4, T5, T9, -⟩ := he.hold [(0, _), (2, _), (3, _), (4, _), (5, _), (9, _)] ⟨T0, T2, T3, T4, T5, T9, trivial⟩ rfl
   clear he
   have hE := hE.trans hx32
   have hr_vp := hr_vp.keep hx32
   have T35 : ρ30 35 = .bool (false) := k35
   clear k35
   refine tN (hK29 _ _ (wpF_false T35 (wpF_exit (thenF_exit (thenF_exit (inBlockF_hit (tN (hK25 _ _ (wt (oM rfl (oM rfl (oM rfl (oM rfl ?_)))))))))))))
   have hl35 : (Lib.byteCells (l.getD (i) ([] : List UInt8))).length = 32 := (RG.elem (hr.keep hE) ([] : List UInt8) (by omega))
   refine oS rfl (Yk.atRG wr52_ty23 wr52_szg25 (by decide) ([] : List UInt8) (RG.of (hr.keep hE) T0) T4 (by omega) fun v33 hp34 => (oS rfl (Yk.loadPR (PR.of hp34 (vr v33 rfl)) wr52_ty25 rfl (by rw [hl35]; exact wr52_isz25) (oS rfl (Yk.atOwnK (k := 32) (i := j) wr52_ty23 wr52_szg25 T3 hr_vp.2 hg T5 (by omega) (oS rfl (Yk.storeOG (i := j) (a := (l.getD (i) ([] : List UInt8))) ([] : List UInt8) (vr (.pointer (some ⟨g, j * 32, none⟩)) rfl) (vr (AB (l.getD (i) ([] : List UInt8))) rfl) hr_vp hg (by omega) (by rw [Lib.byteCells_length, ← hx]; exact xlen) (byteCells_one _) wr52_isz25 fun w36 ho37 hg38 => ?_)))))))
   have hE := ext_grew hE hg38 hr_vp.2 (Nat.le_refl _)
   clear hp34
   clear hr_vp
   have ho37 := og_eq (l' := insAt o j x) ho37 (by rw [← hx]; exact ins_set hj)
   refine oZ (bN (tN (hK10 _ _ (wt (oM rfl (oS rfl (Yk.bin (xv := NI i) (yv := NI 1) T4 rfl rfl (i64_add _ _ _ (by omega)) (oA rfl (oL_ [(0, v), (2, (Value.slice none 0 0)), (3, vp), (4, NI ((i) + (1))), (5, NI j), (9, .bool (true)), (35, .bool (false))] ⟨T0, T2, T3, rfl, T5, T9, T35, trivial⟩ fun ρ39 ⟨T0, T2, T3, T4, T5, T9, T35, _⟩ => ?_)))))))))
   refine tN (And.intro ⟨i + 1, insAt o j x, vp, T0, T2, T4, T3, hE, og_eq ho37 (rfl), by omega, ins_asc ha hj hgt hstop, (by rw [List.take_succ_eq_append_getElem hlt]; have h1 := ins_perm (o := o) (j := j) (x := x); rw [hx, List.getD_eq_getElem?_getD, List.getElem?_eq_getElem hlt] at h1 ⊢; exact (h1.trans (hp.cons _)).trans (List.perm_append_comm (l₁ := [_])) ), trivial⟩ ?_)
   show l.length - (intOf (ρ39 4)).toNat < l.length - (intOf (ρ6 4)).toNat
   rw [T4, q4]
   simp only [intOf, Int.toNat_natCast]; omega
  have hjp : 0 < j := by omega
  have hge := ins_get (y := y) hjp hj
  have ylen : (o.getD (j - 1) []).length = 32 := by rw [← hge]; exact bytes_len32 (hr_vp.1 _ (getD_mem [] (by omega)))
  by_cases hq : 0 < Lib.compareBytes (o.getD (j - 1) []) x
  ·refine sk fun K40 hK40 => (sk fun K41 hK41 => ?_)
   refine wpF_draw [Is (NI j), Is (.bool (true)), Is (.bool (true)), Is (vp), Is (NI j), Is (NI ((j) - (1))), fun x w' => PR (Lib.byteCells ((insAt o j y).getD ((j) - (1)) ([] : List UInt8))) x w', Is (AB ((insAt o j y).getD ((j) - (1)) ([] : List UInt8))), Is (v), Is (NI i), fun x w' => PR (Lib.byteCells (l.getD (i) ([] : List UInt8))) x w', Is (AB (l.getD (i) ([] : List UInt8))), Is (.int .i64 (Lib.compareBytes (((insAt o j y).getD ((j) - (1)) ([] : List UInt8))) ((l.getD (i) ([] : List UInt8))) : Int)), Is (.bool (true)), Is (.bool (true))] (by kernel_rfl) [21, 22, 23, 24, 25, 26, 27, 28, 29, 30, 31, 32, 33, 34, 35] (by kernel_rfl) (by kernel_rfl) (si6 ⟨(fun _ _ _ h k => PR.keep h k), (si3 ⟨(fun _ _ _ h k => PR.keep h k), (si4 trivial)⟩)⟩) ?hs2007 ?hQ2007
   case hs2007 =>
    refine ⟨?_, ?_, ?_, ?_, ?_, ?_, ?_, ?_, ?_, ?_, ?_, ?_, ?_, ?_, ?_, trivial⟩
    ·refine stepN rfl fun σ w1 hC h => ?_
     have e5 := (eqo (h 5 (by decide))).trans T5
     exact Yk.move e5 ⟨Ext.refl _, rfl⟩
    ·refine stepN rfl fun σ w1 hC h => ?_
     have e21 := eqo (h 21 (by decide))
     exact Yk.eqI (a := (j : Nat)) (b := (0 : Nat)) e21 rfl (k_gtr _ _ _ _) ⟨Ext.refl _, (congrArg Value.bool (decide_eq_true (hjp)))⟩
    ·refine stepN rfl fun σ w1 hC h => ?_
     have e22 := eqo (h 22 (by decide))
     exact Yk.move e22 ⟨Ext.refl _, rfl⟩
    ·refine stepY 2 true 23 rfl rfl (fun _ _ h => h) fun σ w1 hC h => ?_
     have e3 := (eqo (h 3 (by decide))).trans T3
     exact Yk.move e3 ⟨Ext.refl _, rfl⟩
    ·refine stepY 2 true 23 rfl rfl (fun _ _ h => h) fun σ w1 hC h => ?_
     have e5 := (eqo (h 5 (by decide))).trans T5
     exact Yk.move e5 ⟨Ext.refl _, rfl⟩
    ·refine stepY 2 true 23 rfl rfl (fun _ _ h => h) fun σ w1 hC h => ?_
     have e25 := eqo (h 25 (by decide))
     exact Yk.bin (xv := NI j) (yv := NI 1) e25 rfl rfl (i64_sub _ _ _ (by omega) (by omega)) ⟨Ext.refl _, rfl⟩
    ·refine stepY 2 true 23 rfl rfl (fun _ _ h => h) fun σ w1 hC h => ?_
     have e24 := eqo (h 24 (by decide))
     have e26 := eqo (h 26 (by decide))
     exact Yk.atRG wr52_ty23 wr52_szg25 (by decide) ([] : List UInt8) (RG.of (RG.ofOwn (hr_vp.keep hC)) e24) e26 (by omega) fun v h => ⟨Ext.refl _, h⟩
    ·refine stepY 2 true 23 rfl rfl (fun _ _ h => h) fun σ w1 hC h => ?_
     have e27 : (fun x w' => PR (Lib.byteCells ((insAt o j y).getD ((j) - (1)) ([] : List UInt8))) x w') (σ 27) w1 := h 27 (by decide)
     exact Yk.loadPR e27 wr52_ty25 rfl (by rw [RG.elem (RG.ofOwn hr_vp) ([] : List UInt8) (by omega)]; exact wr52_isz25) ⟨Ext.refl _, rfl⟩
    ·refine stepY 2 true 23 rfl rfl (fun _ _ h => h) fun σ w1 hC h => ?_
     have e0 := (eqo (h 0 (by decide))).trans T0
     exact Yk.move e0 ⟨Ext.refl _, rfl⟩
    ·refine stepY 2 true 23 rfl rfl (fun _ _ h => h) fun σ w1 hC h => ?_
     have e4 := (eqo (h 4 (by decide))).trans T4
     exact Yk.move e4 ⟨Ext.refl _, rfl⟩
    ·refine stepY 2 true 23 rfl rfl (fun _ _ h => h) fun σ w1 hC h => ?_
     have e29 := eqo (h 29 (by decide))
     have e30 := eqo (h 30 (by decide))
     exact Yk.atRG wr52_ty23 wr52_szg25 (by decide) ([] : List UInt8) (RG.of (hr.keep (hE.trans hC)) e29) e30 (by omega) fun v h => ⟨Ext.refl _, h⟩
    ·refine stepY 2 true 23 rfl rfl (fun _ _ h => h) fun σ w1 hC h => ?_
     have e31 : (fun x w' => PR (Lib.byteCells (l.getD (i) ([] : List UInt8))) x w') (σ 31) w1 := h 31 (by decide)
     exact Yk.loadPR e31 wr52_ty25 rfl (by rw [RG.elem hr ([] : List UInt8) (by omega)]; exact wr52_isz25) ⟨Ext.refl _, rfl⟩
    ·refine stepY 2 true 23 rfl rfl (fun _ _ h => h) fun σ w1 hC h => ?_
     have e28 := eqo (h 28 (by decide))
     have e32 := eqo (h 32 (by decide))
     refine Yk.callA2 wr52_pl144 e28 e32 ((refCompare_any _ (((insAt o j y).getD ((j) - (1)) ([] : List UInt8))) ((l.getD (i) ([] : List UInt8))) (by rw [hge]; exact ylen) (by rw [← hx]; exact xlen)).mono ?_)
     rintro e w2 ⟨rfl, hx⟩
     exact ⟨_, rfl, hx, rfl⟩
    ·refine stepY 2 true 23 rfl rfl (fun _ _ h => h) fun σ w1 hC h => ?_
     have e33 := eqo (h 33 (by decide))
     exact Yk.eqI e33 (vr (NI 0) rfl) (z_gtr _ .i64 (Lib.compareBytes (((insAt o j y).getD ((j) - (1)) ([] : List UInt8))) ((l.getD (i) ([] : List UInt8))) : Int) ((0 : Nat) : Int)) ⟨Ext.refl _, (congrArg Value.bool (decide_eq_true (by rw [hge, ← hx]; exact hq)))⟩
    ·refine stepN rfl fun σ w1 hC h => ?_
     have e23 := eqo (h 23 (by decide))
     have e34 := eqo (h 34 (by decide))
     exact Yk.pickT e23 e34 ⟨Ext.refl _, rfl⟩
   intro ρ42 w43 hx44 he hf
   obtain ⟨-, -, -, -, -, -, -, -, -, -, -, -, -, -, k35, -⟩ := hf
   obtain ⟨T0, T2, T3, T4, T5, T9, -⟩ := he.hold [(0, _), (2, _), (3, _), (4, _), (5, _), (9, _)] ⟨T0, T2, T3, T4, T5, T9, trivial⟩ rfl
   clear he
   have hE := hE.trans hx44
   have hr_vp := hr_vp.keep hx44
   have T35 : ρ42 35 = .bool (true) := k35
   clear k35
   refine tN (hK41 _ _ (wpF_true T35 (wpF_skip (tN (hK40 _ _ (wpF_block (sk fun K45 hK45 => (wt (oM rfl (oM rfl (oM rfl (oM rfl (oS rfl (Yk.bin (xv := NI j) (yv := NI 1) T5 rfl rfl (i64_sub _ _ _ (by omega) (by omega)) ?_))))))))))))))
   have hl48 : (Lib.byteCells ((insAt o j y).getD ((j) - (1)) ([] : List UInt8))).length = 32 := (RG.elem (RG.ofOwn hr_vp) ([] : List UInt8) (by omega))
   refine oS rfl (Yk.atRG wr52_ty23 wr52_szg25 (by decide) ([] : List UInt8) (RG.of (RG.ofOwn hr_vp) T3) (vr (NI ((j) - (1))) rfl) (by omega) fun v46 hp47 => (oS rfl (Yk.loadPR (PR.of hp47 (vr v46 rfl)) wr52_ty25 rfl (by rw [hl48]; exact wr52_isz25) (oS rfl (Yk.atOwnK (k := 32) (i := j) wr52_ty23 wr52_szg25 T3 hr_vp.2 hg T5 (by omega) (oS rfl (Yk.storeOG (i := j) (a := ((insAt o j y).getD ((j) - (1)) ([] : List UInt8))) ([] : List UInt8) (vr (.pointer (some ⟨g, j * 32, none⟩)) rfl) (vr (AB ((insAt o j y).getD ((j) - (1)) ([] : List UInt8))) rfl) hr_vp hg (by omega) (by rw [Lib.byteCells_length, hge]; exact ylen) (byteCells_one _) wr52_isz25 fun w49 ho50 hg51 => ?_)))))))
   have hE := ext_grew hE hg51 hr_vp.2 (Nat.le_refl _)
   clear hp47
   clear hr_vp
   have ho50 := og_eq (l' := insAt o (j - 1) (o.getD (j - 1) [])) ho50 (by rw [hge, ins_set hj]; exact ins_shift hjp hj)
   refine oZ (tN (hK45 _ _ (wt (oM rfl (oS rfl (Yk.bin (xv := NI j) (yv := NI 1) T5 rfl rfl (i64_sub _ _ _ (by omega) (by omega)) (oA rfl (oL_ [(0, v), (2, (Value.slice none 0 0)), (3, vp), (4, NI i), (5, NI ((j) - (1))), (9, .bool (true)), (35, .bool (true))] ⟨T0, T2, T3, T4, rfl, T9, T35, trivial⟩ fun ρ52 ⟨T0, T2, T3, T4, T5, T9, T35, _⟩ => (bN (tN (And.intro ⟨j - 1, o.getD (j - 1) [], vp, T0, T2, T4, T9, T5, T3, hE, og_eq ho50 (rfl), by omega, (fun k h1 h2 => by by_cases e : k = j - 1; rw [e]; exact hq; exact hgt k (by omega) h2), trivial⟩ ?_)))))))))))
   show (intOf (ρ52 5)).toNat < (intOf (ρ26 5)).toNat
   rw [T5, q5]
   simp only [intOf, Int.toNat_natCast]; omega
  have hstop : j = 0 ∨ ¬ 0 < Lib.compareBytes (o.getD (j - 1) []) x := .inr hq
  refine sk fun K53 hK53 => (sk fun K54 hK54 => ?_)
  refine wpF_draw [Is (NI j), Is (.bool (true)), Is (.bool (true)), Is (vp), Is (NI j), Is (NI ((j) - (1))), fun x w' => PR (Lib.byteCells ((insAt o j y).getD ((j) - (1)) ([] : List UInt8))) x w', Is (AB ((insAt o j y).getD ((j) - (1)) ([] : List UInt8))), Is (v), Is (NI i), fun x w' => PR (Lib.byteCells (l.getD (i) ([] : List UInt8))) x w', Is (AB (l.getD (i) ([] : List UInt8))), Is (.int .i64 (Lib.compareBytes (((insAt o j y).getD ((j) - (1)) ([] : List UInt8))) ((l.getD (i) ([] : List UInt8))) : Int)), Is (.bool (false)), Is (.bool (false))] (by kernel_rfl) [21, 22, 23, 24, 25, 26, 27, 28, 29, 30, 31, 32, 33, 34, 35] (by kernel_rfl) (by kernel_rfl) (si6 ⟨(fun _ _ _ h k => PR.keep h k), (si3 ⟨(fun _ _ _ h k => PR.keep h k), (si4 trivial)⟩)⟩) ?hs3007 ?hQ3007
  case hs3007 =>
   refine ⟨?_, ?_, ?_, ?_, ?_, ?_, ?_, ?_, ?_, ?_, ?_, ?_, ?_, ?_, ?_, trivial⟩
   ·refine stepN rfl fun σ w1 hC h => ?_
    have e5 := (eqo (h 5 (by decide))).trans T5
    exact Yk.move e5 ⟨Ext.refl _, rfl⟩
   ·refine stepN rfl fun σ w1 hC h => ?_
    have e21 := eqo (h 21 (by decide))
    exact Yk.eqI (a := (j : Nat)) (b := (0 : Nat)) e21 rfl (k_gtr _ _ _ _) ⟨Ext.refl _, (congrArg Value.bool (decide_eq_true (hjp)))⟩
   ·refine stepN rfl fun σ w1 hC h => ?_
    have e22 := eqo (h 22 (by decide))
    exact Yk.move e22 ⟨Ext.refl _, rfl⟩
   ·refine stepY 2 true 23 rfl rfl (fun _ _ h => h) fun σ w1 hC h => ?_
    have e3 := (eqo (h 3 (by decide))).trans T3
    exact Yk.move e3 ⟨Ext.refl _, rfl⟩
   ·refine stepY 2 true 23 rfl rfl (fun _ _ h => h) fun σ w1 hC h => ?_
    have e5 := (eqo (h 5 (by decide))).trans T5
    exact Yk.move e5 ⟨Ext.refl _, rfl⟩
   ·refine stepY 2 true 23 rfl rfl (fun _ _ h => h) fun σ w1 hC h => ?_
    have e25 := eqo (h 25 (by decide))
    exact Yk.bin (xv := NI j) (yv := NI 1) e25 rfl rfl (i64_sub _ _ _ (by omega) (by omega)) ⟨Ext.refl _, rfl⟩
   ·refine stepY 2 true 23 rfl rfl (fun _ _ h => h) fun σ w1 hC h => ?_
    have e24 := eqo (h 24 (by decide))
    have e26 := eqo (h 26 (by decide))
    exact Yk.atRG wr52_ty23 wr52_szg25 (by decide) ([] : List UInt8) (RG.of (RG.ofOwn (hr_vp.keep hC)) e24) e26 (by omega) fun v h => ⟨Ext.refl _, h⟩
   ·refine stepY 2 true 23 rfl rfl (fun _ _ h => h) fun σ w1 hC h => ?_
    have e27 : (fun x w' => PR (Lib.byteCells ((insAt o j y).getD ((j) - (1)) ([] : List UInt8))) x w') (σ 27) w1 := h 27 (by decide)
    exact Yk.loadPR e27 wr52_ty25 rfl (by rw [RG.elem (RG.ofOwn hr_vp) ([] : List UInt8) (by omega)]; exact wr52_isz25) ⟨Ext.refl _, rfl⟩
   ·refine stepY 2 true 23 rfl rfl (fun _ _ h => h) fun σ w1 hC h => ?_
    have e0 := (eqo (h 0 (by decide))).trans T0
    exact Yk.move e0 ⟨Ext.refl _, rfl⟩
   ·refine stepY 2 true 23 rfl rfl (fun _ _ h => h) fun σ w1 hC h => ?_
    have e4 := (eqo (h 4 (by decide))).trans T4
    exact Yk.move e4 ⟨Ext.refl _, rfl⟩
   ·refine stepY 2 true 23 rfl rfl (fun _ _ h => h) fun σ w1 hC h => ?_
    have e29 := eqo (h 29 (by decide))
    have e30 := eqo (h 30 (by decide))
    exact Yk.atRG wr52_ty23 wr52_szg25 (by decide) ([] : List UInt8) (RG.of (hr.keep (hE.trans hC)) e29) e30 (by omega) fun v h => ⟨Ext.refl _, h⟩
   ·refine stepY 2 true 23 rfl rfl (fun _ _ h => h) fun σ w1 hC h => ?_
    have e31 : (fun x w' => PR (Lib.byteCells (l.getD (i) ([] : List UInt8))) x w') (σ 31) w1 := h 31 (by decide)
    exact Yk.loadPR e31 wr52_ty25 rfl (by rw [RG.elem hr ([] : List UInt8) (by omega)]; exact wr52_isz25) ⟨Ext.refl _, rfl⟩
   ·refine stepY 2 true 23 rfl rfl (fun _ _ h => h) fun σ w1 hC h => ?_
    have e28 := eqo (h 28 (by decide))
    have e32 := eqo (h 32 (by decide))
    refine Yk.callA2 wr52_pl144 e28 e32 ((refCompare_any _ (((insAt o j y).getD ((j) - (1)) ([] : List UInt8))) ((l.getD (i) ([] : List UInt8))) (by rw [hge]; exact ylen) (by rw [← hx]; exact xlen)).mono ?_)
    rintro e w2 ⟨rfl, hx⟩
    exact ⟨_, rfl, hx, rfl⟩
   ·refine stepY 2 true 23 rfl rfl (fun _ _ h => h) fun σ w1 hC h => ?_
    have e33 := eqo (h 33 (by decide))
    exact Yk.eqI e33 (vr (NI 0) rfl) (z_gtr _ .i64 (Lib.compareBytes (((insAt o j y).getD ((j) - (1)) ([] : List UInt8))) ((l.getD (i) ([] : List UInt8))) : Int) ((0 : Nat) : Int)) ⟨Ext.refl _, (congrArg Value.bool (decide_eq_false (by rw [hge, ← hx]; exact hq)))⟩
   ·refine stepN rfl fun σ w1 hC h => ?_
    have e23 := eqo (h 23 (by decide))
    have e34 := eqo (h 34 (by decide))
    exact Yk.pickT e23 e34 ⟨Ext.refl _, rfl⟩
  intro ρ55 w56 hx57 he hf
  obtain ⟨-, -, -, -, -, -, -, -, -, -, -, -, -, -, k35, -⟩ := hf
  obtain ⟨T0, T2, T3, T4, T5, T9, -⟩ := he.hold [(0, _), (2, _), (3, _), (4, _), (5, _), (9, _)] ⟨T0, T2, T3, T4, T5, T9, trivial⟩ rfl
  clear he
  have hE := hE.trans hx57
  have hr_vp := hr_vp.keep hx57
  have T35 : ρ55 35 = .bool (false) := k35
  clear k35
  refine tN (hK54 _ _ (wpF_false T35 (wpF_exit (thenF_exit (thenF_exit (inBlockF_hit (tN (hK25 _ _ (wt (oM rfl (oM rfl (oM rfl (oM rfl ?_)))))))))))))
  have hl60 : (Lib.byteCells (l.getD (i) ([] : List UInt8))).length = 32 := (RG.elem (hr.keep hE) ([] : List UInt8) (by omega))
  refine oS rfl (Yk.atRG wr52_ty23 wr52_szg25 (by decide) ([] : List UInt8) (RG.of (hr.keep hE) T0) T4 (by omega) fun v58 hp59 => (oS rfl (Yk.loadPR (PR.of hp59 (vr v58 rfl)) wr52_ty25 rfl (by rw [hl60]; exact wr52_isz25) (oS rfl (Yk.atOwnK (k := 32) (i := j) wr52_ty23 wr52_szg25 T3 hr_vp.2 hg T5 (by omega) (oS rfl (Yk.storeOG (i := j) (a := (l.getD (i) ([] : List UInt8))) ([] : List UInt8) (vr (.pointer (some ⟨g, j * 32, none⟩)) rfl) (vr (AB (l.getD (i) ([] : List UInt8))) rfl) hr_vp hg (by omega) (by rw [Lib.byteCells_length, ← hx]; exact xlen) (byteCells_one _) wr52_isz25 fun w61 ho62 hg63 => ?_)))))))
  have hE := ext_grew hE hg63 hr_vp.2 (Nat.le_refl _)
  clear hp59
  clear hr_vp
  have ho62 := og_eq (l' := insAt o j x) ho62 (by rw [← hx]; exact ins_set hj)
  refine oZ (bN (tN (hK10 _ _ (wt (oM rfl (oS rfl (Yk.bin (xv := NI i) (yv := NI 1) T4 rfl rfl (i64_add _ _ _ (by omega)) (oA rfl (oL_ [(0, v), (2, (Value.slice none 0 0)), (3, vp), (4, NI ((i) + (1))), (5, NI j), (9, .bool (true)), (35, .bool (false))] ⟨T0, T2, T3, rfl, T5, T9, T35, trivial⟩ fun ρ64 ⟨T0, T2, T3, T4, T5, T9, T35, _⟩ => ?_)))))))))
  refine tN (And.intro ⟨i + 1, insAt o j x, vp, T0, T2, T4, T3, hE, og_eq ho62 (rfl), by omega, ins_asc ha hj hgt hstop, (by rw [List.take_succ_eq_append_getElem hlt]; have h1 := ins_perm (o := o) (j := j) (x := x); rw [hx, List.getD_eq_getElem?_getD, List.getElem?_eq_getElem hlt] at h1 ⊢; exact (h1.trans (hp.cons _)).trans (List.perm_append_comm (l₁ := [_])) ), trivial⟩ ?_)
  show l.length - (intOf (ρ64 4)).toNat < l.length - (intOf (ρ6 4)).toNat
  rw [T4, q4]
  simp only [intOf, Int.toNat_natCast]; omega
 refine sk fun K65 hK65 => (sk fun K66 hK66 => (wt (oM rfl (oM rfl (oS rfl (Yk.lenRG wr52_ty23 (RG.of (hr.keep hE) T0) (oS rfl (Yk.eqI (a := (i : Nat)) (b := (l.length : Nat)) T4 rfl (k_lss _ _ _ _) (oZ (tN (hK66 _ _ (wpF_false (vr (.bool (false)) (congrArg Value.bool (decide_eq_false (hlt)))) (wpF_exit (thenF_exit (thenF_exit (inBlockF_hit (tN (hK3 _ _ (sk fun K67 hK67 => (wt (oM rfl (oA rfl ?_))))))))))))))))))))))
 refine oZ (tN (hK67 _ _ (wpF_ret (postF_ret (fn := Tryd.f152) _ rfl [vo] (vo) rfl ⟨T3, trivial⟩ ?_))))
 rw [show i = l.length by omega, List.take_length] at hp
 exact ⟨_, rfl, og_eq hr_vo (asc_sortB ha hp), hE⟩

theorem refSet_any (w : World) (v : Value) (l : List Bs) (hr : RG 32 Lib.byteCells w v l) (hll : l.length ≤ 1000000) :
  Calls Tryd.prog 133 #[v] w fun e w' => ∃ v' o, e = .returned v' ∧ OG w.heap.size 25 32 Lib.byteCells w' v' o ∧ Asc o ∧ o.Nodup ∧ (∀ x, x ∈ o ↔ x ∈ l) ∧ Ext w w' := by
 refine calls_of_wpF (args := [v]) Tryd.func133 rfl 27 rfl (Nat.le_of_ble_eq_true rfl) ?_
 intro ρ0 hb
 have T0 : ρ0 0 = (v : Value) := hb.get 0
 clear hb
 have hE := Ext.refl w
 refine sk fun K1 hK1 => (wt (oA rfl (oZ (tN (hK1 _ _ (sk fun K2 hK2 => (wt (oA rfl (oZ ?_)))))))))
 have hrow0 : OG w.heap.size 25 32 Lib.byteCells w (Value.slice none 0 0) ([] : List Bs) := OG.nil _ _ _ _ _
 refine tN (hK2 _ _ (sk fun K3 hK3 => (sk fun K4 hK4 => (wt (oA rfl (oL_ [(0, v), (2, (Value.slice none 0 0)), (3, (Value.slice none 0 0)), (4, NI 0)] ⟨T0, rfl, rfl, rfl, trivial⟩ fun ρ5 ⟨T0, T2, T3, T4, _⟩ => (tN (hK4 _ _ (wpF_block (wpF_loop (fun (ρ : Slots) (wz : World) => ∃ i : Nat, ∃ o : List Bs, ∃ vo : Value, ρ 0 = (v : Value) ∧ ρ 2 = ((Value.slice none 0 0) : Value) ∧ ρ 4 = (NI i : Value) ∧ ρ 3 = (vo : Value) ∧ Ext w wz ∧ OG w.heap.size 25 32 (Lib.byteCells) wz vo (o) ∧ (i ≤ l.length) ∧ (o.Nodup) ∧ (∀ x, x ∈ o ↔ x ∈ l.take i) ∧ (o.length ≤ i) ∧ True) (fun ρ _ => l.length - (intOf (ρ 4)).toNat) ⟨0, [], (Value.slice none 0 0), T0, T2, T4, T3, hE, og_eq hrow0 (rfl), Nat.zero_le _, List.nodup_nil, (by simp), Nat.le_refl _, trivial⟩ ?_))))))))))
 clear hrow0
 clear hE
 rintro ρ6 w7 ⟨i, o, vo, T0, T2, T4, T3, hE, hr_vo, hi, hnd, hmm, hol, -⟩
 have q4 := T4
 refine sk fun K8 hK8 => (sk fun K9 hK9 => (wt (oM rfl (oM rfl (oS rfl (Yk.lenRG wr52_ty23 (RG.of (hr.keep hE) T0) (oS rfl (Yk.eqI (a := (i : Nat)) (b := (l.length : Nat)) T4 rfl (k_lss _ _ _ _) (oZ (tN (hK9 _ _ ?_)))))))))))
 refine wpF_cond ((i) < (l.length)) (vr (.bool (decide ((i) < (l.length)))) rfl) (fun hc0 => ?_) (fun hc0 => ?_)
 ·have hlt : i < l.length := hc0
  have hxl : (l.getD i []).length = 32 := bytes_len32 ((hr.keep hE).1 _ (getD_mem [] hlt))
  refine wpF_skip (tN (hK8 _ _ (sk fun K10 hK10 => (wpF_block (sk fun K11 hK11 => (wt (oM rfl (oM rfl (oM rfl ?_)))))))))
  have hl14 : (Lib.byteCells (l.getD (i) ([] : List UInt8))).length = 32 := (RG.elem (hr.keep hE) ([] : List UInt8) (hlt))
  refine oS rfl (Yk.atRG wr52_ty23 wr52_szg25 (by decide) ([] : List UInt8) (RG.of (hr.keep hE) T0) T4 (hlt) fun v12 hp13 => (oS rfl (Yk.loadPR (PR.of hp13 (vr v12 rfl)) wr52_ty25 rfl (by rw [hl14]; exact wr52_isz25) (oS rfl (Yk.callA2 wr52_pl132 T3 (vr (AB (l.getD (i) ([] : List UInt8))) rfl) ((refIn_any _ vo (o) (RG.ofOwn hr_vo) (by omega) (l.getD (i) ([] : List UInt8)) ((bytes_len32 (hl14)))).mono ?_))))))
  rintro e w16 ⟨rfl, hx15⟩
  refine ⟨_, rfl, ?_⟩
  have hE := hE.trans hx15
  have hr_vo := hr_vo.keep hx15
  have hp13 := PR.keep hp13 hx15
  refine oS rfl (Yk.notB (vr (.bool (decide ((l.getD (i) ([] : List UInt8)) ∈ (o)))) rfl) (oZ ?_))
  clear hp13
  refine tN (hK11 _ _ ?_)
  refine wpF_condB (!(decide ((l.getD (i) ([] : List UInt8)) ∈ (o)))) (vr (.bool (!(decide ((l.getD (i) ([] : List UInt8)) ∈ (o))))) rfl) (fun hc1 => ?_) (fun hc1 => ?_)
  ·have hni : l.getD i [] ∉ o := by simpa using hc1
   refine wt (oM rfl (oM rfl (oM rfl ?_)))
   have hl19 : (Lib.byteCells (l.getD (i) ([] : List UInt8))).length = 32 := (RG.elem (hr.keep hE) ([] : List UInt8) (hlt))
   refine oS rfl (Yk.atRG wr52_ty23 wr52_szg25 (by decide) ([] : List UInt8) (RG.of (hr.keep hE) T0) T4 (hlt) fun v17 hp18 => (oS rfl (Yk.loadPR (PR.of hp18 (vr v17 rfl)) wr52_ty25 rfl (by rw [hl19]; exact wr52_isz25) (oS rfl (Yk.lit1G (a := (l.getD (i) ([] : List UInt8))) (enc := Lib.byteCells) (vr (AB (l.getD (i) ([] : List UInt8))) rfl) (by rw [Lib.byteCells_length]; exact (bytes_len32 (hl19))) wr52_lg23 fun v20 w21 hr22 hx23 => ?_)))))
   have hE := hE.trans hx23
   have hr_vo := hr_vo.keep hx23
   have hp18 := PR.keep hp18 hx23
   refine oS rfl (Yk.appendRG _ _ w.heap.size _ 32 wr52_ty23 wr52_ig25.choose_spec.1 wr52_ig25.choose_spec.2 wr52_ty23 (o) ([(l.getD (i) ([] : List UInt8))]) (OG.of hr_vo T3) (RG.of hr22 (vr v20 rfl)) (fun _ _ => byteCells_one _) (by simp only [List.length_cons, List.length_nil]; omega) (by simp only [List.length_cons, List.length_nil]; omega) hE.size fun v24 w25 ho26 hg27 => ?_)
   have hg27 : Grew w21 w25 vo v24 := .eqv T3 hg27
   have hE := ext_grew hE hg27 hr_vo.2 (Nat.le_refl _)
   clear hp18
   clear hr22
   clear hr_vo
   refine oA rfl (oZ (bN (tN (hK10 _ _ (wt (oM rfl (oS rfl (Yk.bin (xv := NI i) (yv := NI 1) T4 rfl rfl (i64_add _ _ _ (by omega)) (oA rfl (oL_ [(0, v), (2, (Value.slice none 0 0)), (3, v24), (4, NI ((i) + (1)))] ⟨T0, T2, rfl, rfl, trivial⟩ fun ρ28 ⟨T0, T2, T3, T4, _⟩ => (tN (And.intro ⟨i + 1, o ++ [l.getD i []], v24, T0, T2, T4, T3, hE, og_eq ho26 (rfl), by omega, (by first | exact set_nd hnd hni | exact hnd), (by first | exact set_memT hlt hmm | exact set_memF hlt hmm hin), (by first | (rw [List.length_append, List.length_singleton]; omega) | omega), trivial⟩ ?_))))))))))))
   show l.length - (intOf (ρ28 4)).toNat < l.length - (intOf (ρ6 4)).toNat
   rw [T4, q4]
   simp only [intOf, Int.toNat_natCast]; omega
  have hin : l.getD i [] ∈ o := by simpa using hc1
  refine wpF_skip (bN (tN (hK10 _ _ (wt (oM rfl (oS rfl (Yk.bin (xv := NI i) (yv := NI 1) T4 rfl rfl (i64_add _ _ _ (by omega)) (oA rfl (oL_ [(0, v), (2, (Value.slice none 0 0)), (3, vo), (4, NI ((i) + (1)))] ⟨T0, T2, T3, rfl, trivial⟩ fun ρ29 ⟨T0, T2, T3, T4, _⟩ => (tN (And.intro ⟨i + 1, o, vo, T0, T2, T4, T3, hE, og_eq hr_vo (rfl), by omega, (by first | exact set_nd hnd hni | exact hnd), (by first | exact set_memT hlt hmm | exact set_memF hlt hmm hin), (by first | (rw [List.length_append, List.length_singleton]; omega) | omega), trivial⟩ ?_)))))))))))
  show l.length - (intOf (ρ29 4)).toNat < l.length - (intOf (ρ6 4)).toNat
  rw [T4, q4]
  simp only [intOf, Int.toNat_natCast]; omega
 refine wpF_exit (thenF_exit (thenF_exit (inBlockF_hit (tN (hK3 _ _ (sk fun K30 hK30 => (wt (oM rfl ?_))))))))
 have hz_ := hE.size
 refine oS rfl (Yk.callA1 wr52_pl152 T3 ((refSort_any _ vo o (RG.ofOwn hr_vo) (by omega)).mono ?_))
 rintro e w34 ⟨v31, rfl, ho32, hx33⟩
 refine ⟨_, rfl, ?_⟩
 have hE := hE.trans hx33
 have hr_vo := hr_vo.keep hx33
 have ho32 := OG.low ho32 hz_
 refine oA rfl (oZ (tN (hK30 _ _ (wpF_ret (postF_ret (fn := Tryd.f133) _ rfl [v31] (v31) rfl ⟨rfl, trivial⟩ ?_)))))
 rw [show i = l.length by omega, List.take_length] at hmm
 exact ⟨_, _, rfl, ho32, sortB_asc o, (sortB_perm o).nodup_iff.2 hnd, fun x => (sortB_perm o).mem_iff.trans (hmm x), hE⟩

theorem refMinus_any (w : World) (v v2 : Value) (a b : List Bs) (hr : RG 32 Lib.byteCells w v a) (hr2 : RG 32 Lib.byteCells w v2 b) (ha : a.length ≤ 100000) (hb : b.length ≤ 100000) :
  Calls Tryd.prog 92 #[v, v2] w fun e w' => ∃ v' o, e = .returned v' ∧ OG w.heap.size 25 32 Lib.byteCells w' v' o ∧ Asc o ∧ o.Nodup ∧ (∀ x, x ∈ o ↔ x ∈ a ∧ x ∉ b) ∧ Ext w w' := by
 refine calls_of_wpF (args := [v, v2]) Tryd.func92 rfl 29 rfl (Nat.le_of_ble_eq_true rfl) ?_
 intro ρ0 hb
 have T0 : ρ0 0 = (v : Value) := hb.get 0
 have T1 : ρ0 1 = (v2 : Value) := hb.get 1
 clear hb
 have hE := Ext.refl w
 refine sk fun K1 hK1 => (wt (oA rfl (oZ (tN (hK1 _ _ (sk fun K2 hK2 => (wt (oA rfl (oZ ?_)))))))))
 have hrow0 : OG w.heap.size 25 32 Lib.byteCells w (Value.slice none 0 0) ([] : List Bs) := OG.nil _ _ _ _ _
 refine tN (hK2 _ _ (sk fun K3 hK3 => (sk fun K4 hK4 => (wt (oA rfl (oL_ [(0, v), (1, v2), (4, (Value.slice none 0 0)), (5, (Value.slice none 0 0)), (6, NI 0)] ⟨T0, T1, rfl, rfl, rfl, trivial⟩ fun ρ5 ⟨T0, T1, T4, T5, T6, _⟩ => (tN (hK4 _ _ (wpF_block (wpF_loop (fun (ρ : Slots) (wz : World) => ∃ i : Nat, ∃ vo : Value, ρ 0 = (v : Value) ∧ ρ 1 = (v2 : Value) ∧ ρ 4 = ((Value.slice none 0 0) : Value) ∧ ρ 6 = (NI i : Value) ∧ ρ 5 = (vo : Value) ∧ Ext w wz ∧ OG w.heap.size 25 32 (Lib.byteCells) wz vo (pickB (a.take i) b false) ∧ (i ≤ a.length) ∧ True) (fun ρ _ => a.length - (intOf (ρ 6)).toNat) ⟨0, (Value.slice none 0 0), T0, T1, T4, T6, T5, hE, og_eq hrow0 (rfl), Nat.zero_le _, trivial⟩ ?_))))))))))
 clear hrow0
 clear hE
 rintro ρ6 w7 ⟨i, vo, T0, T1, T4, T6, T5, hE, hr_vo, hi, -⟩
 have q6 := T6
 refine sk fun K8 hK8 => (sk fun K9 hK9 => (wt (oM rfl (oM rfl (oS rfl (Yk.lenRG wr52_ty23 (RG.of (hr.keep hE) T0) (oS rfl (Yk.eqI (a := (i : Nat)) (b := (a.length : Nat)) T6 rfl (k_lss _ _ _ _) (oZ (tN (hK9 _ _ ?_)))))))))))
 refine wpF_cond ((i) < (a.length)) (vr (.bool (decide ((i) < (a.length)))) rfl) (fun hc0 => ?_) (fun hc0 => ?_)
 ·have hlt : i < a.length := hc0
  have hxl : (a.getD i []).length = 32 := bytes_len32 ((hr.keep hE).1 _ (getD_mem [] hlt))
  have hpl : (pickB (a.take i) b false).length ≤ i := by unfold pickB; exact Nat.le_trans (List.length_filter_le _ _) (by rw [List.length_take]; omega)
  refine wpF_skip (tN (hK8 _ _ (sk fun K10 hK10 => (wpF_block (sk fun K11 hK11 => (wt (oM rfl (oM rfl (oM rfl ?_)))))))))
  have hl14 : (Lib.byteCells (a.getD (i) ([] : List UInt8))).length = 32 := (RG.elem (hr.keep hE) ([] : List UInt8) (hlt))
  refine oS rfl (Yk.atRG wr52_ty23 wr52_szg25 (by decide) ([] : List UInt8) (RG.of (hr.keep hE) T0) T6 (hlt) fun v12 hp13 => (oS rfl (Yk.loadPR (PR.of hp13 (vr v12 rfl)) wr52_ty25 rfl (by rw [hl14]; exact wr52_isz25) (oS rfl (Yk.callA2 wr52_pl132 T1 (vr (AB (a.getD (i) ([] : List UInt8))) rfl) ((refIn_any _ v2 (b) (hr2.keep hE) (by omega) (a.getD (i) ([] : List UInt8)) ((bytes_len32 (hl14)))).mono ?_))))))
  rintro e w16 ⟨rfl, hx15⟩
  refine ⟨_, rfl, ?_⟩
  have hE := hE.trans hx15
  have hr_vo := hr_vo.keep hx15
  have hp13 := PR.keep hp13 hx15
  refine oS rfl (Yk.notB (vr (.bool (decide ((a.getD (i) ([] : List UInt8)) ∈ (b)))) rfl) (oZ ?_))
  clear hp13
  refine tN (hK11 _ _ ?_)
  refine wpF_condB (!(decide ((a.getD (i) ([] : List UInt8)) ∈ (b)))) (vr (.bool (!(decide ((a.getD (i) ([] : List UInt8)) ∈ (b))))) rfl) (fun hc1 => ?_) (fun hc1 => ?_)
  ·have hni : a.getD i [] ∉ b := by simpa using hc1
   refine wt (oM rfl (oM rfl (oM rfl ?_)))
   have hl19 : (Lib.byteCells (a.getD (i) ([] : List UInt8))).length = 32 := (RG.elem (hr.keep hE) ([] : List UInt8) (hlt))
   refine oS rfl (Yk.atRG wr52_ty23 wr52_szg25 (by decide) ([] : List UInt8) (RG.of (hr.keep hE) T0) T6 (hlt) fun v17 hp18 => (oS rfl (Yk.loadPR (PR.of hp18 (vr v17 rfl)) wr52_ty25 rfl (by rw [hl19]; exact wr52_isz25) (oS rfl (Yk.lit1G (a := (a.getD (i) ([] : List UInt8))) (enc := Lib.byteCells) (vr (AB (a.getD (i) ([] : List UInt8))) rfl) (by rw [Lib.byteCells_length]; exact (bytes_len32 (hl19))) wr52_lg23 fun v20 w21 hr22 hx23 => ?_)))))
   have hE := hE.trans hx23
   have hr_vo := hr_vo.keep hx23
   have hp18 := PR.keep hp18 hx23
   refine oS rfl (Yk.appendRG _ _ w.heap.size _ 32 wr52_ty23 wr52_ig25.choose_spec.1 wr52_ig25.choose_spec.2 wr52_ty23 (pickB (a.take i) b false) ([(a.getD (i) ([] : List UInt8))]) (OG.of hr_vo T5) (RG.of hr22 (vr v20 rfl)) (fun _ _ => byteCells_one _) (by simp only [List.length_cons, List.length_nil]; omega) (by simp only [List.length_cons, List.length_nil]; omega) hE.size fun v24 w25 ho26 hg27 => ?_)
   have hg27 : Grew w21 w25 vo v24 := .eqv T5 hg27
   have hE := ext_grew hE hg27 hr_vo.2 (Nat.le_refl _)
   clear hp18
   clear hr22
   clear hr_vo
   refine oA rfl (oZ (bN (tN (hK10 _ _ (wt (oM rfl (oS rfl (Yk.bin (xv := NI i) (yv := NI 1) T6 rfl rfl (i64_add _ _ _ (by omega)) (oA rfl (oL_ [(0, v), (1, v2), (4, (Value.slice none 0 0)), (5, v24), (6, NI ((i) + (1)))] ⟨T0, T1, T4, rfl, rfl, trivial⟩ fun ρ28 ⟨T0, T1, T4, T5, T6, _⟩ => (tN (And.intro ⟨i + 1, v24, T0, T1, T4, T6, T5, hE, og_eq ho26 ((by rw [pick_memS hlt, if_pos (by simpa using hni)])), by omega, trivial⟩ ?_))))))))))))
   show a.length - (intOf (ρ28 6)).toNat < a.length - (intOf (ρ6 6)).toNat
   rw [T6, q6]
   simp only [intOf, Int.toNat_natCast]; omega
  have hin : a.getD i [] ∈ b := by simpa using hc1
  refine wpF_skip (bN (tN (hK10 _ _ (wt (oM rfl (oS rfl (Yk.bin (xv := NI i) (yv := NI 1) T6 rfl rfl (i64_add _ _ _ (by omega)) (oA rfl (oL_ [(0, v), (1, v2), (4, (Value.slice none 0 0)), (5, vo), (6, NI ((i) + (1)))] ⟨T0, T1, T4, T5, rfl, trivial⟩ fun ρ29 ⟨T0, T1, T4, T5, T6, _⟩ => (tN (And.intro ⟨i + 1, vo, T0, T1, T4, T6, T5, hE, og_eq hr_vo ((by rw [pick_memS hlt, if_neg (by simpa using hin), List.append_nil])), by omega, trivial⟩ ?_)))))))))))
  show a.length - (intOf (ρ29 6)).toNat < a.length - (intOf (ρ6 6)).toNat
  rw [T6, q6]
  simp only [intOf, Int.toNat_natCast]; omega
 refine wpF_exit (thenF_exit (thenF_exit (inBlockF_hit (tN (hK3 _ _ (sk fun K30 hK30 => (wt (oM rfl ?_))))))))
 have hz_ := hE.size
 have hpl : (pickB (a.take i) b false).length ≤ i := by unfold pickB; exact Nat.le_trans (List.length_filter_le _ _) (by rw [List.length_take]; omega)
 refine oS rfl (Yk.callA1 wr52_pl133 T5 ((refSet_any _ vo (pickB (a.take i) b false) (RG.ofOwn hr_vo) (by omega)).mono ?_))
 rintro e w34 ⟨v31, o, rfl, ho32, hA, hnd, hmm, hx33⟩
 refine ⟨_, rfl, ?_⟩
 have hE := hE.trans hx33
 have hr_vo := hr_vo.keep hx33
 have ho32 := OG.low ho32 hz_
 refine oA rfl (oZ (tN (hK30 _ _ (wpF_ret (postF_ret (fn := Tryd.f92) _ rfl [v31] (v31) rfl ⟨rfl, trivial⟩ ?_)))))
 have hia : i = a.length := by omega
 subst hia
 rw [List.take_length] at hmm
 exact ⟨_, _, rfl, ho32, hA, hnd, fun x => (hmm x).trans (by unfold pickB; simp), hE⟩
open Go.RowKit
set_option maxRecDepth 100000
theorem roots3_len (r : Refs) (k : Nat) : ((([r.at_.1] ++ r.branches.map (fun n => n.id.1)) ++ r.tags.map (fun n => n.id.1)) ++ (r.log.take k).flatMap (fun e => [e.old.1, e.new.1])).length ≤ 1 + (r.branches.length + r.tags.length) + 2 * r.log.length := by
 rw [List.length_append, flat2_len, List.length_append, List.length_append, List.length_map, List.length_map, List.length_take]
 simp only [List.length_cons, List.length_nil]
 omega
theorem wr53_fo49_3 : FieldOff Tryd.prog 49 3 3 := fun b o w => by simp [go_sem]
theorem wr53_ty25 : Tryd.prog.underlying 25 = some (.array 32 5) := by kernel_rfl
theorem wr53_lh23 (c0 c1 c2 c3 c4 c5 c6 c7 c8 c9 c10 c11 c12 c13 c14 c15 c16 c17 c18 c19 c20 c21 c22 c23 c24 c25 c26 c27 c28 c29 c30 c31 : Value) (w : World) : (Instr.buildSlice 23 1 #[(0, .agg #[c0, c1, c2, c3, c4, c5, c6, c7, c8, c9, c10, c11, c12, c13, c14, c15, c16, c17, c18, c19, c20, c21, c22, c23, c24, c25, c26, c27, c28, c29, c30, c31])]).run Tryd.prog w = .ok (.slice (some ⟨w.heap.size, 0, none⟩) 1 1) (w.alloc (.cells #[c0, c1, c2, c3, c4, c5, c6, c7, c8, c9, c10, c11, c12, c13, c14, c15, c16, c17, c18, c19, c20, c21, c22, c23, c24, c25, c26, c27, c28, c29, c30, c31] 25)) := by kernel_rfl
theorem wr53_lg23 : ∀ (cs : Array Value), cs.size = 32 → ∀ w : World, (Instr.buildSlice 23 1 #[(0, .agg cs)]).run Tryd.prog w = .ok (.slice (some ⟨w.heap.size, 0, none⟩) 1 1) (w.alloc (.cells cs 25))
 | ⟨[c0, c1, c2, c3, c4, c5, c6, c7, c8, c9, c10, c11, c12, c13, c14, c15, c16, c17, c18, c19, c20, c21, c22, c23, c24, c25, c26, c27, c28, c29, c30, c31]⟩, _, w => wr53_lh23 c0 c1 c2 c3 c4 c5 c6 c7 c8 c9 c10 c11 c12 c13 c14 c15 c16 c17 c18 c19 c20 c21 c22 c23 c24 c25 c26 c27 c28 c29 c30 c31 w
theorem wr53_fo49_0 : FieldOff Tryd.prog 49 0 0 := fun b o w => by simp [go_sem]
theorem wr53_ty46 : Tryd.prog.underlying 46 = some (.slice 69) := by kernel_rfl
theorem wr53_szg69 : ∀ w' : World, (sizeOf 69).run Tryd.prog w' = .ok 33 w' := fun _ => by kernel_rfl
theorem wr53_fo69_1 : FieldOff Tryd.prog 69 1 1 := fun b o w => by simp [go_sem]
theorem wr53_isz25 : (Tryd.prog.info? 25).map (·.size) = some 32 := by kernel_rfl
theorem wr53_ig25 : ∃ z, (Tryd.prog.info? 25).map (fun i => (i.zero, i.size, i.bytes)) = some (some z, 32, 32) ∧ z.cells.size = 32 := info_ex (by kernel_rfl)
theorem wr53_ty23 : Tryd.prog.underlying 23 = some (.slice 25) := by kernel_rfl
theorem wr53_fo49_1 : FieldOff Tryd.prog 49 1 1 := fun b o w => by simp [go_sem]
theorem wr53_fo49_4 : FieldOff Tryd.prog 49 4 35 := fun b o w => by simp [go_sem]
theorem wr53_ty47 : Tryd.prog.underlying 47 = some (.slice 122) := by kernel_rfl
theorem wr53_szg122 : ∀ w' : World, (sizeOf 122).run Tryd.prog w' = .ok 67 w' := fun _ => by kernel_rfl
theorem wr53_fo122_0 : FieldOff Tryd.prog 122 0 0 := fun b o w => by simp [go_sem]
theorem wr53_fo67_2 : FieldOff Tryd.prog 67 2 2 := fun b o w => by simp [go_sem]
theorem wr53_fo67_3 : FieldOff Tryd.prog 67 3 34 := fun b o w => by simp [go_sem]
theorem wr53_pl92 : Plain Tryd.prog 92 := fun _ _ => by kernel_rfl
set_option maxHeartbeats 1600000
theorem refRoots_any (w : World) (z : RefsV) (hm : RefsAt w z) (hb1 : z.1.branches.length ≤ 80) (ht1 : z.1.tags.length ≤ 80) (hl1 : z.1.log.length ≤ 80) :
  Calls Tryd.prog 43 #[.agg (refsC z).toArray] w fun e w' => ∃ v' o, e = .returned v' ∧ OG w.heap.size 25 32 Lib.byteCells w' v' o ∧ Asc o ∧ o.Nodup ∧ (∀ x, x ∈ o ↔ x ∈ rootsL z.1 ∧ x ≠ List.replicate 32 0) ∧ Ext w w' := by
 have hmt := hm.branches
 have hmg := hm.tags
 have hml := hm.log
 refine calls_of_wpF (args := [.agg (refsC z).toArray]) Tryd.func43 rfl 70 rfl (Nat.le_of_ble_eq_true rfl) ?_
 intro ρ0 hb
 have T0 : ρ0 0 = (.agg (refsC z).toArray : Value) := hb.get 0
 clear hb
 have hE := Ext.refl w
 refine sk fun K1 hK1 => (wt (oS rfl (Yk.box (cs := (refsC z : List Value).toArray) T0 fun n2 w3 hn4 hb5 hx6 hs7 => ?_)))
 have hE := hE.trans hx6
 have hb8 := hb5; clear hb5
 have hl9 : n2 < w3.heap.size := by omega
 refine oA rfl (oZ (tN (hK1 _ _ (sk fun K10 hK10 => (wt (oS rfl (Yk.fieldAt wr53_fo49_3 (vr (PQ n2 0) rfl) (oS rfl (Yk.loadPR (PR.blk hb8 (refs_m3 z) (refs_n3 z) (vr (PQ n2 3) rfl)) wr53_ty25 rfl (sizeId_of z.1.at_.2) ?_)))))))))
 have hA11 := Ext.refl w3
 have hea12 := hE
 have hz13 := hE.size
 refine oS rfl (Yk.lit1B (enc := Lib.byteCells) (a := z.1.at_.1) (vr (AB z.1.at_.1) rfl) (by rw [Lib.byteCells_length]; exact z.1.at_.2) wr53_lg23 fun n14 w15 hn16 hb17 hx18 hs19 => ?_)
 have hlt20 := lte (bl hb8) hn16
 have hE := hE.trans hx18
 have hb8 := eb hx18 hb8
 have hA11 := hA11.trans hx18
 obtain ⟨v21, hve_⟩ : ∃ v, v = Value.slice (some ⟨n14, 0, none⟩) 1 1 := ⟨_, rfl⟩
 rw [← hve_]
 have ho22 : OG w3.heap.size 25 32 Lib.byteCells w15 v21 [z.1.at_.1] := by rw [hve_]; exact OG.ofRow (R := []) (c := 1) (by intro q hq; rw [List.mem_singleton.1 hq, Lib.byteCells_length]; exact z.1.at_.2) (by omega) (by simpa using hb17) (by simp only [List.flatMap_cons, List.flatMap_nil, List.append_nil, Lib.byteCells_length]; exact z.1.at_.2) (Nat.le_refl _) (by unfold maxLen; omega)
 have hap23 : OB v21 n2 := by rw [hve_]; exact some_ne (show n14 ≠ n2 by omega)
 refine oA rfl (oZ (tN (hK10 _ _ (sk fun K24 hK24 => (sk fun K25 hK25 => (wt (oA rfl (oL_ [(0, .agg (refsC z).toArray), (1, PQ n2 0), (2, (Value.slice none 0 0)), (3, v21), (4, NI 0)] ⟨T0, rfl, rfl, rfl, rfl, trivial⟩ fun ρ26 ⟨T0, T1, T2, T3, T4, _⟩ => (tN (hK25 _ _ (wpF_block (wpF_loop (fun (ρ : Slots) (wz : World) => ∃ i0 : Nat, ∃ vi0 : Value, ρ 0 = (.agg (refsC z).toArray : Value) ∧ ρ 1 = (PQ n2 0 : Value) ∧ ρ 2 = ((Value.slice none 0 0) : Value) ∧ ρ 4 = (NI i0 : Value) ∧ ρ 3 = (vi0 : Value) ∧ Ext w wz ∧ wz.heap[n2]? = some (.cells (refsC z).toArray 49 (0, 0)) ∧ Ext w3 wz ∧ OG w3.heap.size 25 32 (Lib.byteCells) wz vi0 ([z.1.at_.1] ++ (z.1.branches.take i0).map (fun n => n.id.1)) ∧ (i0 ≤ z.1.branches.length) ∧ True) (fun ρ _ => z.1.branches.length - (intOf (ρ 4)).toNat) ⟨0, v21, T0, T1, T2, T4, T3, hE, hb8, hA11, og_eq ho22 ((by simp)), Nat.zero_le _, trivial⟩ ?_))))))))))))
 clear ho22
 clear hE hb8 hA11
 rintro ρ27 w28 ⟨i0, vi0, T0, T1, T2, T4, T3, hE, hb8, hA11, hr_vi0, hi0, -⟩
 have q4 := T4
 refine sk fun K29 hK29 => (sk fun K30 hK30 => (wt (oM rfl (oS rfl (Yk.fieldAt wr53_fo49_0 T1 (oS rfl (Yk.cell1 wr53_ty46 rfl (vr (PQ n2 0) rfl) (cellAt hb8 (show (refsC z)[0]? = some (z.2.branches : Value) from refs_g0 z)) (oS rfl (Yk.lenRG wr53_ty46 (RG.of (hmt.keep hE) (vr z.2.branches rfl)) (oS rfl (Yk.eqI (a := (i0 : Nat)) (b := ((z.1.branches).length : Nat)) T4 rfl (k_lss _ _ _ _) (oZ (tN (hK30 _ _ ?_))))))))))))))
 refine wpF_cond ((i0) < ((z.1.branches).length)) (vr (.bool (decide ((i0) < ((z.1.branches).length)))) rfl) (fun hc0 => ?_) (fun hc0 => ?_)
 ·have hlti0 : i0 < z.1.branches.length := hc0
  refine wpF_skip (tN (hK29 _ _ (sk fun K31 hK31 => (wpF_block (wt (oM rfl (oS rfl (Yk.fieldAt wr53_fo49_0 T1 (oS rfl (Yk.cell1 wr53_ty46 rfl (vr (PQ n2 0) rfl) (cellAt hb8 (show (refsC z)[0]? = some (z.2.branches : Value) from refs_g0 z)) (oM rfl ?_)))))))))))
  have hl34 : (nmdC ((z.1.branches).getD (i0) dNmd)).length = 33 := (RG.elem (hmt.keep hE) dNmd (hlti0))
  refine oS rfl (Yk.atRG wr53_ty46 wr53_szg69 (by decide) dNmd (RG.of (hmt.keep hE) (vr z.2.branches rfl)) T4 (hlti0) fun v32 hp33 => ?_)
  have hl37 : (Lib.byteCells ((z.1.branches).getD (i0) dNmd).id.1).length = 32 := by rw [Lib.byteCells_length, ((z.1.branches).getD (i0) dNmd).id.2]
  refine oS rfl (Yk.fieldPR (n := 32) wr53_fo69_1 (PR.of hp33 (vr v32 rfl)) fun v35 hp36 => ?_)
  have hp36 : PR (Lib.byteCells ((z.1.branches).getD (i0) dNmd).id.1) v35 w28 := (nmd_f1 ((z.1.branches).getD (i0) dNmd)) ▸ hp36
  refine oS rfl (Yk.loadPR (PR.of hp36 (vr v35 rfl)) wr53_ty25 rfl (by rw [hl37]; exact wr53_isz25) (oS rfl (Yk.lit1G (a := (((z.1.branches).getD (i0) dNmd).id.1)) (enc := Lib.byteCells) (vr (AB (((z.1.branches).getD (i0) dNmd).id.1)) rfl) (by rw [Lib.byteCells_length]; exact (bytes_len32 (hl37))) wr53_lg23 fun v38 w39 hr40 hx41 => ?_)))
  have hE := hE.trans hx41
  have hb8 := eb hx41 hb8
  have hA11 := hA11.trans hx41
  have hr_vi0 := hr_vi0.keep hx41
  have hp33 := PR.keep hp33 hx41
  have hp36 := PR.keep hp36 hx41
  have hap42 := OG.off hr_vi0 hb8 (by decide)
  have hap43 := OG.off hr_vi0 hb8 (by decide)
  refine oS rfl (Yk.appendRG _ _ w3.heap.size _ 32 wr53_ty23 wr53_ig25.choose_spec.1 wr53_ig25.choose_spec.2 wr53_ty23 ([z.1.at_.1] ++ (z.1.branches.take i0).map (fun n => n.id.1)) ([(((z.1.branches).getD (i0) dNmd).id.1)]) (OG.of hr_vi0 T3) (RG.of hr40 (vr v38 rfl)) (fun _ _ => byteCells_one _) (by simp only [List.length_append, List.length_map, List.length_take, List.length_cons, List.length_nil]; omega) (by simp only [List.length_append, List.length_map, List.length_take, List.length_cons, List.length_nil]; omega) hA11.size fun v44 w45 ho46 hg47 => ?_)
  have hg47 : Grew w39 w45 vi0 v44 := .eqv T3 hg47
  have hap48 : OB v44 n2 := apart_grew hg47 hap43 (bl hb8)
  have hE := ext_grew hE hg47 hr_vi0.2 hz13
  have hb8 := blk_grew hb8 hg47 hap43
  have hA11 := ext_grew hA11 hg47 hr_vi0.2 (Nat.le_refl _)
  clear hp33
  clear hp36
  clear hr40
  clear hr_vi0
  refine oA rfl (oZ (bN (tN (hK31 _ _ (wt (oM rfl (oS rfl (Yk.bin (xv := NI i0) (yv := NI 1) T4 rfl rfl (i64_add _ _ _ (by omega)) (oA rfl (oL_ [(0, .agg (refsC z).toArray), (1, PQ n2 0), (2, (Value.slice none 0 0)), (3, v44), (4, NI ((i0) + (1)))] ⟨T0, T1, T2, rfl, rfl, trivial⟩ fun ρ49 ⟨T0, T1, T2, T3, T4, _⟩ => (tN (And.intro ⟨i0 + 1, v44, T0, T1, T2, T4, T3, hE, hb8, hA11, og_eq ho46 (take_map_snoc hlti0), by omega, trivial⟩ ?_))))))))))))
  show z.1.branches.length - (intOf (ρ49 4)).toNat < z.1.branches.length - (intOf (ρ27 4)).toNat
  rw [T4, q4]
  simp only [intOf, Int.toNat_natCast]; omega
 have hie : i0 = z.1.branches.length := by omega
 refine wpF_exit (thenF_exit (thenF_exit (inBlockF_hit (tN (hK24 _ _ (sk fun K50 hK50 => (sk fun K51 hK51 => (wt (oA rfl (oL_ [(0, .agg (refsC z).toArray), (1, PQ n2 0), (2, (Value.slice none 0 0)), (3, vi0), (4, NI i0), (5, NI 0)] ⟨T0, T1, T2, T3, T4, rfl, trivial⟩ fun ρ52 ⟨T0, T1, T2, T3, T4, T5, _⟩ => (tN (hK51 _ _ (wpF_block (wpF_loop (fun (ρ : Slots) (wz : World) => ∃ j0 : Nat, ∃ vj0 : Value, ρ 0 = (.agg (refsC z).toArray : Value) ∧ ρ 1 = (PQ n2 0 : Value) ∧ ρ 2 = ((Value.slice none 0 0) : Value) ∧ ρ 4 = (NI i0 : Value) ∧ ρ 5 = (NI j0 : Value) ∧ ρ 3 = (vj0 : Value) ∧ Ext w wz ∧ wz.heap[n2]? = some (.cells (refsC z).toArray 49 (0, 0)) ∧ Ext w3 wz ∧ OG w3.heap.size 25 32 (Lib.byteCells) wz vj0 (([z.1.at_.1] ++ z.1.branches.map (fun n => n.id.1)) ++ (z.1.tags.take j0).map (fun n => n.id.1)) ∧ (j0 ≤ z.1.tags.length) ∧ True) (fun ρ _ => z.1.tags.length - (intOf (ρ 5)).toNat) ⟨0, vi0, T0, T1, T2, T4, T5, T3, hE, hb8, hA11, og_eq hr_vi0 ((by rw [show i0 = z.1.branches.length by omega]; simp)), Nat.zero_le _, trivial⟩ ?_))))))))))))))
 clear hr_vi0
 clear hE hb8 hA11
 rintro ρ53 w54 ⟨j0, vj0, T0, T1, T2, T4, T5, T3, hE, hb8, hA11, hr_vj0, hj0, -⟩
 have q5 := T5
 refine sk fun K55 hK55 => (sk fun K56 hK56 => (wt (oM rfl (oS rfl (Yk.fieldAt wr53_fo49_1 T1 (oS rfl (Yk.cell1 wr53_ty46 rfl (vr (PQ n2 1) rfl) (cellAt hb8 (show (refsC z)[1]? = some (z.2.tags : Value) from refs_g1 z)) (oS rfl (Yk.lenRG wr53_ty46 (RG.of (hmg.keep hE) (vr z.2.tags rfl)) (oS rfl (Yk.eqI (a := (j0 : Nat)) (b := ((z.1.tags).length : Nat)) T5 rfl (k_lss _ _ _ _) (oZ (tN (hK56 _ _ ?_))))))))))))))
 refine wpF_cond ((j0) < ((z.1.tags).length)) (vr (.bool (decide ((j0) < ((z.1.tags).length)))) rfl) (fun hc1 => ?_) (fun hc1 => ?_)
 ·have hltj0 : j0 < z.1.tags.length := hc1
  refine wpF_skip (tN (hK55 _ _ (sk fun K57 hK57 => (wpF_block (wt (oM rfl (oS rfl (Yk.fieldAt wr53_fo49_1 T1 (oS rfl (Yk.cell1 wr53_ty46 rfl (vr (PQ n2 1) rfl) (cellAt hb8 (show (refsC z)[1]? = some (z.2.tags : Value) from refs_g1 z)) (oM rfl ?_)))))))))))
  have hl60 : (nmdC ((z.1.tags).getD (j0) dNmd)).length = 33 := (RG.elem (hmg.keep hE) dNmd (hltj0))
  refine oS rfl (Yk.atRG wr53_ty46 wr53_szg69 (by decide) dNmd (RG.of (hmg.keep hE) (vr z.2.tags rfl)) T5 (hltj0) fun v58 hp59 => ?_)
  have hl63 : (Lib.byteCells ((z.1.tags).getD (j0) dNmd).id.1).length = 32 := by rw [Lib.byteCells_length, ((z.1.tags).getD (j0) dNmd).id.2]
  refine oS rfl (Yk.fieldPR (n := 32) wr53_fo69_1 (PR.of hp59 (vr v58 rfl)) fun v61 hp62 => ?_)
  have hp62 : PR (Lib.byteCells ((z.1.tags).getD (j0) dNmd).id.1) v61 w54 := (nmd_f1 ((z.1.tags).getD (j0) dNmd)) ▸ hp62
  refine oS rfl (Yk.loadPR (PR.of hp62 (vr v61 rfl)) wr53_ty25 rfl (by rw [hl63]; exact wr53_isz25) (oS rfl (Yk.lit1G (a := (((z.1.tags).getD (j0) dNmd).id.1)) (enc := Lib.byteCells) (vr (AB (((z.1.tags).getD (j0) dNmd).id.1)) rfl) (by rw [Lib.byteCells_length]; exact (bytes_len32 (hl63))) wr53_lg23 fun v64 w65 hr66 hx67 => ?_)))
  have hE := hE.trans hx67
  have hb8 := eb hx67 hb8
  have hA11 := hA11.trans hx67
  have hr_vj0 := hr_vj0.keep hx67
  have hp59 := PR.keep hp59 hx67
  have hp62 := PR.keep hp62 hx67
  have hap68 := OG.off hr_vj0 hb8 (by decide)
  have hap69 := OG.off hr_vj0 hb8 (by decide)
  refine oS rfl (Yk.appendRG _ _ w3.heap.size _ 32 wr53_ty23 wr53_ig25.choose_spec.1 wr53_ig25.choose_spec.2 wr53_ty23 (([z.1.at_.1] ++ z.1.branches.map (fun n => n.id.1)) ++ (z.1.tags.take j0).map (fun n => n.id.1)) ([(((z.1.tags).getD (j0) dNmd).id.1)]) (OG.of hr_vj0 T3) (RG.of hr66 (vr v64 rfl)) (fun _ _ => byteCells_one _) (by simp only [List.length_append, List.length_map, List.length_take, List.length_cons, List.length_nil]; omega) (by simp only [List.length_append, List.length_map, List.length_take, List.length_cons, List.length_nil]; omega) hA11.size fun v70 w71 ho72 hg73 => ?_)
  have hg73 : Grew w65 w71 vj0 v70 := .eqv T3 hg73
  have hap74 : OB v70 n2 := apart_grew hg73 hap69 (bl hb8)
  have hE := ext_grew hE hg73 hr_vj0.2 hz13
  have hb8 := blk_grew hb8 hg73 hap69
  have hA11 := ext_grew hA11 hg73 hr_vj0.2 (Nat.le_refl _)
  clear hp59
  clear hp62
  clear hr66
  clear hr_vj0
  refine oA rfl (oZ (bN (tN (hK57 _ _ (wt (oM rfl (oS rfl (Yk.bin (xv := NI j0) (yv := NI 1) T5 rfl rfl (i64_add _ _ _ (by omega)) (oA rfl (oL_ [(0, .agg (refsC z).toArray), (1, PQ n2 0), (2, (Value.slice none 0 0)), (3, v70), (4, NI i0), (5, NI ((j0) + (1)))] ⟨T0, T1, T2, rfl, T4, rfl, trivial⟩ fun ρ75 ⟨T0, T1, T2, T3, T4, T5, _⟩ => (tN (And.intro ⟨j0 + 1, v70, T0, T1, T2, T4, T5, T3, hE, hb8, hA11, og_eq ho72 (take_map_snoc hltj0), by omega, trivial⟩ ?_))))))))))))
  show z.1.tags.length - (intOf (ρ75 5)).toNat < z.1.tags.length - (intOf (ρ53 5)).toNat
  rw [T5, q5]
  simp only [intOf, Int.toNat_natCast]; omega
 have hje : j0 = z.1.tags.length := by omega
 refine wpF_exit (thenF_exit (thenF_exit (inBlockF_hit (tN (hK50 _ _ (sk fun K76 hK76 => (sk fun K77 hK77 => (wt (oA rfl (oL_ [(0, .agg (refsC z).toArray), (1, PQ n2 0), (2, (Value.slice none 0 0)), (3, vj0), (4, NI i0), (5, NI j0), (6, NI 0)] ⟨T0, T1, T2, T3, T4, T5, rfl, trivial⟩ fun ρ78 ⟨T0, T1, T2, T3, T4, T5, T6, _⟩ => (tN (hK77 _ _ (wpF_block (wpF_loop (fun (ρ : Slots) (wz : World) => ∃ k0 : Nat, ∃ vk0 : Value, ρ 0 = (.agg (refsC z).toArray : Value) ∧ ρ 1 = (PQ n2 0 : Value) ∧ ρ 2 = ((Value.slice none 0 0) : Value) ∧ ρ 4 = (NI i0 : Value) ∧ ρ 5 = (NI j0 : Value) ∧ ρ 6 = (NI k0 : Value) ∧ ρ 3 = (vk0 : Value) ∧ Ext w wz ∧ wz.heap[n2]? = some (.cells (refsC z).toArray 49 (0, 0)) ∧ Ext w3 wz ∧ OG w3.heap.size 25 32 (Lib.byteCells) wz vk0 ((([z.1.at_.1] ++ z.1.branches.map (fun n => n.id.1)) ++ z.1.tags.map (fun n => n.id.1)) ++ (z.1.log.take k0).flatMap (fun e => [e.old.1, e.new.1])) ∧ (k0 ≤ z.1.log.length) ∧ True) (fun ρ _ => z.1.log.length - (intOf (ρ 6)).toNat) ⟨0, vj0, T0, T1, T2, T4, T5, T6, T3, hE, hb8, hA11, og_eq hr_vj0 ((by rw [show j0 = z.1.tags.length by omega]; simp)), Nat.zero_le _, trivial⟩ ?_))))))))))))))
 clear hr_vj0
 clear hE hb8 hA11
 rintro ρ79 w80 ⟨k0, vk0, T0, T1, T2, T4, T5, T6, T3, hE, hb8, hA11, hr_vk0, hk0, -⟩
 have q6 := T6
 refine sk fun K81 hK81 => (sk fun K82 hK82 => (wt (oM rfl (oS rfl (Yk.fieldAt wr53_fo49_4 T1 (oS rfl (Yk.cell1 wr53_ty47 rfl (vr (PQ n2 35) rfl) (cellAt hb8 (show (refsC z)[35]? = some (z.2.log : Value) from refs_g4 z)) (oS rfl (Yk.lenRG wr53_ty47 (RG.of (hml.keep hE) (vr z.2.log rfl)) (oS rfl (Yk.eqI (a := (k0 : Nat)) (b := ((z.1.log).length : Nat)) T6 rfl (k_lss _ _ _ _) (oZ (tN (hK82 _ _ ?_))))))))))))))
 refine wpF_cond ((k0) < ((z.1.log).length)) (vr (.bool (decide ((k0) < ((z.1.log).length)))) rfl) (fun hc2 => ?_) (fun hc2 => ?_)
 ·have hltk0 : k0 < z.1.log.length := hc2
  have hap83 := OG.off hr_vk0 hb8 (by decide)
  refine wpF_skip (tN (hK81 _ _ (sk fun K84 hK84 => (wpF_block ?_))))
  have hlow85 : ∀ k, Value.ownBlock vk0 = some k → w3.heap.size ≤ k := fun k hk => (hr_vk0.2.lt k hk).1
  have hsz_ : w3.heap.size ≤ w80.heap.size := hA11.size
  refine wpF_draw_rowsX (Value.ownBlock vk0) [16] [0] (fun m => if m = 16 then [0, 4, 5, 6, 11, 12, 13, 15] else []) (fun m => if m = 16 then [0, 4, 5, 6, 11, 12, 13, 15, 16, 17] else []) [fun x w' => RowG w3.heap.size w80.heap.size 25 32 (Lib.byteCells) (Value.ownBlock vk0) ((([z.1.at_.1] ++ z.1.branches.map (fun n => n.id.1)) ++ z.1.tags.map (fun n => n.id.1)) ++ (z.1.log.take k0).flatMap (fun e => [e.old.1, e.new.1])) x w', Is (PQ n2 35), Is (z.2.log), Is (NI k0), fun x w' => PR (entC ((z.1.log).getD (k0) dEntry)) x w', fun x w' => PR (updC (⟨((z.1.log).getD (k0) dEntry).kind, ((z.1.log).getD (k0) dEntry).name, ((z.1.log).getD (k0) dEntry).old, ((z.1.log).getD (k0) dEntry).new⟩ : Upd)) x w', fun x w' => PR (Lib.byteCells ((⟨((z.1.log).getD (k0) dEntry).kind, ((z.1.log).getD (k0) dEntry).name, ((z.1.log).getD (k0) dEntry).old, ((z.1.log).getD (k0) dEntry).new⟩ : Upd)).old.1) x w', Is (AB (((⟨((z.1.log).getD (k0) dEntry).kind, ((z.1.log).getD (k0) dEntry).name, ((z.1.log).getD (k0) dEntry).old, ((z.1.log).getD (k0) dEntry).new⟩ : Upd)).old.1)), Is (PQ n2 35), Is (z.2.log), Is (NI k0), fun x w' => PR (entC ((z.1.log).getD (k0) dEntry)) x w', fun x w' => PR (updC (⟨((z.1.log).getD (k0) dEntry).kind, ((z.1.log).getD (k0) dEntry).name, ((z.1.log).getD (k0) dEntry).old, ((z.1.log).getD (k0) dEntry).new⟩ : Upd)) x w', fun x w' => PR (Lib.byteCells ((⟨((z.1.log).getD (k0) dEntry).kind, ((z.1.log).getD (k0) dEntry).name, ((z.1.log).getD (k0) dEntry).old, ((z.1.log).getD (k0) dEntry).new⟩ : Upd)).new.1) x w', Is (AB (((⟨((z.1.log).getD (k0) dEntry).kind, ((z.1.log).getD (k0) dEntry).name, ((z.1.log).getD (k0) dEntry).old, ((z.1.log).getD (k0) dEntry).new⟩ : Upd)).new.1)), fun x w' => RG 32 (Lib.byteCells) w' x ([((⟨((z.1.log).getD (k0) dEntry).kind, ((z.1.log).getD (k0) dEntry).name, ((z.1.log).getD (k0) dEntry).old, ((z.1.log).getD (k0) dEntry).new⟩ : Upd)).old.1, ((⟨((z.1.log).getD (k0) dEntry).kind, ((z.1.log).getD (k0) dEntry).name, ((z.1.log).getD (k0) dEntry).old, ((z.1.log).getD (k0) dEntry).new⟩ : Upd)).new.1]), fun x w' => RowG w3.heap.size w80.heap.size 25 32 (Lib.byteCells) (Value.ownBlock vk0) (((([z.1.at_.1] ++ z.1.branches.map (fun n => n.id.1)) ++ z.1.tags.map (fun n => n.id.1)) ++ (z.1.log.take k0).flatMap (fun e => [e.old.1, e.new.1])) ++ [((⟨((z.1.log).getD (k0) dEntry).kind, ((z.1.log).getD (k0) dEntry).name, ((z.1.log).getD (k0) dEntry).old, ((z.1.log).getD (k0) dEntry).new⟩ : Upd)).old.1, ((⟨((z.1.log).getD (k0) dEntry).kind, ((z.1.log).getD (k0) dEntry).name, ((z.1.log).getD (k0) dEntry).old, ((z.1.log).getD (k0) dEntry).new⟩ : Upd)).new.1]) x w', fun x w' => RowG w3.heap.size w80.heap.size 25 32 (Lib.byteCells) (Value.ownBlock vk0) (((([z.1.at_.1] ++ z.1.branches.map (fun n => n.id.1)) ++ z.1.tags.map (fun n => n.id.1)) ++ (z.1.log.take k0).flatMap (fun e => [e.old.1, e.new.1])) ++ [((⟨((z.1.log).getD (k0) dEntry).kind, ((z.1.log).getD (k0) dEntry).name, ((z.1.log).getD (k0) dEntry).old, ((z.1.log).getD (k0) dEntry).new⟩ : Upd)).old.1, ((⟨((z.1.log).getD (k0) dEntry).kind, ((z.1.log).getD (k0) dEntry).name, ((z.1.log).getD (k0) dEntry).old, ((z.1.log).getD (k0) dEntry).new⟩ : Upd)).new.1]) x w'] (by kernel_rfl) [49, 50, 51, 52, 53, 54, 55, 56, 57, 58, 59, 60, 61, 62, 63, 64, 65, 3] (by kernel_rfl) (by kernel_rfl) (by kernel_rfl) (by kernel_rfl) (by kernel_rfl) rfl ⟨(fun _ _ _ h k => ⟨OG.keep h.1 k, h.2⟩), Stab.is _, Stab.is _, Stab.is _, (fun _ _ _ h k => PR.keep h k), (fun _ _ _ h k => PR.keep h k), (fun _ _ _ h k => PR.keep h k), Stab.is _, Stab.is _, Stab.is _, Stab.is _, (fun _ _ _ h k => PR.keep h k), (fun _ _ _ h k => PR.keep h k), (fun _ _ _ h k => PR.keep h k), Stab.is _, (fun _ _ _ h k => RG.keep h k), (fun _ _ _ h k => ⟨OG.keep h.1 k, h.2⟩), (fun _ _ _ h k => ⟨OG.keep h.1 k, h.2⟩), trivial⟩ ⟨⟨.inl rfl, .inr (Stab.is _), .inr (Stab.is _), .inr (Stab.is _), .inl rfl, .inl rfl, .inl rfl, .inr (Stab.is _), .inr (Stab.is _), .inr (Stab.is _), .inr (Stab.is _), .inl rfl, .inl rfl, .inl rfl, .inr (Stab.is _), .inl rfl, .inl rfl, .inl rfl, trivial⟩, trivial⟩ ?hs1013 ?hQ1013
  case hs1013 =>
   refine ⟨?_, ?_, ?_, ?_, ?_, ?_, ?_, ?_, ?_, ?_, ?_, ?_, ?_, ?_, ?_, ?_, ?_, ?_, trivial⟩
   ·refine stepN rfl fun σ w1 hC h => ?_
    have hX : Ext w80 w1 := hC
    have hC : BX w80.heap.size (Value.ownBlock vk0) w80 w1 := BX.ofExt hX (Nat.le_refl _)
    have e3 := (eqo (h 3 (by decide))).trans T3
    exact Yk.move e3 ⟨Ext.refl _, OG.keep hr_vk0 hX, fun k hk => .inl hk⟩
   ·refine stepN rfl fun σ w1 hC h => ?_
    have hC : BX w80.heap.size (Value.ownBlock vk0) w80 w1 := hC
    have e1 := (eqo (h 1 (by decide))).trans T1
    exact Yk.fieldAt wr53_fo49_4 e1 ⟨Ext.refl _, rfl⟩
   ·refine stepN rfl fun σ w1 hC h => ?_
    have hC : BX w80.heap.size (Value.ownBlock vk0) w80 w1 := hC
    have e50 := eqo (h 50 (by decide))
    exact Yk.cell1 wr53_ty47 rfl e50 (cellAt (BX.blk hC hb8 hap83) (show (refsC z)[35]? = some (z.2.log : Value) from refs_g4 z)) ⟨Ext.refl _, rfl⟩
   ·refine stepN rfl fun σ w1 hC h => ?_
    have hC : BX w80.heap.size (Value.ownBlock vk0) w80 w1 := hC
    have e6 := (eqo (h 6 (by decide))).trans T6
    exact Yk.move e6 ⟨Ext.refl _, rfl⟩
   ·refine stepN rfl fun σ w1 hC h => ?_
    have hC : BX w80.heap.size (Value.ownBlock vk0) w80 w1 := hC
    have e51 := eqo (h 51 (by decide))
    have e52 := eqo (h 52 (by decide))
    exact Yk.atRG wr53_ty47 wr53_szg122 (by decide) dEntry (RG.of (hml.keep (ext_bx hE hC (by omega) (fun k hk => by have := hlow85 k hk; omega))) e51) e52 (hltk0) fun v h => ⟨Ext.refl _, h⟩
   ·refine stepN rfl fun σ w1 hC h => ?_
    have hC : BX w80.heap.size (Value.ownBlock vk0) w80 w1 := hC
    have e53 : (fun x w' => PR (entC ((z.1.log).getD (k0) dEntry)) x w') (σ 53) w1 := h 53 (by decide)
    exact Yk.fieldPR (n := 66) wr53_fo122_0 e53 fun v h => ⟨Ext.refl _, (ent_upd ((z.1.log).getD (k0) dEntry)) ▸ h⟩
   ·refine stepN rfl fun σ w1 hC h => ?_
    have hC : BX w80.heap.size (Value.ownBlock vk0) w80 w1 := hC
    have e54 : (fun x w' => PR (updC (⟨((z.1.log).getD (k0) dEntry).kind, ((z.1.log).getD (k0) dEntry).name, ((z.1.log).getD (k0) dEntry).old, ((z.1.log).getD (k0) dEntry).new⟩ : Upd)) x w') (σ 54) w1 := h 54 (by decide)
    exact Yk.fieldPR (n := 32) wr53_fo67_2 e54 fun v h => ⟨Ext.refl _, by rw [upd_f2] at h; exact h⟩
   ·refine stepN rfl fun σ w1 hC h => ?_
    have hC : BX w80.heap.size (Value.ownBlock vk0) w80 w1 := hC
    have e55 : (fun x w' => PR (Lib.byteCells ((⟨((z.1.log).getD (k0) dEntry).kind, ((z.1.log).getD (k0) dEntry).name, ((z.1.log).getD (k0) dEntry).old, ((z.1.log).getD (k0) dEntry).new⟩ : Upd)).old.1) x w') (σ 55) w1 := h 55 (by decide)
    exact Yk.loadPR e55 wr53_ty25 rfl (by rw [Lib.byteCells_length, ((⟨((z.1.log).getD (k0) dEntry).kind, ((z.1.log).getD (k0) dEntry).name, ((z.1.log).getD (k0) dEntry).old, ((z.1.log).getD (k0) dEntry).new⟩ : Upd)).old.2]; exact wr53_isz25) ⟨Ext.refl _, rfl⟩
   ·refine stepN rfl fun σ w1 hC h => ?_
    have hC : BX w80.heap.size (Value.ownBlock vk0) w80 w1 := hC
    have e1 := (eqo (h 1 (by decide))).trans T1
    exact Yk.fieldAt wr53_fo49_4 e1 ⟨Ext.refl _, rfl⟩
   ·refine stepN rfl fun σ w1 hC h => ?_
    have hC : BX w80.heap.size (Value.ownBlock vk0) w80 w1 := hC
    have e57 := eqo (h 57 (by decide))
    exact Yk.cell1 wr53_ty47 rfl e57 (cellAt (BX.blk hC hb8 hap83) (show (refsC z)[35]? = some (z.2.log : Value) from refs_g4 z)) ⟨Ext.refl _, rfl⟩
   ·refine stepN rfl fun σ w1 hC h => ?_
    have hC : BX w80.heap.size (Value.ownBlock vk0) w80 w1 := hC
    have e6 := (eqo (h 6 (by decide))).trans T6
    exact Yk.move e6 ⟨Ext.refl _, rfl⟩
   ·refine stepN rfl fun σ w1 hC h => ?_
    have hC : BX w80.heap.size (Value.ownBlock vk0) w80 w1 := hC
    have e58 := eqo (h 58 (by decide))
    have e59 := eqo (h 59 (by decide))
    exact Yk.atRG wr53_ty47 wr53_szg122 (by decide) dEntry (RG.of (hml.keep (ext_bx hE hC (by omega) (fun k hk => by have := hlow85 k hk; omega))) e58) e59 (hltk0) fun v h => ⟨Ext.refl _, h⟩
   ·refine stepN rfl fun σ w1 hC h => ?_
    have hC : BX w80.heap.size (Value.ownBlock vk0) w80 w1 := hC
    have e60 : (fun x w' => PR (entC ((z.1.log).getD (k0) dEntry)) x w') (σ 60) w1 := h 60 (by decide)
    exact Yk.fieldPR (n := 66) wr53_fo122_0 e60 fun v h => ⟨Ext.refl _, (ent_upd ((z.1.log).getD (k0) dEntry)) ▸ h⟩
   ·refine stepN rfl fun σ w1 hC h => ?_
    have hC : BX w80.heap.size (Value.ownBlock vk0) w80 w1 := hC
    have e61 : (fun x w' => PR (updC (⟨((z.1.log).getD (k0) dEntry).kind, ((z.1.log).getD (k0) dEntry).name, ((z.1.log).getD (k0) dEntry).old, ((z.1.log).getD (k0) dEntry).new⟩ : Upd)) x w') (σ 61) w1 := h 61 (by decide)
    exact Yk.fieldPR (n := 32) wr53_fo67_3 e61 fun v h => ⟨Ext.refl _, by rw [upd_f3] at h; exact h⟩
   ·refine stepN rfl fun σ w1 hC h => ?_
    have hC : BX w80.heap.size (Value.ownBlock vk0) w80 w1 := hC
    have e62 : (fun x w' => PR (Lib.byteCells ((⟨((z.1.log).getD (k0) dEntry).kind, ((z.1.log).getD (k0) dEntry).name, ((z.1.log).getD (k0) dEntry).old, ((z.1.log).getD (k0) dEntry).new⟩ : Upd)).new.1) x w') (σ 62) w1 := h 62 (by decide)
    exact Yk.loadPR e62 wr53_ty25 rfl (by rw [Lib.byteCells_length, ((⟨((z.1.log).getD (k0) dEntry).kind, ((z.1.log).getD (k0) dEntry).name, ((z.1.log).getD (k0) dEntry).old, ((z.1.log).getD (k0) dEntry).new⟩ : Upd)).new.2]; exact wr53_isz25) ⟨Ext.refl _, rfl⟩
   ·refine stepN rfl fun σ w1 hC h => ?_
    have hC : BX w80.heap.size (Value.ownBlock vk0) w80 w1 := hC
    have e56 := eqo (h 56 (by decide))
    have e63 := eqo (h 63 (by decide))
    exact Yk.pairG (enc := Lib.byteCells) (a := ((⟨((z.1.log).getD (k0) dEntry).kind, ((z.1.log).getD (k0) dEntry).name, ((z.1.log).getD (k0) dEntry).old, ((z.1.log).getD (k0) dEntry).new⟩ : Upd)).old.1) (b := ((⟨((z.1.log).getD (k0) dEntry).kind, ((z.1.log).getD (k0) dEntry).name, ((z.1.log).getD (k0) dEntry).old, ((z.1.log).getD (k0) dEntry).new⟩ : Upd)).new.1) e56 e63 (by rw [Lib.byteCells_length]; exact (bytes_len32 (by rw [Lib.byteCells_length, ((⟨((z.1.log).getD (k0) dEntry).kind, ((z.1.log).getD (k0) dEntry).name, ((z.1.log).getD (k0) dEntry).old, ((z.1.log).getD (k0) dEntry).new⟩ : Upd)).old.2]))) (by rw [Lib.byteCells_length]; exact (bytes_len32 (by rw [Lib.byteCells_length, ((⟨((z.1.log).getD (k0) dEntry).kind, ((z.1.log).getD (k0) dEntry).name, ((z.1.log).getD (k0) dEntry).old, ((z.1.log).getD (k0) dEntry).new⟩ : Upd)).new.2]))) wr47_l2g fun v w2 hr hx => ⟨hx, hr⟩
   ·refine stepN rfl fun σ w1 hC h => ?_
    have hC : BX w80.heap.size (Value.ownBlock vk0) w80 w1 := hC
    have e49 : (fun x w' => RowG w3.heap.size w80.heap.size 25 32 (Lib.byteCells) (Value.ownBlock vk0) ((([z.1.at_.1] ++ z.1.branches.map (fun n => n.id.1)) ++ z.1.tags.map (fun n => n.id.1)) ++ (z.1.log.take k0).flatMap (fun e => [e.old.1, e.new.1])) x w') (σ 49) w1 := h 49 (by decide)
    have e64 : (fun x w' => RG 32 (Lib.byteCells) w' x ([((⟨((z.1.log).getD (k0) dEntry).kind, ((z.1.log).getD (k0) dEntry).name, ((z.1.log).getD (k0) dEntry).old, ((z.1.log).getD (k0) dEntry).new⟩ : Upd)).old.1, ((⟨((z.1.log).getD (k0) dEntry).kind, ((z.1.log).getD (k0) dEntry).name, ((z.1.log).getD (k0) dEntry).old, ((z.1.log).getD (k0) dEntry).new⟩ : Upd)).new.1])) (σ 64) w1 := h 64 (by decide)
    exact Yk.appendRG _ _ w3.heap.size _ 32 wr53_ty23 wr53_ig25.choose_spec.1 wr53_ig25.choose_spec.2 wr53_ty23 ((([z.1.at_.1] ++ z.1.branches.map (fun n => n.id.1)) ++ z.1.tags.map (fun n => n.id.1)) ++ (z.1.log.take k0).flatMap (fun e => [e.old.1, e.new.1])) ([((⟨((z.1.log).getD (k0) dEntry).kind, ((z.1.log).getD (k0) dEntry).name, ((z.1.log).getD (k0) dEntry).old, ((z.1.log).getD (k0) dEntry).new⟩ : Upd)).old.1, ((⟨((z.1.log).getD (k0) dEntry).kind, ((z.1.log).getD (k0) dEntry).name, ((z.1.log).getD (k0) dEntry).old, ((z.1.log).getD (k0) dEntry).new⟩ : Upd)).new.1]) e49.1 e64 (fun _ _ => byteCells_one _) (by have := roots3_len z.1 k0; simp only [List.length_cons, List.length_nil]; omega) (by have := roots3_len z.1 k0; simp only [List.length_cons, List.length_nil]; omega) (Nat.le_trans hsz_ hC.size) fun v w2 ho hg => ⟨BX.ofGrown hg.by_ hC.size e49.2, ho, fun k hk => (hg.fresh k hk).elim (e49.2 k) (fun x => .inr (Nat.le_trans hC.size x))⟩
   ·refine stepN rfl fun σ w1 hC h => ?_
    have hC : BX w80.heap.size (Value.ownBlock vk0) w80 w1 := hC
    have e65 : (fun x w' => RowG w3.heap.size w80.heap.size 25 32 (Lib.byteCells) (Value.ownBlock vk0) (((([z.1.at_.1] ++ z.1.branches.map (fun n => n.id.1)) ++ z.1.tags.map (fun n => n.id.1)) ++ (z.1.log.take k0).flatMap (fun e => [e.old.1, e.new.1])) ++ [((⟨((z.1.log).getD (k0) dEntry).kind, ((z.1.log).getD (k0) dEntry).name, ((z.1.log).getD (k0) dEntry).old, ((z.1.log).getD (k0) dEntry).new⟩ : Upd)).old.1, ((⟨((z.1.log).getD (k0) dEntry).kind, ((z.1.log).getD (k0) dEntry).name, ((z.1.log).getD (k0) dEntry).old, ((z.1.log).getD (k0) dEntry).new⟩ : Upd)).new.1]) x w') (σ 65) w1 := h 65 (by decide)
    exact Yk.assign rfl ⟨Ext.refl _, e65⟩
  intro ρ90 w91 hx92 he hf
  obtain ⟨-, -, -, -, -, -, -, -, -, -, -, -, -, -, -, -, -, k3, -⟩ := hf
  obtain ⟨T0, T1, T2, T4, T5, T6, -⟩ := he.hold [(0, _), (1, _), (2, _), (4, _), (5, _), (6, _)] ⟨T0, T1, T2, T4, T5, T6, trivial⟩ rfl
  clear he
  have k3 : (fun x w' => RowG w3.heap.size w80.heap.size 25 32 (Lib.byteCells) (Value.ownBlock vk0) (((([z.1.at_.1] ++ z.1.branches.map (fun n => n.id.1)) ++ z.1.tags.map (fun n => n.id.1)) ++ (z.1.log.take k0).flatMap (fun e => [e.old.1, e.new.1])) ++ [((⟨((z.1.log).getD (k0) dEntry).kind, ((z.1.log).getD (k0) dEntry).name, ((z.1.log).getD (k0) dEntry).old, ((z.1.log).getD (k0) dEntry).new⟩ : Upd)).old.1, ((⟨((z.1.log).getD (k0) dEntry).kind, ((z.1.log).getD (k0) dEntry).name, ((z.1.log).getD (k0) dEntry).old, ((z.1.log).getD (k0) dEntry).new⟩ : Upd)).new.1]) x w') (ρ90 3) w91 := k3
  obtain ⟨v93, T3⟩ : ∃ v, ρ90 3 = v := ⟨_, rfl⟩
  rw [T3] at k3
  have hg94 : Grew w80 w91 vk0 v93 := ⟨hx92.grown, k3.2⟩
  have ho95 := k3.1; clear k3
  have hap96 : OB v93 n2 := apart_grew hg94 hap83 (bl hb8)
  have hE := ext_grew hE hg94 hr_vk0.2 hz13
  have hb8 := blk_grew hb8 hg94 hap83
  have hA11 := ext_grew hA11 hg94 hr_vk0.2 (Nat.le_refl _)
  clear hr_vk0
  refine bN (tN (hK84 _ _ (wt (oM rfl (oS rfl (Yk.bin (xv := NI k0) (yv := NI 1) T6 rfl rfl (i64_add _ _ _ (by omega)) (oA rfl (oL_ [(0, .agg (refsC z).toArray), (1, PQ n2 0), (2, (Value.slice none 0 0)), (3, v93), (4, NI i0), (5, NI j0), (6, NI ((k0) + (1)))] ⟨T0, T1, T2, T3, T4, T5, rfl, trivial⟩ fun ρ97 ⟨T0, T1, T2, T3, T4, T5, T6, _⟩ => (tN (And.intro ⟨k0 + 1, v93, T0, T1, T2, T4, T5, T6, T3, hE, hb8, hA11, og_eq ho95 ((by rw [take_flat_snoc dEntry hltk0, List.append_assoc])), by omega, trivial⟩ ?_))))))))))
  show z.1.log.length - (intOf (ρ97 6)).toNat < z.1.log.length - (intOf (ρ79 6)).toNat
  rw [T6, q6]
  simp only [intOf, Int.toNat_natCast]; omega
 have hke : k0 = z.1.log.length := by omega
 refine wpF_exit (thenF_exit (thenF_exit (inBlockF_hit (tN (hK76 _ _ (sk fun K98 hK98 => (wt (oM rfl (oS rfl (Yk.run (v := AB (List.replicate 32 0)) (by kernel_rfl) (oS rfl (Yk.lit1G (a := (List.replicate 32 0)) (enc := Lib.byteCells) (vr (AB (List.replicate 32 0)) rfl) (by rw [Lib.byteCells_length]; exact List.length_replicate) wr53_lg23 fun v99 w100 hr101 hx102 => ?_))))))))))))
 have hE := hE.trans hx102
 have hb8 := eb hx102 hb8
 have hA11 := hA11.trans hx102
 have hr_vk0 := hr_vk0.keep hx102
 have hz_ := hE.size
 have hl3 := roots3_len z.1 k0
 refine oS rfl (Yk.callA2 wr53_pl92 T3 (vr v99 rfl) ((refMinus_any _ vk0 v99 ((([z.1.at_.1] ++ z.1.branches.map (fun n => n.id.1)) ++ z.1.tags.map (fun n => n.id.1)) ++ (z.1.log.take k0).flatMap (fun e => [e.old.1, e.new.1])) ([(List.replicate 32 0)]) (RG.ofOwn hr_vk0) hr101 (by omega) (by simp)).mono ?_))
 rintro e w106 ⟨v103, o, rfl, ho104, hA, hnd, hmm, hx105⟩
 refine ⟨_, rfl, ?_⟩
 have hE := hE.trans hx105
 have hb8 := eb hx105 hb8
 have hA11 := hA11.trans hx105
 have hr_vk0 := hr_vk0.keep hx105
 have hr101 := hr101.keep hx105
 have ho104 := OG.low ho104 hz_
 refine oA rfl (oZ (tN (hK98 _ _ (wpF_ret (postF_ret (fn := Tryd.f43) _ rfl [v103] (v103) rfl ⟨rfl, trivial⟩ ?_)))))
 subst hke
 exact ⟨_, o, rfl, ho104, hA, hnd, fun x => (hmm x).trans (by rw [List.mem_singleton]; unfold rootsL; rw [List.take_length, List.map_append]; simp only [List.append_assoc]), hE⟩
open Go.RowKit
set_option maxRecDepth 100000
noncomputable def look0P (r : Refs) : Id32 × Nat := if rightF r = true then (if r.head = [] then (r.at_, 0) else if foundN r.branches r.head (placeN r.branches r.head) = true then ((r.branches.getD (placeN r.branches r.head) dNmd).id, 0) else (zid, 4)) else (zid, 1)
theorem wr36_al25 {d : Option Tmp} {ty : TypeId} {pos : String} {af : Array Edge} {gd : Option (Nat × Bool)} (σ : Operand → Value) (w : World) : (execOp σ ⟨d, .alloc 25, ty, pos, af, gd⟩).run Tryd.prog w = .ok (.value (PQ w.heap.size 0)) (w.alloc (.cells (Lib.byteCells (List.replicate 32 0)).toArray 25)) := by kernel_rfl
theorem wr36_ty53 : ∃ fs, Tryd.prog.underlying 53 = some (.struct fs) := struct_of (by kernel_rfl)
theorem wr36_isz53 : (Tryd.prog.info? 53).map (·.size) = some 36 := by kernel_rfl
theorem wr36_pl31 : Plain Tryd.prog 31 := fun _ _ => by kernel_rfl
theorem wr36_ty25 : Tryd.prog.underlying 25 = some (.array 32 5) := by kernel_rfl
theorem wr36_fo53_2 : FieldOff Tryd.prog 53 2 2 := fun b o w => by simp [go_sem]
theorem wr36_ty9 : Tryd.prog.underlying 9 = some (.string) := by kernel_rfl
theorem wr36_fo53_3 : FieldOff Tryd.prog 53 3 3 := fun b o w => by simp [go_sem]
theorem wr36_fo53_0 : FieldOff Tryd.prog 53 0 0 := fun b o w => by simp [go_sem]
theorem wr36_ty51 : Tryd.prog.underlying 51 = some (.slice 70) := by kernel_rfl
theorem wr36_pl88 : Plain Tryd.prog 88 := fun _ _ => by kernel_rfl
theorem wr36_szg70 : ∀ w' : World, (sizeOf 70).run Tryd.prog w' = .ok 33 w' := fun _ => by kernel_rfl
theorem wr36_fo70_1 : FieldOff Tryd.prog 70 1 1 := fun b o w => by simp [go_sem]
theorem wr36_isz25 : (Tryd.prog.info? 25).map (·.size) = some 32 := by kernel_rfl
set_option maxHeartbeats 1600000
theorem look0_any (w : World) (z : RefsV) (hm : RefsAt w z) (hL : RefsLt z.1) :
  Calls Tryd.prog 39 #[.agg (refsC z).toArray, St []] w fun e w' => e = .returned (.tuple #[AB ((look0P z.1).1.1), NI (look0P z.1).2]) ∧ Ext w w' := by
 have hmt := hm.branches
 have hmg := hm.tags
 have hml := hm.log
 refine calls_of_wpF (args := [.agg (refsC z).toArray, St (([] : List UInt8))]) Tryd.func39 rfl 70 rfl (Nat.le_of_ble_eq_true rfl) ?_
 intro ρ0 hb
 have T0 : ρ0 0 = (.agg (refsC z).toArray : Value) := hb.get 0
 have T1 : ρ0 1 = (St (([] : List UInt8)) : Value) := hb.get 1
 clear hb
 have hE := Ext.refl w
 refine sk fun K1 hK1 => (wt (oS rfl (Yk.box (cs := (refsC z : List Value).toArray) T0 fun n2 w3 hn4 hb5 hx6 hs7 => ?_)))
 have hE := hE.trans hx6
 have hb8 := hb5; clear hb5
 have hl9 : n2 < w3.heap.size := by omega
 refine oS rfl (Yk.alloc (cs := (Lib.byteCells (List.replicate 32 0)).toArray) wr36_al25 fun n10 w11 hn12 hb13 hx14 hs15 => ?_)
 have hA16 := Ext.refl w3
 have hea17 := hE
 have hz18 := hE.size
 have hlt19 := lte (bl hb8) hn12
 have hE := hE.trans hx14
 have hb8 := eb hx14 hb8
 have hA16 := hA16.trans hx14
 have hb20 := hb13; clear hb13
 have hl21 : n10 < w11.heap.size := by omega
 refine oA rfl (oZ (tN (hK1 _ _ (sk fun K22 hK22 => (sk fun K23 hK23 => (wt (oS rfl (Yk.loadAll (vr (PQ n2 0) rfl) hb8 (wr36_ty53).choose_spec rfl (st_isz (refs_len z) wr36_isz53) (oS rfl (Yk.callA1 wr36_pl31 (vr (.agg (refsC z).toArray) rfl) ((fright_any _ z ⟨(hmt.keep hE), (hmg.keep hE), (hml.keep hE)⟩ hL).mono ?_)))))))))))
 rintro e w25 ⟨rfl, hx24⟩
 refine ⟨_, rfl, ?_⟩
 have hE := hE.trans hx24
 have hb8 := eb hx24 hb8
 have hA16 := hA16.trans hx24
 have hb20 := eb hx24 hb20
 refine oS rfl (Yk.notB (vr (.bool (rightF z.1)) rfl) (oZ (tN (hK23 _ _ ?_))))
 refine wpF_condB (!(rightF z.1)) (vr (.bool (!(rightF z.1))) rfl) (fun hc0 => ?_) (fun hc0 => ?_)
 ·have hrt : rightF z.1 = false := by simpa using hc0
  refine sk fun K26 hK26 => (wt (oS rfl (Yk.run (v := AB (List.replicate 32 0)) (by kernel_rfl) (oS rfl (Yk.storeAll (vr (PQ n10 0) rfl) (vr (AB (List.replicate 32 0)) rfl) hb20 (by exact idsize List.length_replicate List.length_replicate) (by exact sizeId_of List.length_replicate) (byteCells_one _) fun w27 hb28 hg29 hs30 => ?_)))))
  have hE := row_fresh hE hg29 (Nat.le_trans hz18 (by omega))
  have hb8 := kb hg29 hb8 (by omega)
  have hA16 := row_fresh hA16 hg29 (Nat.le_trans (Nat.le_refl _) (by omega))
  clear hb20
  have hb20 := hb28; clear hb28
  have hl31 := bl hb20
  refine oA rfl (oZ (tN (hK26 _ _ (wpF_ret (thenF_ret (postF_ret (fn := Tryd.f39) _ rfl [AB (List.replicate 32 0), NI 1] (.tuple #[AB (List.replicate 32 0), NI 1]) rfl ⟨ResF.row rfl hb20 wr36_ty25 rfl (by exact sizeId_of List.length_replicate), rfl, trivial⟩ ?_))))))
  have hT : look0P z.1 = (zid, 1) := by unfold look0P; rw [if_neg (by rw [hrt]; decide)]
  exact ⟨by rw [hT]; try rfl, hE⟩
 have hrt : rightF z.1 = true := by simpa using hc0
 have hS := rightF_sorted hrt
 refine wpF_skip (tN (hK22 _ _ (sk fun K32 hK32 => (sk fun K33 hK33 => (wt (oM rfl (oS rfl (Yk.eqSt (l := ([] : List UInt8)) (m := ([] : List UInt8)) (.inl rfl) T1 (vr (St (([] : List UInt8))) rfl) (decide (([] : List UInt8) = (([] : List UInt8) : List UInt8))) rfl (oZ (tN (hK33 _ _ (wpF_true (vr (.bool (true)) (congrArg Value.bool (decide_eq_true (rfl)))) (sk fun K34 hK34 => (sk fun K35 hK35 => (wt (oS rfl (Yk.fieldAt wr36_fo53_2 (vr (PQ n2 0) rfl) (oS rfl (Yk.cell1 wr36_ty9 rfl (vr (PQ n2 2) rfl) (cellAt hb8 (show (refsC z)[2]? = some (St (z.1.head) : Value) from refs_g2 z)) (oS rfl (Yk.eqSt (l := z.1.head) (m := ([] : List UInt8)) (.inl rfl) (vr (St (z.1.head)) rfl) (vr (St (([] : List UInt8))) rfl) (decide ((z.1.head : List UInt8) = (([] : List UInt8) : List UInt8))) rfl ?_)))))))))))))))))))))
 refine oZ (tN (hK35 _ _ ?_))
 refine wpF_cond ((z.1.head : List UInt8) = (([] : List UInt8) : List UInt8)) (vr (.bool (decide ((z.1.head : List UInt8) = (([] : List UInt8) : List UInt8)))) rfl) (fun hc2 => ?_) (fun hc2 => ?_)
 ·have hh := hc2
  refine sk fun K36 hK36 => (wt (oS rfl (Yk.fieldAt wr36_fo53_3 (vr (PQ n2 0) rfl) (oS rfl (Yk.loadPR (PR.blk hb8 (refs_m3 z) (refs_n3 z) (vr (PQ n2 3) rfl)) wr36_ty25 rfl (sizeId_of z.1.at_.2) (oS rfl (Yk.storeAll (vr (PQ n10 0) rfl) (vr (AB z.1.at_.1) rfl) hb20 (by exact idsize z.1.at_.2 List.length_replicate) (by exact sizeId_of z.1.at_.2) (byteCells_one _) fun w37 hb38 hg39 hs40 => ?_)))))))
  have hE := row_fresh hE hg39 (Nat.le_trans hz18 (by omega))
  have hb8 := kb hg39 hb8 (by omega)
  have hA16 := row_fresh hA16 hg39 (Nat.le_trans (Nat.le_refl _) (by omega))
  clear hb20
  have hb20 := hb38; clear hb38
  have hl41 := bl hb20
  refine oA rfl (oZ (tN (hK36 _ _ (wpF_ret (thenF_ret (thenF_ret (postF_ret (fn := Tryd.f39) _ rfl [AB z.1.at_.1, NI 0] (.tuple #[AB z.1.at_.1, NI 0]) rfl ⟨ResF.row rfl hb20 wr36_ty25 rfl (by exact sizeId_of z.1.at_.2), rfl, trivial⟩ ?_)))))))
  have hT : look0P z.1 = (z.1.at_, 0) := by unfold look0P; rw [if_pos hrt, if_pos hh]
  exact ⟨by rw [hT]; try rfl, hE⟩
 have hh := hc2
 refine wpF_skip (tN (hK34 _ _ (sk fun K42 hK42 => (sk fun K43 hK43 => (wt (oS rfl (Yk.fieldAt wr36_fo53_0 (vr (PQ n2 0) rfl) (oS rfl (Yk.cell1 wr36_ty51 rfl (vr (PQ n2 0) rfl) (cellAt hb8 (show (refsC z)[0]? = some (z.2.branches : Value) from refs_g0 z)) (oS rfl (Yk.fieldAt wr36_fo53_2 (vr (PQ n2 0) rfl) (oS rfl (Yk.cell1 wr36_ty9 rfl (vr (PQ n2 2) rfl) (cellAt hb8 (show (refsC z)[2]? = some (St (z.1.head) : Value) from refs_g2 z)) (oS rfl (Yk.callA2 wr36_pl88 (vr z.2.branches rfl) (vr (St (z.1.head)) rfl) ((place_any _ _ z.1.branches (hmt.keep hE) (by have := hS.bl; omega) hS.br z.1.head).mono ?_))))))))))))))))
 rintro e w45 ⟨⟨p, rfl, hp⟩, hx44⟩
 refine ⟨_, rfl, ?_⟩
 have hE := hE.trans hx44
 have hb8 := eb hx44 hb8
 have hA16 := hA16.trans hx44
 have hb20 := eb hx44 hb20
 refine oM rfl (oS rfl (Yk.extract (vs := [NI p, .bool (foundN z.1.branches z.1.head p)]) (vr (.tuple #[NI p, .bool (foundN z.1.branches z.1.head p)]) rfl) (show _ = some (NI p : Value) from rfl) (oS rfl (Yk.extract (vs := [NI p, .bool (foundN z.1.branches z.1.head p)]) (vr (.tuple #[NI p, .bool (foundN z.1.branches z.1.head p)]) rfl) (show _ = some (.bool (foundN z.1.branches z.1.head p) : Value) from rfl) (oA rfl (oA rfl (oZ (tN (hK43 _ _ (sk fun K46 hK46 => (wt (oM rfl (oZ (tN (hK46 _ _ ?_)))))))))))))))
 refine wpF_condB (foundN z.1.branches z.1.head p) (vr (.bool (foundN z.1.branches z.1.head p)) rfl) (fun hc3 => ?_) (fun hc3 => ?_)
 ·have hf := hc3
  have hlt := found_lt hf
  refine sk fun K47 hK47 => (wt (oS rfl (Yk.fieldAt wr36_fo53_0 (vr (PQ n2 0) rfl) (oS rfl (Yk.cell1 wr36_ty51 rfl (vr (PQ n2 0) rfl) (cellAt hb8 (show (refsC z)[0]? = some (z.2.branches : Value) from refs_g0 z)) (oM rfl ?_))))))
  have hl50 : (nmdC ((z.1.branches).getD (p) dNmd)).length = 33 := (RG.elem (hmt.keep hE) dNmd (hlt))
  refine oS rfl (Yk.atRG wr36_ty51 wr36_szg70 (by decide) dNmd (RG.of (hmt.keep hE) (vr z.2.branches rfl)) (vr (NI p) rfl) (hlt) fun v48 hp49 => ?_)
  have hl53 : (Lib.byteCells ((z.1.branches).getD (p) dNmd).id.1).length = 32 := by rw [Lib.byteCells_length, ((z.1.branches).getD (p) dNmd).id.2]
  refine oS rfl (Yk.fieldPR (n := 32) wr36_fo70_1 (PR.of hp49 (vr v48 rfl)) fun v51 hp52 => ?_)
  have hp52 : PR (Lib.byteCells ((z.1.branches).getD (p) dNmd).id.1) v51 w45 := (nmd_f1 ((z.1.branches).getD (p) dNmd)) ▸ hp52
  refine oS rfl (Yk.loadPR (PR.of hp52 (vr v51 rfl)) wr36_ty25 rfl (by rw [hl53]; exact wr36_isz25) (oS rfl (Yk.storeAll (vr (PQ n10 0) rfl) (vr (AB (((z.1.branches).getD (p) dNmd).id.1)) rfl) hb20 (by exact idsize (bytes_len32 (hl53)) List.length_replicate) (by exact sizeId_of (bytes_len32 (hl53))) (byteCells_one _) fun w54 hb55 hg56 hs57 => ?_)))
  have hE := row_fresh hE hg56 (Nat.le_trans hz18 (by omega))
  have hb8 := kb hg56 hb8 (by omega)
  have hA16 := row_fresh hA16 hg56 (Nat.le_trans (Nat.le_refl _) (by omega))
  clear hp49
  clear hp52
  clear hb20
  have hb20 := hb55; clear hb55
  have hl58 := bl hb20
  refine oA rfl (oZ (tN (hK47 _ _ (wpF_ret (thenF_ret (thenF_ret (postF_ret (fn := Tryd.f39) _ rfl [AB (((z.1.branches).getD (p) dNmd).id.1), NI 0] (.tuple #[AB (((z.1.branches).getD (p) dNmd).id.1), NI 0]) rfl ⟨ResF.row rfl hb20 wr36_ty25 rfl (by exact sizeId_of (bytes_len32 (hl53))), rfl, trivial⟩ ?_)))))))
  have hT : look0P z.1 = ((z.1.branches.getD p dNmd).id, 0) := by unfold look0P; rw [if_pos hrt, if_neg hh, ← place_uniq hp, if_pos hf]
  exact ⟨by rw [hT]; try rfl, hE⟩
 have hf := hc3
 refine wpF_skip (tN (hK42 _ _ (sk fun K59 hK59 => (wt (oS rfl (Yk.run (v := AB (List.replicate 32 0)) (by kernel_rfl) (oS rfl (Yk.storeAll (vr (PQ n10 0) rfl) (vr (AB (List.replicate 32 0)) rfl) hb20 (by exact idsize List.length_replicate List.length_replicate) (by exact sizeId_of List.length_replicate) (byteCells_one _) fun w60 hb61 hg62 hs63 => ?_))))))))
 have hE := row_fresh hE hg62 (Nat.le_trans hz18 (by omega))
 have hb8 := kb hg62 hb8 (by omega)
 have hA16 := row_fresh hA16 hg62 (Nat.le_trans (Nat.le_refl _) (by omega))
 clear hb20
 have hb20 := hb61; clear hb61
 have hl64 := bl hb20
 refine oA rfl (oZ (tN (hK59 _ _ (wpF_ret (thenF_ret (postF_ret (fn := Tryd.f39) _ rfl [AB (List.replicate 32 0), NI 4] (.tuple #[AB (List.replicate 32 0), NI 4]) rfl ⟨ResF.row rfl hb20 wr36_ty25 rfl (by exact sizeId_of List.length_replicate), rfl, trivial⟩ ?_))))))
 have hT : look0P z.1 = (zid, 4) := by unfold look0P; rw [if_pos hrt, if_neg hh, ← place_uniq hp, if_neg (by rw [hf]; decide)]
 exact ⟨by rw [hT]; try rfl, hE⟩
open Go.RowKit
abbrev mainB : Bs := [109, 97, 105, 110]
abbrev id1 : Id32 := ⟨1 :: List.replicate 31 0, rfl⟩
abbrev u1 : Upd := ⟨1, mainB, zid, id1⟩
abbrev u2 : Upd := ⟨1, mainB, id1, zid⟩
abbrev firstB : Bs := [102, 105, 114, 115, 116]
abbrev againB : Bs := [97, 103, 97, 105, 110]
abbrev r1 : Refs := ⟨[⟨mainB, id1⟩], [], mainB, zid, [entOf u1 firstB]⟩
theorem main_name : nameB mainB = true := by decide
theorem dec_ascii {l : Bs} {a : Nat} (h : ∀ x ∈ l, x.toNat < 128) (ha : a < l.length) : decU l a = some (a + 1) := by
  have hx : (l.getD a 0).toNat < 128 := h _ (getD_mem 0 ha)
  have hl : leadO (l.getD a 0) = some (0, (l.getD a 0).toNat, 0) := by unfold leadO; rw [if_pos hx]
  unfold decU
  rw [hl]
  simp only [tailU]
  rw [if_neg (by omega), if_pos ⟨Nat.zero_le _, by unfold mayB; simp only [Nat.zero_le, decide_true, Bool.true_and, Bool.and_eq_true, Bool.or_eq_true, decide_eq_true_eq]; omega⟩]
theorem utf_ascii {l : Bs} (h : ∀ x ∈ l, x.toNat < 128) : ∀ (n a : Nat), l.length ≤ a + n → utfB l a = true
  | 0, a, hn => utfB_end (by omega)
  | n + 1, a, hn => by
    by_cases ha : a < l.length
    · rw [utfB_some ha (dec_ascii h ha)]; exact utf_ascii h n _ (by omega)
    · exact utfB_end ha
theorem note_ascii {l : Bs} (h : ∀ x ∈ l, x.toNat < 128) (hl : l.length ≤ 256) : noteB l = true := by unfold noteB; rw [decide_eq_true hl, utf_ascii h l.length 0 (by omega)]; rfl
theorem first_note : noteB firstB = true := note_ascii (by decide) (by decide)
theorem again_note : noteB againB = true := note_ascii (by decide) (by decide)
theorem nil_note : noteB [] = true := note_ascii (by decide) (by decide)
theorem nil_list : nlistB [] = true := by rw [nlistB_all (i := 0) (Nat.le_refl _) (fun j hj => absurd hj (Nat.not_lt_zero _))]; rfl
theorem one_list : nlistB [⟨mainB, id1⟩] = true := by
  rw [nlistB_all (i := 1) (Nat.le_refl _) (fun j hj => by cases j with
    | zero => rfl
    | succ j => omega)]; rfl
theorem right0 : rightF beginV.1 = true := rightF_all (i := 0) (by unfold rE1; rw [nil_list]; rfl) (by unfold rE2; rw [show beginV.1.head = mainB from rfl, main_name]; rfl) (Nat.le_refl _) (fun j hj => absurd hj (Nat.not_lt_zero _))
theorem right1 : rightF r1 = true := rightF_all (i := 1) (by unfold rE1; rw [nil_list, one_list]; rfl) (by unfold rE2; rw [main_name]; rfl) (Nat.le_refl _) (fun j hj => by
  cases j with
  | zero => show entE [entOf u1 firstB] 0 = false; unfold entE; rw [show (([entOf u1 firstB] : List Ent).getD 0 dEntry).note = firstB from rfl, first_note]; rfl
  | succ j => omega)
theorem updErr1 : updErr u1 = 0 := by decide
theorem updErr2 : updErr u2 = 0 := by decide
theorem do1 : doP beginV.1 u1 = (0, ⟨[⟨mainB, id1⟩], [], mainB, zid, []⟩) := rfl
theorem do2 : (doP r1 u1).1 = 15 := by decide
theorem do3 : (doP r1 u2).1 = 16 := by decide
theorem apply_1 : applyP beginV.1 [u1] firstB = (0, r1) := by
  have h := runP_next (note := firstB) (r := beginV.1) (l := [u1]) (i := 0) (by decide) updErr1 (by show (doP beginV.1 u1).1 = 0; rw [do1])
  rw [List.drop_zero] at h
  rw [applyP_ok (by rw [right0, first_note]; rfl) (h.trans (runP_end (by decide)))]
  show (0, cutlog (addlog (doP beginV.1 u1).2 (entOf u1 firstB))) = _
  rw [do1]
  rfl
theorem look_1 : look0P r1 = (id1, 0) := by
  unfold look0P
  rw [if_pos right1]
  rfl
theorem apply_2 : applyP r1 [u1] againB = (15, zeroR) := by
  have h := runP_err2 (note := againB) (r := r1) (l := [u1]) (i := 0) (by decide) updErr1 (by show (doP r1 u1).1 ≠ 0; rw [do2]; decide)
  rw [List.drop_zero, show (doP r1 ([u1].getD 0 dUpd)).1 = 15 from do2] at h
  exact applyP_err (by rw [right1, again_note]; rfl) h (by decide)
theorem apply_3 : applyP r1 [u2] [] = (16, zeroR) := by
  have h := runP_err2 (note := []) (r := r1) (l := [u2]) (i := 0) (by decide) updErr2 (by show (doP r1 u2).1 ≠ 0; rw [do3]; decide)
  rw [List.drop_zero, show (doP r1 ([u2].getD 0 dUpd)).1 = 16 from do3] at h
  exact applyP_err (by rw [right1, nil_note]; rfl) h (by decide)
open Go.RowKit
set_option maxRecDepth 100000
theorem entC_of (y : Upd) (note : Bs) : updC y ++ [Value.string ⟨note.toArray⟩] = entC (entOf y note) := by simp [entC, updC, entOf]
theorem wr35_al53 {d : Option Tmp} {ty : TypeId} {pos : String} {af : Array Edge} {gd : Option (Nat × Bool)} (σ : Operand → Value) (w : World) : (execOp σ ⟨d, .alloc 53, ty, pos, af, gd⟩).run Tryd.prog w = .ok (.value (PQ w.heap.size 0)) (w.alloc (.cells (refsC ((⟨[], [], [], zid, []⟩, ⟨.slice none 0 0, .slice none 0 0, .slice none 0 0⟩) : RefsV)).toArray 53)) := by kernel_rfl
theorem wr35_ty53 : ∃ fs, Tryd.prog.underlying 53 = some (.struct fs) := struct_of (by kernel_rfl)
theorem wr35_isz53 : (Tryd.prog.info? 53).map (·.size) = some 36 := by kernel_rfl
theorem wr35_pl31 : Plain Tryd.prog 31 := fun _ _ => by kernel_rfl
theorem wr35_pl73 : Plain Tryd.prog 73 := fun _ _ => by kernel_rfl
theorem wr35_fo53_0 : FieldOff Tryd.prog 53 0 0 := fun b o w => by simp [go_sem]
theorem wr35_ty51 : Tryd.prog.underlying 51 = some (.slice 70) := by kernel_rfl
theorem wr35_pl74 : Plain Tryd.prog 74 := fun _ _ => by kernel_rfl
theorem wr35_fo53_1 : FieldOff Tryd.prog 53 1 1 := fun b o w => by simp [go_sem]
theorem wr35_fo53_4 : FieldOff Tryd.prog 53 4 35 := fun b o w => by simp [go_sem]
theorem wr35_ty47 : Tryd.prog.underlying 47 = some (.slice 122) := by kernel_rfl
theorem wr35_pl75 : Plain Tryd.prog 75 := fun _ _ => by kernel_rfl
theorem wr35_isz51 : (Tryd.prog.info? 51).map (·.size) = some 1 := by kernel_rfl
theorem wr35_isz47 : (Tryd.prog.info? 47).map (·.size) = some 1 := by kernel_rfl
theorem wr35_pl76 : Plain Tryd.prog 76 := fun _ _ => by kernel_rfl
theorem wr35_ty22 : Tryd.prog.underlying 22 = some (.slice 67) := by kernel_rfl
theorem wr35_szg67 : ∀ w' : World, (sizeOf 67).run Tryd.prog w' = .ok 66 w' := fun _ => by kernel_rfl
theorem wr35_ty67 : ∃ fs, Tryd.prog.underlying 67 = some (.struct fs) := struct_of (by kernel_rfl)
theorem wr35_isz67 : (Tryd.prog.info? 67).map (·.size) = some 66 := by kernel_rfl
theorem wr35_al67 {d : Option Tmp} {ty : TypeId} {pos : String} {af : Array Edge} {gd : Option (Nat × Bool)} (σ : Operand → Value) (w : World) : (execOp σ ⟨d, .alloc 67, ty, pos, af, gd⟩).run Tryd.prog w = .ok (.value (PQ w.heap.size 0)) (w.alloc (.cells (updC (⟨0, [], zid, zid⟩ : Upd)).toArray 67)) := by kernel_rfl
theorem wr35_pl77 : Plain Tryd.prog 77 := fun _ _ => by kernel_rfl
theorem wr35_fo67_0 : FieldOff Tryd.prog 67 0 0 := fun b o w => by simp [go_sem]
theorem wr35_ty5 : Tryd.prog.underlying 5 = some (.int .u8) := by kernel_rfl
theorem wr35_ty125 : Tryd.prog.underlying 125 = some (.map 5 128) := by kernel_rfl
theorem wr35_bdE : ∀ (cs : Array Value), cs.size = 66 → ∀ (s : ByteArray) (w : World), (Instr.build 122 #[(0, Value.agg cs), (1, Value.string s)]).run Tryd.prog w = .ok (.agg (cs.toList ++ [Value.string s]).toArray) w
 | ⟨c0 :: c1 :: c2 :: c3 :: c4 :: c5 :: c6 :: c7 :: c8 :: c9 :: c10 :: c11 :: c12 :: c13 :: c14 :: c15 :: c16 :: c17 :: c18 :: c19 :: c20 :: c21 :: c22 :: c23 :: c24 :: c25 :: c26 :: c27 :: c28 :: c29 :: c30 :: c31 :: c32 :: c33 :: c34 :: c35 :: c36 :: c37 :: c38 :: c39 :: c40 :: c41 :: c42 :: c43 :: c44 :: c45 :: c46 :: c47 :: c48 :: c49 :: c50 :: c51 :: c52 :: c53 :: c54 :: c55 :: c56 :: c57 :: c58 :: c59 :: c60 :: c61 :: c62 :: c63 :: c64 :: c65 :: []⟩, _, s, w => by kernel_rfl
theorem wr35_lh47 (c0 c1 c2 c3 c4 c5 c6 c7 c8 c9 c10 c11 c12 c13 c14 c15 c16 c17 c18 c19 c20 c21 c22 c23 c24 c25 c26 c27 c28 c29 c30 c31 c32 c33 c34 c35 c36 c37 c38 c39 c40 c41 c42 c43 c44 c45 c46 c47 c48 c49 c50 c51 c52 c53 c54 c55 c56 c57 c58 c59 c60 c61 c62 c63 c64 c65 c66 : Value) (w : World) : (Instr.buildSlice 47 1 #[(0, .agg #[c0, c1, c2, c3, c4, c5, c6, c7, c8, c9, c10, c11, c12, c13, c14, c15, c16, c17, c18, c19, c20, c21, c22, c23, c24, c25, c26, c27, c28, c29, c30, c31, c32, c33, c34, c35, c36, c37, c38, c39, c40, c41, c42, c43, c44, c45, c46, c47, c48, c49, c50, c51, c52, c53, c54, c55, c56, c57, c58, c59, c60, c61, c62, c63, c64, c65, c66])]).run Tryd.prog w = .ok (.slice (some ⟨w.heap.size, 0, none⟩) 1 1) (w.alloc (.cells #[c0, c1, c2, c3, c4, c5, c6, c7, c8, c9, c10, c11, c12, c13, c14, c15, c16, c17, c18, c19, c20, c21, c22, c23, c24, c25, c26, c27, c28, c29, c30, c31, c32, c33, c34, c35, c36, c37, c38, c39, c40, c41, c42, c43, c44, c45, c46, c47, c48, c49, c50, c51, c52, c53, c54, c55, c56, c57, c58, c59, c60, c61, c62, c63, c64, c65, c66] 122)) := by kernel_rfl
theorem wr35_lg47 : ∀ (cs : Array Value), cs.size = 67 → ∀ w : World, (Instr.buildSlice 47 1 #[(0, .agg cs)]).run Tryd.prog w = .ok (.slice (some ⟨w.heap.size, 0, none⟩) 1 1) (w.alloc (.cells cs 122))
 | ⟨c0 :: c1 :: c2 :: c3 :: c4 :: c5 :: c6 :: c7 :: c8 :: c9 :: c10 :: c11 :: c12 :: c13 :: c14 :: c15 :: c16 :: c17 :: c18 :: c19 :: c20 :: c21 :: c22 :: c23 :: c24 :: c25 :: c26 :: c27 :: c28 :: c29 :: c30 :: c31 :: c32 :: c33 :: c34 :: c35 :: c36 :: c37 :: c38 :: c39 :: c40 :: c41 :: c42 :: c43 :: c44 :: c45 :: c46 :: c47 :: c48 :: c49 :: c50 :: c51 :: c52 :: c53 :: c54 :: c55 :: c56 :: c57 :: c58 :: c59 :: c60 :: c61 :: c62 :: c63 :: c64 :: c65 :: c66 :: []⟩, _, w => wr35_lh47 c0 c1 c2 c3 c4 c5 c6 c7 c8 c9 c10 c11 c12 c13 c14 c15 c16 c17 c18 c19 c20 c21 c22 c23 c24 c25 c26 c27 c28 c29 c30 c31 c32 c33 c34 c35 c36 c37 c38 c39 c40 c41 c42 c43 c44 c45 c46 c47 c48 c49 c50 c51 c52 c53 c54 c55 c56 c57 c58 c59 c60 c61 c62 c63 c64 c65 c66 w
theorem wr35_ig122 : ∃ z, (Tryd.prog.info? 122).map (fun i => (i.zero, i.size, i.bytes)) = some (some z, 67, 104) ∧ z.cells.size = 67 := info_ex (by kernel_rfl)
theorem wr35_szg122 : ∀ w' : World, (sizeOf 122).run Tryd.prog w' = .ok 67 w' := fun _ => by kernel_rfl
set_option maxHeartbeats 1600000
theorem apply20_any (w : World) (z0 : RefsV) (hm : RefsAt w z0) (hL : RefsLt z0.1) (lv : Value) (l : List Upd) (hr : RG 66 updC w lv l) (hl : l.length ≤ 1000) (hln : ∀ u ∈ l, u.name.length ≤ 9223372036854775807) (note : Bs) :
  Calls Tryd.prog 26 #[.agg (refsC z0).toArray, lv, St note] w fun e w' => ∃ v, e = .returned (.tuple #[.agg (refsC ((applyP z0.1 l note).2, v)).toArray, NI (applyP z0.1 l note).1]) ∧ RefsOw w.heap.size w' ((applyP z0.1 l note).2, v) ∧ Ext w w' := by
 have hmt := hm.branches
 have hmg := hm.tags
 have hml := hm.log
 refine calls_of_wpF (args := [.agg (refsC z0).toArray, lv, St (note)]) Tryd.func26 rfl 77 rfl (Nat.le_of_ble_eq_true rfl) ?_
 intro ρ0 hb
 have T0 : ρ0 0 = (.agg (refsC z0).toArray : Value) := hb.get 0
 have T1 : ρ0 1 = (lv : Value) := hb.get 1
 have T2 : ρ0 2 = (St (note) : Value) := hb.get 2
 clear hb
 have hE := Ext.refl w
 refine sk fun K1 hK1 => (wt (oS rfl (Yk.box (cs := (refsC z0 : List Value).toArray) T0 fun n2 w3 hn4 hb5 hx6 hs7 => ?_)))
 have hE := hE.trans hx6
 have hb8 := hb5; clear hb5
 have hl9 : n2 < w3.heap.size := by omega
 refine oS rfl (Yk.alloc (cs := (refsC ((⟨[], [], [], zid, []⟩, ⟨.slice none 0 0, .slice none 0 0, .slice none 0 0⟩) : RefsV)).toArray) wr35_al53 fun n10 w11 hn12 hb13 hx14 hs15 => ?_)
 have hA16 := Ext.refl w3
 have hea17 := hE
 have hz18 := hE.size
 have hlt19 := lte (bl hb8) hn12
 have hE := hE.trans hx14
 have hb8 := eb hx14 hb8
 have hA16 := hA16.trans hx14
 have hb20 := hb13; clear hb13
 have hl21 : n10 < w11.heap.size := by omega
 refine oA rfl (oZ (tN (hK1 _ _ (sk fun K22 hK22 => (sk fun K23 hK23 => (wt (oS rfl (Yk.loadAll (vr (PQ n2 0) rfl) hb8 (wr35_ty53).choose_spec rfl (st_isz (refs_len z0) wr35_isz53) (oS rfl (Yk.callA1 wr35_pl31 (vr (.agg (refsC z0).toArray) rfl) ((fright_any _ z0 ⟨(hmt.keep hE), (hmg.keep hE), (hml.keep hE)⟩ hL).mono ?_)))))))))))
 rintro e w25 ⟨rfl, hx24⟩
 refine ⟨_, rfl, ?_⟩
 have hE := hE.trans hx24
 have hb8 := eb hx24 hb8
 have hA16 := hA16.trans hx24
 have hb20 := eb hx24 hb20
 refine oS rfl (Yk.notB (vr (.bool (rightF z0.1)) rfl) (oM rfl (opsF_mayV (St (note)) rfl rfl (gF (vr (.bool (!(rightF z0.1))) rfl)) (fun hG26 => Yk.move T2 ⟨rfl, rfl⟩) (opsF_mayC (.bool (noteB note)) rfl rfl (gF (vr (.bool (!(rightF z0.1))) rfl)) (fun hG27 => Yk.callA1 wr35_pl73 (mayT (vr (cond (!(!(rightF z0.1))) (St (note)) undef) rfl) hG27) ((note_any _ note).mono (by rintro e w2 ⟨rfl, hx⟩; exact ⟨_, rfl, rfl, hx⟩))) fun w29 hx30 => ?_))))
 have hE := hE.trans hx30
 have hb8 := eb hx30 hb8
 have hA16 := hA16.trans hx30
 have hb20 := eb hx30 hb20
 refine opsF_mayV (.bool (!(noteB note))) rfl rfl (gF (vr (.bool (!(rightF z0.1))) rfl)) (fun hG31 => Yk.notB (mayT (vr (cond (!(!(rightF z0.1))) (.bool (noteB note)) undef) rfl) hG31) ⟨rfl, rfl⟩) (oS rfl (Yk.pickOrN (vr (.bool (!(rightF z0.1))) rfl) (vr (.bool (true)) rfl) (fun hA => (mayT (vr (cond (!(!(rightF z0.1))) (.bool (!(noteB note))) undef) rfl) (not_i hA))) fun bb32 hbb33 => (oZ (tN (hK23 _ _ ?_)))))
 refine wpF_condB (bb32) (vr (.bool (bb32)) rfl) (fun hc0 => ?_) (fun hc0 => ?_)
 ·subst hbb33
  have h0c : ((!rightF z0.1) || (!noteB note)) = true := hc0
  refine sk fun K34 hK34 => (wt (oS rfl (Yk.run (v := .agg (refsC ((⟨[], [], [], zid, []⟩, ⟨.slice none 0 0, .slice none 0 0, .slice none 0 0⟩) : RefsV)).toArray) (by kernel_rfl) (oS rfl (Yk.storeAll (vr (PQ n10 0) rfl) (vr (.agg (refsC ((⟨[], [], [], zid, []⟩, ⟨.slice none 0 0, .slice none 0 0, .slice none 0 0⟩) : RefsV)).toArray) rfl) hb20 (by simp only [List.size_toArray, refs_len]) (st_isz (refs_len _) wr35_isz53) (refs_one (x := ((⟨[], [], [], zid, []⟩, ⟨.slice none 0 0, .slice none 0 0, .slice none 0 0⟩) : RefsV)) rfl rfl rfl) fun w35 hb36 hg37 hs38 => ?_)))))
  have hE := row_fresh hE hg37 (Nat.le_trans hz18 (by omega))
  have hb8 := kb hg37 hb8 (by omega)
  have hA16 := row_fresh hA16 hg37 (Nat.le_trans (Nat.le_refl _) (by omega))
  clear hb20
  have hb20 : w35.heap[n10]? = some (.cells (refsC ((⟨[], [], [], zid, []⟩, ⟨.slice none 0 0, .slice none 0 0, .slice none 0 0⟩) : RefsV)).toArray 53 (0, 0)) := hb36; clear hb36
  have hl39 := bl hb20
  refine oA rfl (oZ (tN (hK34 _ _ (wpF_ret (thenF_ret (postF_ret (fn := Tryd.f26) _ rfl [.agg (refsC ((⟨[], [], [], zid, []⟩, ⟨.slice none 0 0, .slice none 0 0, .slice none 0 0⟩) : RefsV)).toArray, NI 1] (.tuple #[.agg (refsC ((⟨[], [], [], zid, []⟩, ⟨.slice none 0 0, .slice none 0 0, .slice none 0 0⟩) : RefsV)).toArray, NI 1]) rfl ⟨ResF.row rfl hb20 (wr35_ty53).choose_spec rfl (st_isz (refs_len _) wr35_isz53), rfl, trivial⟩ ?_))))))
  have hAp := applyP_bad (l := l) h0c
  exact ⟨⟨.slice none 0 0, .slice none 0 0, .slice none 0 0⟩, by rw [hAp], by rw [hAp]; exact ⟨OG.nil _ _ _ _ _, OG.nil _ _ _ _ _, OG.nil _ _ _ _ _⟩, hE⟩
 subst hbb33
 have h0c : ((!rightF z0.1) || (!noteB note)) = false := hc0
 have hrt : rightF z0.1 = true := by simp only [Bool.or_eq_false_iff, Bool.not_eq_false'] at h0c; exact h0c.1
 have hS0 := rightF_sorted hrt
 have hlg := (rightF_lists hrt).2.2
 have hb0 := hS0.bl
 have ht0 := hS0.tl
 refine wpF_skip (tN (hK22 _ _ (sk fun K40 hK40 => ?_)))
 refine wpF_draw_cut 9 [Is (PQ n2 0), Is (z0.2.branches), fun z' w' => OG w.heap.size 70 33 nmdC w' z' (z0.1.branches), Is (PQ n2 1), Is (z0.2.tags), fun z' w' => OG w.heap.size 70 33 nmdC w' z' (z0.1.tags), Is (PQ n2 35), Is (z0.2.log), fun z' w' => OG w.heap.size 122 67 entC w' z' (z0.1.log)] (by kernel_rfl) [22, 23, 24, 25, 26, 27, 28, 29, 30, 31, 32, 33] (by kernel_rfl) (by kernel_rfl) (by kernel_rfl) (by kernel_rfl) rfl rfl (si2 ⟨(fun _ _ _ h k => OG.keep h k), (si2 ⟨(fun _ _ _ h k => OG.keep h k), (si2 ⟨(fun _ _ _ h k => OG.keep h k), trivial⟩)⟩)⟩) ?hs1003 ?hQ1003
 case hs1003 =>
  refine ⟨?_, ?_, ?_, ?_, ?_, ?_, ?_, ?_, ?_, ?_, ?_, ?_, ?_, ?_, ?_, trivial⟩
  ·refine stepFC (stepN rfl fun σ w1 hC h => ?_)
   have e3 : σ 3 = PQ n2 0 := (eqo (h 3 (by decide))).trans rfl
   exact Yk.fieldAt wr35_fo53_0 e3 ⟨Ext.refl _, rfl⟩
  ·refine stepFC (stepN rfl fun σ w1 hC h => ?_)
   have e22 := eqo (h 22 (by decide))
   exact Yk.cell1 wr35_ty51 rfl e22 (cellAt (eb hC hb8) (show (refsC z0)[0]? = some (z0.2.branches : Value) from refs_g0 z0)) ⟨Ext.refl _, rfl⟩
  ·refine stepFC (stepN rfl fun σ w1 hC h => ?_)
   have e23 := eqo (h 23 (by decide))
   refine Yk.callA1 wr35_pl74 e23 ((cloneNmd_any _ z0.2.branches (z0.1.branches) (hmt.keep (hE.trans hC)) (by have := hb0; omega)).mono ?_)
   rintro e w2 ⟨v, rfl, ho, hx⟩
   exact ⟨_, rfl, hx, OG.low ho (Nat.le_trans hE.size hC.size)⟩
  ·refine stepFC (stepN rfl fun σ w1 hC h => ?_)
   have e3 : σ 3 = PQ n2 0 := (eqo (h 3 (by decide))).trans rfl
   exact Yk.fieldAt wr35_fo53_1 e3 ⟨Ext.refl _, rfl⟩
  ·refine stepFC (stepN rfl fun σ w1 hC h => ?_)
   have e25 := eqo (h 25 (by decide))
   exact Yk.cell1 wr35_ty51 rfl e25 (cellAt (eb hC hb8) (show (refsC z0)[1]? = some (z0.2.tags : Value) from refs_g1 z0)) ⟨Ext.refl _, rfl⟩
  ·refine stepFC (stepN rfl fun σ w1 hC h => ?_)
   have e26 := eqo (h 26 (by decide))
   refine Yk.callA1 wr35_pl74 e26 ((cloneNmd_any _ z0.2.tags (z0.1.tags) (hmg.keep (hE.trans hC)) (by have := ht0; omega)).mono ?_)
   rintro e w2 ⟨v, rfl, ho, hx⟩
   exact ⟨_, rfl, hx, OG.low ho (Nat.le_trans hE.size hC.size)⟩
  ·refine stepFC (stepN rfl fun σ w1 hC h => ?_)
   have e3 : σ 3 = PQ n2 0 := (eqo (h 3 (by decide))).trans rfl
   exact Yk.fieldAt wr35_fo53_4 e3 ⟨Ext.refl _, rfl⟩
  ·refine stepFC (stepN rfl fun σ w1 hC h => ?_)
   have e28 := eqo (h 28 (by decide))
   exact Yk.cell1 wr35_ty47 rfl e28 (cellAt (eb hC hb8) (show (refsC z0)[35]? = some (z0.2.log : Value) from refs_g4 z0)) ⟨Ext.refl _, rfl⟩
  ·refine stepFC (stepN rfl fun σ w1 hC h => ?_)
   have e29 := eqo (h 29 (by decide))
   refine Yk.callA1 wr35_pl75 e29 ((cloneEnt_any _ z0.2.log (z0.1.log) (hml.keep (hE.trans hC)) (by have := hlg; omega)).mono ?_)
   rintro e w2 ⟨v, rfl, ho, hx⟩
   exact ⟨_, rfl, hx, OG.low ho (Nat.le_trans hE.size hC.size)⟩
  ·exact trivial
  ·exact trivial
  ·exact trivial
  ·exact trivial
  ·exact trivial
  ·exact trivial
 intro ρ41 w42 hx43 he hf
 obtain ⟨-, -, k24, -, -, k27, -, -, k30, -⟩ := hf
 obtain ⟨T0, T1, T2, T3, T6, T7, -⟩ := he.hold [(0, _), (1, _), (2, _), (3, PQ n2 0), (6, PQ n10 0), (7, NI 0)] ⟨T0, T1, T2, rfl, rfl, rfl, trivial⟩ rfl
 clear he
 have hE := hE.trans hx43
 have hb8 := eb hx43 hb8
 have hA16 := hA16.trans hx43
 have hb20 := eb hx43 hb20
 have k24 : (fun z' w' => OG w.heap.size 70 33 nmdC w' z' (z0.1.branches)) (ρ41 24) w42 := k24
 obtain ⟨v44, T24⟩ : ∃ v, ρ41 24 = v := ⟨_, rfl⟩
 rw [T24] at k24
 have hk45 := k24; clear k24
 have hap46 := OG.off hk45 hb8 (by decide)
 have hap47 := OG.off hk45 hb20 (by decide)
 have k27 : (fun z' w' => OG w.heap.size 70 33 nmdC w' z' (z0.1.tags)) (ρ41 27) w42 := k27
 obtain ⟨v48, T27⟩ : ∃ v, ρ41 27 = v := ⟨_, rfl⟩
 rw [T27] at k27
 have hk49 := k27; clear k27
 have hap50 := OG.off hk49 hb8 (by decide)
 have hap51 := OG.off hk49 hb20 (by decide)
 have k30 : (fun z' w' => OG w.heap.size 122 67 entC w' z' (z0.1.log)) (ρ41 30) w42 := k30
 obtain ⟨v52, T30⟩ : ∃ v, ρ41 30 = v := ⟨_, rfl⟩
 rw [T30] at k30
 have hk53 := k30; clear k30
 have hap54 := OG.off hk53 hb8 (by decide)
 have hap55 := OG.off hk53 hb20 (by decide)
 refine oS rfl (Yk.fieldAt wr35_fo53_0 T3 (oS rfl (Yk.storeC (i := 0) (v := v44) (vr (PQ n2 0) rfl) T24 hb8 (by rw [refs_len]; decide) wr35_isz51 (RG.one (RG.ofOwn hk45)).1 (RG.one (RG.ofOwn hk45)).2 fun w56 hb57 hg58 hs59 => ?_)))
 have hE := row_fresh hE hg58 (Nat.le_trans (Nat.le_refl _) (by omega))
 clear hA16
 have hb20 := kb hg58 hb20 (by omega)
 have hk45 := OG.kept hk45 hg58 hap46
 have hk49 := OG.kept hk49 hg58 hap50
 have hk53 := OG.kept hk53 hg58 hap54
 clear hb8
 have hb8 : w56.heap[n2]? = some (.cells (refsC ((⟨z0.1.branches, z0.1.tags, z0.1.head, z0.1.at_, z0.1.log⟩, ⟨v44, z0.2.tags, z0.2.log⟩) : RefsV)).toArray 53 (0, 0)) := blk_eq hb57 (refs_s0 z0 v44 (z0.1.branches)); clear hb57
 have hl60 := bl hb8
 refine oS rfl (Yk.fieldAt wr35_fo53_1 T3 (oS rfl (Yk.storeC (i := 1) (v := v48) (vr (PQ n2 1) rfl) T27 hb8 (by rw [refs_len]; decide) wr35_isz51 (RG.one (RG.ofOwn hk49)).1 (RG.one (RG.ofOwn hk49)).2 fun w61 hb62 hg63 hs64 => ?_)))
 have hE := row_fresh hE hg63 (Nat.le_trans (Nat.le_refl _) (by omega))
 have hb20 := kb hg63 hb20 (by omega)
 have hk45 := OG.kept hk45 hg63 hap46
 have hk49 := OG.kept hk49 hg63 hap50
 have hk53 := OG.kept hk53 hg63 hap54
 clear hb8
 have hb8 : w61.heap[n2]? = some (.cells (refsC ((⟨z0.1.branches, z0.1.tags, z0.1.head, z0.1.at_, z0.1.log⟩, ⟨v44, v48, z0.2.log⟩) : RefsV)).toArray 53 (0, 0)) := blk_eq hb62 (refs_s1 ((⟨z0.1.branches, z0.1.tags, z0.1.head, z0.1.at_, z0.1.log⟩, ⟨v44, z0.2.tags, z0.2.log⟩) : RefsV) v48 (z0.1.tags)); clear hb62
 have hl65 := bl hb8
 refine oS rfl (Yk.fieldAt wr35_fo53_4 T3 (oS rfl (Yk.storeC (i := 35) (v := v52) (vr (PQ n2 35) rfl) T30 hb8 (by rw [refs_len]; decide) wr35_isz47 (RG.one (RG.ofOwn hk53)).1 (RG.one (RG.ofOwn hk53)).2 fun w66 hb67 hg68 hs69 => ?_)))
 have hE := row_fresh hE hg68 (Nat.le_trans (Nat.le_refl _) (by omega))
 have hb20 := kb hg68 hb20 (by omega)
 have hk45 := OG.kept hk45 hg68 hap46
 have hk49 := OG.kept hk49 hg68 hap50
 have hk53 := OG.kept hk53 hg68 hap54
 clear hb8
 have hb8 : w66.heap[n2]? = some (.cells (refsC ((⟨z0.1.branches, z0.1.tags, z0.1.head, z0.1.at_, z0.1.log⟩, ⟨v44, v48, v52⟩) : RefsV)).toArray 53 (0, 0)) := blk_eq hb67 (refs_s4 ((⟨z0.1.branches, z0.1.tags, z0.1.head, z0.1.at_, z0.1.log⟩, ⟨v44, v48, z0.2.log⟩) : RefsV) v52 (z0.1.log)); clear hb67
 have hl70 := bl hb8
 refine oZ (tN (hK40 _ _ (sk fun K71 hK71 => (wt (oS rfl (Yk.callA0 wr35_pl76  ((fkinds_any _).mono ?_)))))))
 rintro e w73 ⟨gm, rfl, hmp, hgm, hx72⟩
 refine ⟨_, rfl, ?_⟩
 have hlt74 : n10 < gm := Nat.lt_of_lt_of_le (bl hb20) hgm
 have hlt75 : n2 < gm := Nat.lt_of_lt_of_le (bl hb8) hgm
 have hE := hE.trans hx72
 have hb20 := eb hx72 hb20
 have hk45 := hk45.keep hx72
 have hk49 := hk49.keep hx72
 have hk53 := hk53.keep hx72
 have hb8 := eb hx72 hb8
 have hgl : gm < w73.heap.size := hmp.lt
 refine oA rfl (oZ (tN (hK71 _ _ (sk fun K76 hK76 => (sk fun K77 hK77 => (wt (oM rfl (oS rfl (Yk.lenRG wr35_ty22 (RG.of (hr.keep hE) T1) (oM rfl (oL_ [(0, .agg (refsC z0).toArray), (1, lv), (2, St (note)), (3, PQ n2 0), (6, PQ n10 0), (7, NI 0), (8, .map (some gm)), (35, lv), (36, NI l.length), (37, NI 0)] ⟨T0, T1, T2, T3, T6, T7, rfl, T1, rfl, rfl, trivial⟩ fun ρ78 ⟨T0, T1, T2, T3, T6, T7, T8, T35, T36, T37, _⟩ => ?_)))))))))))
 have ho79 : OG w.heap.size 70 33 nmdC w73 v44 (z0.1.branches) := hk45
 have ho80 : OG w.heap.size 70 33 nmdC w73 v48 (z0.1.tags) := hk49
 have ho81 : OG w.heap.size 122 67 entC w73 v52 (z0.1.log) := hk53
 have hP : AppAt w w73 n2 ((⟨z0.1.branches, z0.1.tags, z0.1.head, z0.1.at_, z0.1.log⟩, ⟨v44, v48, v52⟩) : RefsV) := ⟨hE, by omega, hb8, ho79, ho80, ho81, (OG.off ho79 hb8 (by decide)), (OG.off ho80 hb8 (by decide)), (OG.off ho81 hb8 (by decide)), OG.apart ho81 ho79 (by decide), OG.apart ho81 ho80 (by decide)⟩
 refine tN (hK77 _ _ (wpF_block (wpF_loop (fun (ρ : Slots) (wz : World) => ∃ i : Nat, ∃ z : RefsV, ρ 0 = (.agg (refsC z0).toArray : Value) ∧ ρ 1 = (lv : Value) ∧ ρ 2 = (St (note) : Value) ∧ ρ 3 = (PQ n2 0 : Value) ∧ ρ 6 = (PQ n10 0 : Value) ∧ ρ 8 = (.map (some gm) : Value) ∧ ρ 35 = (lv : Value) ∧ ρ 36 = (NI l.length : Value) ∧ ρ 37 = (NI i : Value) ∧ Ext w wz ∧ wz.heap[n10]? = some (.cells (refsC ((⟨[], [], [], zid, []⟩, ⟨.slice none 0 0, .slice none 0 0, .slice none 0 0⟩) : RefsV)).toArray 53 (0, 0)) ∧ MapF B8 fnV (fun _ : UInt8 => True) wz gm doG ∧ AppAt w wz n2 z ∧ (i ≤ l.length) ∧ (runP note z0.1 l = runP note z.1 (l.drop i)) ∧ (Sorted z.1) ∧ (z.1.log.length ≤ 64 + i) ∧ True) (fun ρ _ => l.length - (intOf (ρ 37)).toNat) ⟨0, ((⟨z0.1.branches, z0.1.tags, z0.1.head, z0.1.at_, z0.1.log⟩, ⟨v44, v48, v52⟩) : RefsV), T0, T1, T2, T3, T6, T8, T35, T36, T37, hE, hb20, hmp, hP, Nat.zero_le _, rfl, ⟨hS0.br, hS0.tg, hS0.bl, hS0.tl⟩, (show z0.1.log.length ≤ 64 + 0 by omega), trivial⟩ ?_)))
 clear hk45
 clear hk49
 clear hk53
 clear hb8
 clear hP
 clear hE hb20 hmp
 rintro ρ82 w83 ⟨i, z, T0, T1, T2, T3, T6, T8, T35, T36, T37, hE, hb20, hmp, hQ, hi, hrun, hS, hlog, -⟩
 have q37 := T37
 refine sk fun K84 hK84 => (wt (oS rfl (Yk.eqI (a := (i : Nat)) (b := (l.length : Nat)) T37 T36 (k_lss _ _ _ _) (oZ (tN (hK84 _ _ (sk fun K85 hK85 => ?_)))))))
 refine wpF_cond ((i) < (l.length)) (vr (.bool (decide ((i) < (l.length)))) rfl) (fun hc1 => ?_) (fun hc1 => ?_)
 ·have hlt : i < l.length := hc1
  refine wpF_skip (tN (hK85 _ _ (sk fun K86 hK86 => (wpF_block (sk fun K87 hK87 => (wt ?_))))))
  have hl90 : (updC (l.getD (i) dUpd)).length = 66 := (RG.elem (hr.keep hE) dUpd (by omega))
  refine oS rfl (Yk.atRG wr35_ty22 wr35_szg67 (by decide) dUpd (RG.of (hr.keep hE) T35) T37 (by omega) fun v88 hp89 => (oS rfl (Yk.loadPR (PR.of hp89 (vr v88 rfl)) (wr35_ty67).choose_spec rfl (by rw [upd_len]; exact wr35_isz67) (oS rfl (Yk.alloc (cs := (updC (⟨0, [], zid, zid⟩ : Upd)).toArray) wr35_al67 fun n91 w92 hn93 hb94 hx95 hs96 => ?_)))))
  have hA97 := Ext.refl w83
  have hea98 := hE
  have hz99 := hE.size
  have hlt100 := lte (bl hb20) hn93
  have hlt101 := lte hmp.lt hn93
  have hE := hE.trans hx95
  have hb20 := eb hx95 hb20
  have hmp := hmp.keep hx95
  have hA97 := hA97.trans hx95
  have hb102 := hb94; clear hb94
  have hl103 : n91 < w92.heap.size := by omega
  refine oS rfl (Yk.storeAll (vr (PQ n91 0) rfl) (vr (.agg (updC (l.getD (i) dUpd)).toArray) rfl) hb102 (by simp only [List.size_toArray, upd_len]) (st_isz (upd_len _) wr35_isz67) (upd_one (x := (l.getD (i) dUpd))) fun w104 hb105 hg106 hs107 => ?_)
  have hE := row_fresh hE hg106 (Nat.le_trans hz99 (by omega))
  have hb20 := kb hg106 hb20 (by omega)
  have hmp := MapF.other hmp hg106 (some_ne (by omega))
  have hA97 := row_fresh hA97 hg106 (Nat.le_trans (Nat.le_refl _) (by omega))
  clear hb102
  have hb102 : w104.heap[n91]? = some (.cells (updC (l.getD (i) dUpd)).toArray 67 (0, 0)) := hb105; clear hb105
  have hl108 := bl hb102
  refine oZ ?_
  clear hp89
  refine tN (hK87 _ _ (sk fun K109 hK109 => (sk fun K110 hK110 => (wt (oS rfl (Yk.loadAll (vr (PQ n91 0) rfl) hb102 (wr35_ty67).choose_spec rfl (st_isz (upd_len (l.getD (i) dUpd)) wr35_isz67) (oS rfl (Yk.callA1 wr35_pl77 (vr (.agg (updC (l.getD (i) dUpd)).toArray) rfl) ((update_any _ (l.getD i dUpd) (hln _ (getD_mem dUpd hlt))).mono ?_)))))))))
  rintro e w112 ⟨rfl, hx111⟩
  refine ⟨_, rfl, ?_⟩
  have hE := hE.trans hx111
  have hb20 := eb hx111 hb20
  have hmp := hmp.keep hx111
  have hA97 := hA97.trans hx111
  have hb102 := eb hx111 hb102
  refine oA rfl (oZ (tN (hK110 _ _ (sk fun K113 hK113 => (wt (oM rfl (oS rfl (Yk.eqI (a := (updErr (l.getD i dUpd) : Nat)) (b := (0 : Nat)) rfl rfl (k_neq _ _ _ _) (oZ (tN (hK113 _ _ ?_)))))))))))
  refine wpF_cond ((updErr (l.getD i dUpd) : Nat) ≠ (0)) (vr (.bool (decide ((updErr (l.getD i dUpd) : Nat) ≠ (0)))) rfl) (fun hc2 => ?_) (fun hc2 => ?_)
  ·have hU : updErr (l.getD i dUpd) ≠ 0 := hc2
   refine sk fun K114 hK114 => (wt (oS rfl (Yk.run (v := .agg (refsC ((⟨[], [], [], zid, []⟩, ⟨.slice none 0 0, .slice none 0 0, .slice none 0 0⟩) : RefsV)).toArray) (by kernel_rfl) (oM rfl (oS rfl (Yk.storeAll T6 (vr (.agg (refsC ((⟨[], [], [], zid, []⟩, ⟨.slice none 0 0, .slice none 0 0, .slice none 0 0⟩) : RefsV)).toArray) rfl) hb20 (by simp only [List.size_toArray, refs_len]) (st_isz (refs_len _) wr35_isz53) (refs_one (x := ((⟨[], [], [], zid, []⟩, ⟨.slice none 0 0, .slice none 0 0, .slice none 0 0⟩) : RefsV)) rfl rfl rfl) fun w115 hb116 hg117 hs118 => ?_))))))
   have hE := row_fresh hE hg117 (Nat.le_trans hz18 (by omega))
   have hmp := MapF.other hmp hg117 (some_ne (by omega))
   clear hA97
   have hb102 := kb hg117 hb102 (by omega)
   clear hb20
   have hb20 : w115.heap[n10]? = some (.cells (refsC ((⟨[], [], [], zid, []⟩, ⟨.slice none 0 0, .slice none 0 0, .slice none 0 0⟩) : RefsV)).toArray 53 (0, 0)) := hb116; clear hb116
   have hl119 := bl hb20
   refine oA rfl (oZ (tN (hK114 _ _ (wpF_ret (thenF_ret (inBlockF_ret (thenF_ret (thenF_ret (inBlockF_ret (thenF_ret (postF_ret (fn := Tryd.f26) _ rfl [.agg (refsC ((⟨[], [], [], zid, []⟩, ⟨.slice none 0 0, .slice none 0 0, .slice none 0 0⟩) : RefsV)).toArray, NI (updErr (l.getD i dUpd))] (.tuple #[.agg (refsC ((⟨[], [], [], zid, []⟩, ⟨.slice none 0 0, .slice none 0 0, .slice none 0 0⟩) : RefsV)).toArray, NI (updErr (l.getD i dUpd))]) rfl ⟨ResF.row T6 hb20 (wr35_ty53).choose_spec rfl (st_isz (refs_len _) wr35_isz53), rfl, trivial⟩ ?_)))))))))))
   have hAp := applyP_err h0c (hrun.trans (runP_err1 hlt hU)) hU
   exact ⟨⟨.slice none 0 0, .slice none 0 0, .slice none 0 0⟩, by rw [hAp], by rw [hAp]; exact ⟨OG.nil _ _ _ _ _, OG.nil _ _ _ _ _, OG.nil _ _ _ _ _⟩, hE⟩
  have hU : updErr (l.getD i dUpd) = 0 := by simpa using hc2
  obtain ⟨f, hF⟩ := doG_some (updErr_kind hU)
  refine wpF_skip (tN (hK109 _ _ (sk fun K120 hK120 => (sk fun K121 hK121 => (wt (oM rfl (oS rfl (Yk.fieldAt wr35_fo67_0 (vr (PQ n91 0) rfl) (oS rfl (Yk.cell1 wr35_ty5 rfl (vr (PQ n91 0) rfl) (cellAt hb102 (show (updC (l.getD (i) dUpd))[0]? = some (B8 (((l.getD (i) dUpd)).kind) : Value) from upd_g0 (l.getD (i) dUpd))) (oS rfl (Yk.lookMS (ek := B8) (ev := fnV) (D := fun _ : UInt8 => True) u8Law u8_ok (fun _ _ => b8_inj) wr35_ty125 (z := Value.nilFunc) zeroFn T8 (vr (B8 (((l.getD (i) dUpd)).kind)) rfl) hmp trivial hF (oS rfl (Yk.loadAll (vr (PQ n91 0) rfl) hb102 (wr35_ty67).choose_spec rfl (st_isz (upd_len (l.getD (i) dUpd)) wr35_isz67) (oS rfl (Yk.clo (plain_do hF) (caps := #[]) (vr (fnV f) rfl) #[PQ n2 0, .agg (updC (l.getD (i) dUpd)).toArray] (by simp only [List.map_toArray, List.map_cons, List.map_nil, List.append_toArray, List.cons_append, List.nil_append]; exact congrArg List.toArray (list2 T3 (vr (.agg (updC (l.getD (i) dUpd)).toArray) rfl))) ((do_any w _ n2 z (hQ.keep hA97) hS (l.getD i dUpd) hF).mono ?_)))))))))))))))))
  rintro e w123 ⟨z1, ⟨rfl, hz1⟩, hR, hl1, hg1⟩
  refine ⟨_, rfl, ?_⟩
  have hE := row_fresh hE hg1 (Nat.le_trans (Nat.le_refl _) (by omega))
  have hb20 := kb hg1 hb20 (by omega)
  have hmp := MapF.other hmp hg1 (some_ne (by omega))
  clear hA97
  have hb102 := kb hg1 hb102 (by omega)
  refine oA rfl (oZ ?_)
  have hb124 := hR.blk
  have ho125 := hR.br
  have ho126 := hR.tg
  have ho127 := hR.lg
  have hap128 := OG.off ho125 hb20 (by decide)
  have hap129 := OG.off ho126 hb20 (by decide)
  have hap130 := OG.off ho127 hb20 (by decide)
  have hap131 := OG.offMap ho127 hmp
  have hap132 := OG.off ho125 hb102 (by decide)
  have hap133 := OG.off ho126 hb102 (by decide)
  have hap134 := OG.off ho127 hb102 (by decide)
  have hap135 := OG.off ho125 hb124 (by decide)
  have hap136 := OG.off ho126 hb124 (by decide)
  have hap137 := OG.off ho127 hb124 (by decide)
  have hap138 := OG.apart ho127 ho125 (by decide)
  have hap139 := OG.apart ho127 ho126 (by decide)
  clear hR
  refine tN (hK121 _ _ (sk fun K140 hK140 => (wt (oM rfl (oS rfl (Yk.eqI (a := ((doP z.1 (l.getD i dUpd)).1 : Nat)) (b := (0 : Nat)) rfl rfl (k_neq _ _ _ _) (oZ (tN (hK140 _ _ ?_)))))))))
  refine wpF_cond (((doP z.1 (l.getD i dUpd)).1 : Nat) ≠ (0)) (vr (.bool (decide (((doP z.1 (l.getD i dUpd)).1 : Nat) ≠ (0)))) rfl) (fun hc3 => ?_) (fun hc3 => ?_)
  ·have hD : (doP z.1 (l.getD i dUpd)).1 ≠ 0 := hc3
   refine sk fun K141 hK141 => (wt (oS rfl (Yk.run (v := .agg (refsC ((⟨[], [], [], zid, []⟩, ⟨.slice none 0 0, .slice none 0 0, .slice none 0 0⟩) : RefsV)).toArray) (by kernel_rfl) (oM rfl (oS rfl (Yk.storeAll T6 (vr (.agg (refsC ((⟨[], [], [], zid, []⟩, ⟨.slice none 0 0, .slice none 0 0, .slice none 0 0⟩) : RefsV)).toArray) rfl) hb20 (by simp only [List.size_toArray, refs_len]) (st_isz (refs_len _) wr35_isz53) (refs_one (x := ((⟨[], [], [], zid, []⟩, ⟨.slice none 0 0, .slice none 0 0, .slice none 0 0⟩) : RefsV)) rfl rfl rfl) fun w142 hb143 hg144 hs145 => ?_))))))
   have hE := row_fresh hE hg144 (Nat.le_trans hz18 (by omega))
   have hmp := MapF.other hmp hg144 (some_ne (by omega))
   have hb102 := kb hg144 hb102 (by omega)
   have hb124 := kb hg144 hb124 (by omega)
   have ho125 := OG.kept ho125 hg144 hap128
   have ho126 := OG.kept ho126 hg144 hap129
   have ho127 := OG.kept ho127 hg144 hap130
   clear hb20
   have hb20 : w142.heap[n10]? = some (.cells (refsC ((⟨[], [], [], zid, []⟩, ⟨.slice none 0 0, .slice none 0 0, .slice none 0 0⟩) : RefsV)).toArray 53 (0, 0)) := hb143; clear hb143
   have hl146 := bl hb20
   refine oA rfl (oZ (tN (hK141 _ _ (wpF_ret (thenF_ret (inBlockF_ret (thenF_ret (thenF_ret (inBlockF_ret (thenF_ret (postF_ret (fn := Tryd.f26) _ rfl [.agg (refsC ((⟨[], [], [], zid, []⟩, ⟨.slice none 0 0, .slice none 0 0, .slice none 0 0⟩) : RefsV)).toArray, NI ((doP z.1 (l.getD i dUpd)).1)] (.tuple #[.agg (refsC ((⟨[], [], [], zid, []⟩, ⟨.slice none 0 0, .slice none 0 0, .slice none 0 0⟩) : RefsV)).toArray, NI ((doP z.1 (l.getD i dUpd)).1)]) rfl ⟨ResF.row T6 hb20 (wr35_ty53).choose_spec rfl (st_isz (refs_len _) wr35_isz53), rfl, trivial⟩ ?_)))))))))))
   have hAp := applyP_err h0c (hrun.trans (runP_err2 hlt hU hD)) hD
   exact ⟨⟨.slice none 0 0, .slice none 0 0, .slice none 0 0⟩, by rw [hAp], by rw [hAp]; exact ⟨OG.nil _ _ _ _ _, OG.nil _ _ _ _ _, OG.nil _ _ _ _ _⟩, hE⟩
  have hD : (doP z.1 (l.getD i dUpd)).1 = 0 := by simpa using hc3
  refine wpF_skip (tN (hK120 _ _ (wt (oS rfl (Yk.fieldAt wr35_fo53_4 T3 (oS rfl (Yk.cell1 wr35_ty47 rfl (vr (PQ n2 35) rfl) (cellAt hb124 (show (refsC z1)[35]? = some (z1.2.log : Value) from refs_g4 z1)) (oS rfl (Yk.loadAll (vr (PQ n91 0) rfl) hb102 (wr35_ty67).choose_spec rfl (st_isz (upd_len (l.getD (i) dUpd)) wr35_isz67) (oM rfl (oS rfl (Yk.build2 (vr (.agg (updC (l.getD (i) dUpd)).toArray) rfl) T2 (fun w => (wr35_bdE _ (by rw [List.size_toArray]; exact upd_len _) _ w).trans (by rw [List.toList_toArray, entC_of])) (oS rfl (Yk.lit1G (a := (entOf (l.getD i dUpd) note)) (enc := entC) (vr (.agg (entC (entOf (l.getD i dUpd) note)).toArray) rfl) (ent_len _) wr35_lg47 fun v147 w148 hr149 hx150 => ?_))))))))))))))
  have hE := hE.trans hx150
  have hb20 := eb hx150 hb20
  have hmp := hmp.keep hx150
  have hb102 := eb hx150 hb102
  have hb124 := eb hx150 hb124
  have ho125 := ho125.keep hx150
  have ho126 := ho126.keep hx150
  have ho127 := ho127.keep hx150
  refine oS rfl (Yk.appendRG _ _ w.heap.size _ 104 wr35_ty47 wr35_ig122.choose_spec.1 wr35_ig122.choose_spec.2 wr35_ty47 (z1.1.log) ([(entOf (l.getD i dUpd) note)]) (OG.of ho127 (vr z1.2.log rfl)) (RG.of hr149 (vr v147 rfl)) (fun _ _ => ent_one) (by have h_ := congrArg (fun r => r.log.length) hz1; simp only [doP_log] at h_; simp only [List.length_cons, List.length_nil]; omega) (by have h_ := congrArg (fun r => r.log.length) hz1; simp only [doP_log] at h_; simp only [List.length_cons, List.length_nil]; omega) hE.size fun v151 w152 ho153 hg154 => ?_)
  have hg154 : Grew w148 w152 z1.2.log v151 := hg154
  have hap155 : OB v151 n10 := apart_grew hg154 hap130 (bl hb20)
  have hap156 : OB v151 gm := apart_grew hg154 hap131 hmp.lt
  have hap157 : OB v151 n91 := apart_grew hg154 hap134 (bl hb102)
  have hap158 : OB v151 n2 := apart_grew hg154 hap137 (bl hb124)
  have hap159 : ApartV v151 z1.2.branches := apartv_grew hg154 hap138 ho125.2
  have hap160 : ApartV z1.2.branches v151 := fun k h1 h2 => hap159 k h2 h1
  have hap161 : ApartV v151 z1.2.tags := apartv_grew hg154 hap139 ho126.2
  have hap162 : ApartV z1.2.tags v151 := fun k h1 h2 => hap161 k h2 h1
  have hE := ext_grew hE hg154 ho127.2 (Nat.le_refl _)
  have hb20 := blk_grew hb20 hg154 hap130
  have hmp := MapF.grew hmp hg154 hap131
  have hb102 := blk_grew hb102 hg154 hap134
  have hb124 := blk_grew hb124 hg154 hap137
  have ho125 := og_grew ho125 hg154 hap138
  have ho126 := og_grew ho126 hg154 hap139
  clear hr149
  clear ho127
  refine oS rfl (Yk.fieldAt wr35_fo53_4 T3 (oS rfl (Yk.storeC (i := 35) (v := v151) (vr (PQ n2 35) rfl) (vr v151 rfl) hb124 (by rw [refs_len]; decide) wr35_isz47 (RG.one (RG.ofOwn ho153)).1 (RG.one (RG.ofOwn ho153)).2 fun w163 hb164 hg165 hs166 => ?_)))
  have hE := row_fresh hE hg165 (Nat.le_trans (Nat.le_refl _) (by omega))
  have hb20 := kb hg165 hb20 (by omega)
  have hmp := MapF.other hmp hg165 (some_ne (by omega))
  have hb102 := kb hg165 hb102 (by omega)
  have ho125 := OG.kept ho125 hg165 hap135
  have ho126 := OG.kept ho126 hg165 hap136
  have ho153 := OG.kept ho153 hg165 hap158
  clear hb124
  have hb124 : w163.heap[n2]? = some (.cells (refsC ((⟨z1.1.branches, z1.1.tags, z1.1.head, z1.1.at_, (z1.1.log) ++ [(entOf (l.getD i dUpd) note)]⟩, ⟨z1.2.branches, z1.2.tags, v151⟩) : RefsV)).toArray 53 (0, 0)) := blk_eq hb164 (refs_s4 z1 v151 ((z1.1.log) ++ [(entOf (l.getD i dUpd) note)])); clear hb164
  have hl167 := bl hb124
  refine oZ (bN (tN (hK86 _ _ (wt (oS rfl (Yk.bin (xv := NI i) (yv := NI 1) T37 rfl rfl (i64_add _ _ _ (by omega)) (oM rfl (oL_ [(0, .agg (refsC z0).toArray), (1, lv), (2, St (note)), (3, PQ n2 0), (6, PQ n10 0), (8, .map (some gm)), (10, PQ n91 0), (11, NI (updErr (l.getD i dUpd))), (12, NI ((doP z.1 (l.getD i dUpd)).1)), (35, lv), (36, NI l.length), (37, NI ((i) + (1)))] ⟨T0, T1, T2, T3, T6, T8, rfl, rfl, rfl, T35, T36, rfl, trivial⟩ fun ρ168 ⟨T0, T1, T2, T3, T6, T8, T10, T11, T12, T35, T36, T37, _⟩ => ?_))))))))
  have ho169 : OG w.heap.size 70 33 nmdC w163 z1.2.branches (z1.1.branches) := ho125
  have ho170 : OG w.heap.size 70 33 nmdC w163 z1.2.tags (z1.1.tags) := ho126
  have ho171 : OG w.heap.size 122 67 entC w163 v151 ((z1.1.log) ++ [(entOf (l.getD i dUpd) note)]) := ho153
  have hP : AppAt w w163 n2 ((⟨z1.1.branches, z1.1.tags, z1.1.head, z1.1.at_, (z1.1.log) ++ [(entOf (l.getD i dUpd) note)]⟩, ⟨z1.2.branches, z1.2.tags, v151⟩) : RefsV) := ⟨hE, by omega, hb124, ho169, ho170, ho171, (OG.off ho169 hb124 (by decide)), (OG.off ho170 hb124 (by decide)), (OG.off ho171 hb124 (by decide)), OG.apart ho171 ho169 (by decide), OG.apart ho171 ho170 (by decide)⟩
  have hS2 : Sorted (addlog (doP z.1 (l.getD i dUpd)).2 (entOf (l.getD i dUpd) note)) := by have h_ := doP_sorted (y := (l.getD i dUpd)) hS; exact ⟨h_.br, h_.tg, h_.bl, h_.tl⟩
  have hlog2 : (addlog (doP z.1 (l.getD i dUpd)).2 (entOf (l.getD i dUpd) note)).log.length ≤ 64 + (i + 1) := by simp only [addlog, List.length_append, List.length_cons, List.length_nil, doP_log]; omega
  rw [← hz1] at hS2 hlog2
  refine tN (And.intro ⟨i + 1, ((⟨z1.1.branches, z1.1.tags, z1.1.head, z1.1.at_, (z1.1.log) ++ [(entOf (l.getD i dUpd) note)]⟩, ⟨z1.2.branches, z1.2.tags, v151⟩) : RefsV), T0, T1, T2, T3, T6, T8, T35, T36, T37, hE, hb20, hmp, hP, by omega, (hrun.trans (runP_next hlt hU hD)).trans (by rw [hz1]; rfl), hS2, hlog2, trivial⟩ ?_)
  show l.length - (intOf (ρ168 37)).toNat < l.length - (intOf (ρ82 37)).toNat
  rw [T37, q37]
  simp only [intOf, Int.toNat_natCast]; omega
 have hb172 := hQ.blk
 have ho173 := hQ.br
 have ho174 := hQ.tg
 have ho175 := hQ.lg
 have hap176 := OG.off ho173 hb20 (by decide)
 have hap177 := OG.off ho174 hb20 (by decide)
 have hap178 := OG.off ho175 hb20 (by decide)
 have hap179 := OG.offMap ho175 hmp
 have hap180 := OG.off ho173 hb172 (by decide)
 have hap181 := OG.off ho174 hb172 (by decide)
 have hap182 := OG.off ho175 hb172 (by decide)
 have hap183 := OG.apart ho175 ho173 (by decide)
 have hap184 := OG.apart ho175 ho174 (by decide)
 clear hQ
 refine wpF_exit (thenF_exit (thenF_exit (inBlockF_hit (tN (hK76 _ _ (sk fun K185 hK185 => (wt (oS rfl (Yk.fieldAt wr35_fo53_4 T3 (oS rfl (Yk.cell1 wr35_ty47 rfl (vr (PQ n2 35) rfl) (cellAt hb172 (show (refsC z)[35]? = some (z.2.log : Value) from refs_g4 z)) (oS rfl (Yk.fieldAt wr35_fo53_4 T3 (oS rfl (Yk.cell1 wr35_ty47 rfl (vr (PQ n2 35) rfl) (cellAt hb172 (show (refsC z)[35]? = some (z.2.log : Value) from refs_g4 z)) (oS rfl (Yk.lenRG wr35_ty47 (RG.of (RG.ofOwn ho175) (vr z.2.log rfl)) (oS rfl (Yk.bin (xv := .int .i64 ((((z.1.log).length : Nat) : Int))) (yv := .int .i64 (((64 : Nat) : Int))) rfl rfl rfl (zi_sub _ ((((z.1.log).length : Nat) : Int)) (((64 : Nat) : Int)) (by omega)) (oS rfl (Yk.maxNI (n := z.1.log.length) (m := 64) (vr (.int .i64 ((((((z.1.log).length : Nat) : Int)) - (((64 : Nat) : Int))) : Int)) rfl) (vr (NI 0) rfl) (oS rfl (Yk.sliceLoW wr35_ty47 wr35_szg122 (vr z.2.log rfl) (RG.ofOwn ho175) (vr (NI (z.1.log.length - 64)) rfl) (by omega) fun v186 hr187 ha188 => ?_)))))))))))))))))))))))
 have hz_ := hE.size
 refine oS rfl (Yk.callA1 wr35_pl75 (vr v186 rfl) ((cloneEnt_any _ v186 ((z.1.log).drop (z.1.log.length - 64)) hr187 (by rw [List.length_drop]; omega)).mono ?_))
 rintro e w192 ⟨v189, rfl, ho190, hx191⟩
 refine ⟨_, rfl, ?_⟩
 have hE := hE.trans hx191
 have hb20 := eb hx191 hb20
 have hmp := hmp.keep hx191
 have hb172 := eb hx191 hb172
 have ho173 := ho173.keep hx191
 have ho174 := ho174.keep hx191
 have ho175 := ho175.keep hx191
 have hr187 := hr187.keep hx191
 have ho190 := OG.low ho190 hz_
 have hap193 := OG.off ho190 hb172 (by decide)
 have hap194 := OG.off ho190 hb20 (by decide)
 refine oS rfl (Yk.fieldAt wr35_fo53_4 T3 (oS rfl (Yk.storeC (i := 35) (v := v189) (vr (PQ n2 35) rfl) (vr v189 rfl) hb172 (by rw [refs_len]; decide) wr35_isz47 (RG.one (RG.ofOwn ho190)).1 (RG.one (RG.ofOwn ho190)).2 fun w195 hb196 hg197 hs198 => ?_)))
 have hE := row_fresh hE hg197 (Nat.le_trans (Nat.le_refl _) (by omega))
 have hb20 := kb hg197 hb20 (by omega)
 have hmp := MapF.other hmp hg197 (some_ne (by omega))
 have ho173 := OG.kept ho173 hg197 hap180
 have ho174 := OG.kept ho174 hg197 hap181
 have ho175 := OG.kept ho175 hg197 hap182
 clear hr187
 have ho190 := OG.kept ho190 hg197 hap193
 clear hb172
 have hb172 : w195.heap[n2]? = some (.cells (refsC ((⟨z.1.branches, z.1.tags, z.1.head, z.1.at_, (z.1.log).drop (z.1.log.length - 64)⟩, ⟨z.2.branches, z.2.tags, v189⟩) : RefsV)).toArray 53 (0, 0)) := blk_eq hb196 (refs_s4 z v189 ((z.1.log).drop (z.1.log.length - 64))); clear hb196
 have hl199 := bl hb172
 refine oZ (tN (hK185 _ _ (sk fun K200 hK200 => (wt (oS rfl (Yk.loadAll T3 hb172 (wr35_ty53).choose_spec rfl (st_isz (refs_len ((⟨z.1.branches, z.1.tags, z.1.head, z.1.at_, (z.1.log).drop (z.1.log.length - 64)⟩, ⟨z.2.branches, z.2.tags, v189⟩) : RefsV)) wr35_isz53) (oS rfl (Yk.storeAll T6 (vr (.agg (refsC ((⟨z.1.branches, z.1.tags, z.1.head, z.1.at_, (z.1.log).drop (z.1.log.length - 64)⟩, ⟨z.2.branches, z.2.tags, v189⟩) : RefsV)).toArray) rfl) hb20 (by simp only [List.size_toArray, refs_len]) (st_isz (refs_len _) wr35_isz53) (refs_one (x := ((⟨z.1.branches, z.1.tags, z.1.head, z.1.at_, (z.1.log).drop (z.1.log.length - 64)⟩, ⟨z.2.branches, z.2.tags, v189⟩) : RefsV)) (RG.one (RG.ofOwn ho173)).2 (RG.one (RG.ofOwn ho174)).2 (RG.one (RG.ofOwn ho190)).2) fun w201 hb202 hg203 hs204 => ?_))))))))
 have hE := row_fresh hE hg203 (Nat.le_trans hz18 (by omega))
 have hmp := MapF.other hmp hg203 (some_ne (by omega))
 have ho173 := OG.kept ho173 hg203 hap176
 have ho174 := OG.kept ho174 hg203 hap177
 have ho175 := OG.kept ho175 hg203 hap178
 have ho190 := OG.kept ho190 hg203 hap194
 have hb172 := kb hg203 hb172 (by omega)
 clear hb20
 have hb20 : w201.heap[n10]? = some (.cells (refsC ((⟨z.1.branches, z.1.tags, z.1.head, z.1.at_, (z.1.log).drop (z.1.log.length - 64)⟩, ⟨z.2.branches, z.2.tags, v189⟩) : RefsV)).toArray 53 (0, 0)) := hb202; clear hb202
 have hl205 := bl hb20
 refine oA rfl (oZ (tN (hK200 _ _ (wpF_ret (postF_ret (fn := Tryd.f26) _ rfl [.agg (refsC ((⟨z.1.branches, z.1.tags, z.1.head, z.1.at_, (z.1.log).drop (z.1.log.length - 64)⟩, ⟨z.2.branches, z.2.tags, v189⟩) : RefsV)).toArray, NI 0] (.tuple #[.agg (refsC ((⟨z.1.branches, z.1.tags, z.1.head, z.1.at_, (z.1.log).drop (z.1.log.length - 64)⟩, ⟨z.2.branches, z.2.tags, v189⟩) : RefsV)).toArray, NI 0]) rfl ⟨ResF.row T6 hb20 (wr35_ty53).choose_spec rfl (st_isz (refs_len _) wr35_isz53), rfl, trivial⟩ ?_)))))
 have hAp := applyP_ok h0c (hrun.trans (runP_end (show l.length ≤ i by omega)))
 exact ⟨⟨z.2.branches, z.2.tags, v189⟩, by rw [hAp]; rfl, by rw [hAp]; exact ⟨ho173, ho174, ho190⟩, hE⟩
open Go.RowKit
section
variable {P : Program} {l : List Oper} {kill : Nat → List Nat} {C : Nat → World → Prop} {R : Nat → World → World → Prop} {Φ : Nat → Fact} {a0 : Act}
theorem tail_anyW {z : Nat} (g : Good l z) {k : Nat} (ht : ∀ i, k ≤ i → i < l.length → ∀ m, k ≤ m → m < i → ((masks l []).getD i 0).testBit m = true) {Q : Exit → Act → World → Prop} :
    ∀ (fuel m : Nat) (listed : Array Bool) (a : Act) (w : World), listed.size = l.length → (∀ i, On listed i ↔ i < m) → k ≤ m → m ≤ l.length → l.length ≤ m + fuel → wpList P l.toArray Q (l.drop m) a w → wpAny P .any l.toArray Q fuel listed a w := by
  have noReady : ∀ (m : Nat) (listed : Array Bool), listed.size = l.length → (∀ i, On listed i ↔ i < m) → l.length ≤ m → Region.ready .any l.toArray listed = [] := by
    intro m listed hsz hon hm
    cases hr : Region.ready .any l.toArray listed with
    | nil => rfl
    | cons x xs =>
      exfalso
      have hmem : x ∈ Region.ready .any l.toArray listed := by rw [hr]; simp
      obtain ⟨h1, o, ho, _⟩ := mem_ready.1 hmem
      have hx : x < l.length := by simpa using (Array.getElem?_eq_some_iff.1 ho).1
      have h2 := (hon x).2 (by omega)
      have hx' : x < listed.size := h2.lt
      unfold On at h2
      simp [hx'] at h1 h2
      rw [h1] at h2
      cases h2
  intro fuel
  induction fuel with
  | zero =>
    intro m listed a w hsz hon hk hm hf hw
    rw [List.drop_of_length_le (by omega)] at hw
    exact ⟨noReady m listed hsz hon (by omega), hw⟩
  | succ fuel ih =>
    intro m listed a w hsz hon hk hm hf hw
    by_cases hml : m = l.length
    · have hr := noReady m listed hsz hon (by omega)
      rw [List.drop_of_length_le (by omega)] at hw
      exact ⟨fun _ => hw, fun i hi => by rw [hr] at hi; cases hi⟩
    · have hlt : m < l.length := by omega
      have hoff : ¬ On listed m := fun x => by have := (hon m).1 x; omega
      have hI : Inv l (fun _ => []) (fun _ _ => True) (fun _ _ => True) (fun _ _ _ => True) a listed a w :=
        ⟨hsz, fun i o ho hi e he hb => (hon _).2 (by have := g.back i o ho e he hb; have := (hon i).1 hi; omega), rfl, rfl, fun _ _ _ => trivial, trivial, fun _ _ => rfl, fun _ _ _ _ _ _ _ _ => trivial⟩
      refine ⟨fun hr => ?_, fun i hi => ?_⟩
      · exfalso
        have ho : l[m]? = some l[m] := List.getElem?_eq_getElem hlt
        have : m ∈ Region.ready .any l.toArray listed := by
          refine mem_ready.2 ⟨?_, l[m], by rw [List.getElem?_toArray]; exact ho, fun e he hb => (hon _).2 (g.back m _ ho e he hb)⟩
          have hm' : m < listed.size := by omega
          unfold On at hoff
          simp [hm'] at hoff ⊢
          exact hoff
        rw [hr] at this
        cases this
      · obtain ⟨h1, o, ho, hall⟩ := mem_ready.1 hi
        have ho' : l[i]? = some o := by simpa using ho
        have hil : i < l.length := (List.getElem?_eq_some_iff.1 ho').1
        have hno : ¬ On listed i := fun x => by
          have hx : i < listed.size := by omega
          unfold On at x
          simp [hx] at h1 x
          rw [h1] at x
          cases x
        have him : i = m := by
          by_cases h2 : i < m
          · exact absurd ((hon i).2 h2) hno
          · by_cases h3 : i = m
            · exact h3
            · exact absurd (hI.maskReady ho' (fun e he hb => hall e he hb) (ht i (by omega) hil m hk (by omega))) hoff
        subst him
        rw [List.drop_eq_getElem_cons hlt] at hw
        obtain rfl : l[i] = o := by rw [List.getElem?_eq_getElem hlt] at ho'; exact Option.some.inj ho'
        have nxt : ∀ a' w', wpList P l.toArray Q (l.drop (i + 1)) a' w' → wpAny P .any l.toArray Q fuel (listed.setIfInBounds i true) a' w' := fun a' w' hw' =>
          ih (i + 1) _ a' w' (by simpa using hsz) (fun j => by rw [on_set (by omega), hon j]; omega) (by omega) (by omega) (by omega) hw'
        unfold wpOp
        simp only [List.getElem?_toArray, ho']
        unfold wpList at hw
        split at hw
        · rename_i hwt
          rw [if_pos hwt]
          exact hw.imp (fun h => Oper.wp_mono nxt h) (fun h => h)
        · rename_i hwt
          rw [if_neg hwt]
          exact nxt _ _ hw
end
def freeE (l : List Oper) (oe : Oper) (e : Nat) : Bool :=
  (List.range l.length).all fun j => match l[j]? with
    | some o => Nat.beq j e || (o.after.any (fun x => Region.binds .any x && x.on == e) || (oe.apart l.toArray o || ((masks l []).getD e 0).testBit j))
    | none => true
def tailE (l : List Oper) (k e : Nat) : Bool := Nat.blt e k && (List.range l.length).all fun i => Nat.blt i k || (List.range i).all fun m => Nat.beq m e || ((masks l []).getD i 0).testBit m
theorem tailE_iff {l : List Oper} {k e : Nat} (h : tailE l k e = true) : e < k ∧ ∀ i, k ≤ i → i < l.length → ∀ m, m < i → m ≠ e → ((masks l []).getD i 0).testBit m = true := by
  unfold tailE at h
  rw [Bool.and_eq_true] at h
  refine ⟨Nat.le_of_ble_eq_true h.1, fun i hi hl m hm hne => ?_⟩
  have h1 := List.all_eq_true.1 h.2 i (by simpa using hl)
  rcases Bool.or_eq_true _ _ ▸ h1 with h2 | h2
  · have := Nat.le_of_ble_eq_true h2
    omega
  · have h3 := List.all_eq_true.1 h2 m (by simpa using hm)
    rcases Bool.or_eq_true _ _ ▸ h3 with h4 | h4
    · exact absurd (Nat.eq_of_beq_eq_true h4) hne
    · exact h4
section
variable {P : Program} {l : List Oper} {Φ : Nat → Fact} {a0 : Act} {w0 : World} {Q : Exit → Act → World → Prop} {e k : Nat} {oe : Oper}
theorem extract_yields {dst : Option Tmp} {t : Tmp} {n : Nat} {ty : TypeId} {pos : String} {af : Array Edge} (he : l[e]? = some ⟨dst, .extract (.tmp t) n, ty, pos, af, none⟩) {K : Act → World → Prop} {a : Act} {w : World}
    (h : wpOp P l.toArray (fun _ _ _ => False) e K a w) : ∃ x, Yields P l.toArray ⟨dst, .extract (.tmp t) n, ty, pos, af, none⟩ x a ∧ K (a.put dst x) w := by
  unfold wpOp at h
  simp only [List.getElem?_toArray, he, Region.wanted, if_true] at h
  rcases h with h | ⟨-, -, -, h⟩
  · unfold Oper.wp at h
    have hr : ∀ v : Value, (∃ x, ∀ w : World, (Instr.extract v n).run P w = .ok x w) ∨ ∀ w : World, ∃ s, (Instr.extract v n).run P w = .halt (.stuck s) w := by
      intro v
      cases v with
      | tuple vs =>
        cases hx : vs[n]? with
        | some x => exact .inl ⟨x, fun w => by simp [Instr.extract, hx]⟩
        | none => exact .inr fun w => ⟨_, by simp only [Instr.extract, hx]; rfl⟩
      | _ => exact .inr fun w => ⟨_, by simp only [Instr.extract]; rfl⟩
    rcases hr (a.eval (.tmp t)) with ⟨x, hx⟩ | hx
    · have he : ∀ w : World, (execOp a.eval ⟨dst, .extract (.tmp t) n, ty, pos, af, none⟩).run P w = .ok (.value x) w := fun w => by
        unfold execOp
        simp only [Sem.run_bind, hx, Result.andThen_ok, Sem.run_pure]
      rw [he] at h
      exact ⟨x, .inl ⟨rfl, he⟩, h⟩
    · obtain ⟨s, hs⟩ := hx w
      have he : (execOp a.eval ⟨dst, .extract (.tmp t) n, ty, pos, af, none⟩).run P w = .halt (.stuck s) w := by
        unfold execOp
        simp only [Sem.run_bind, hs]
        rfl
      rw [he] at h
      exact h.elim
  · exact h.elim
theorem anyInvE (g : Good l a0.tmps.size) (hsel : Region.noSelect l.toArray = true) {d t : Tmp} {n : Nat} {ty : TypeId} {pos : String} {af : Array Edge} (he : l[e]? = some ⟨some d, .extract (.tmp t) n, ty, pos, af, none⟩)
    (hte : tailE l k e = true) (hfr : freeE l ⟨some d, .extract (.tmp t) n, ty, pos, af, none⟩ e = true) (hk : k ≤ l.length) (hst : ∀ i, Stab Ext (Φ i))
    (hs : ∀ i o, l[i]? = some o → i < k → StepOk P l (fun _ => Ext w0) (fun _ => Ext) Φ a0.tmps i o) (hQp : ∀ v c a w, Q (.panic c) (a.put (some d) v) w → Q (.panic c) a w)
    (hQ : ∀ listed a' w', (∀ i, On listed i ↔ i < k) → Inv l (fun _ => []) (fun _ => Ext w0) (fun _ _ => True) Φ a0 listed a' w' → wpList P l.toArray Q (l.drop k) a' w') :
    ∀ (fuel : Nat) (listed : Array Bool) (a : Act) (w : World), (listed.toList.filter (!·)).length = fuel → (∀ i, On listed i → i < k) → e ∉ Region.ready .any l.toArray listed → Inv l (fun _ => []) (fun _ => Ext w0) (fun _ _ => True) Φ a0 listed a w → wpAny P .any l.toArray Q fuel listed a w := by
  obtain ⟨hek, hte⟩ := tailE_iff hte
  have ht : ∀ i, k ≤ i → i < l.length → ∀ m, k ≤ m → m < i → ((masks l []).getD i 0).testBit m = true := fun i hi hl m hkm hm => hte i hi hl m hm (by omega)
  have hkl : killB l (fun _ => []) = true := by unfold killB; simp
  have hC : ∀ n m, n < l.length → m < l.length → n ≠ m → ((masks l []).getD n 0).testBit m = false → ∀ w w', Ext w0 w → Ext w w' → Ext w0 w' := fun _ _ _ _ _ _ _ _ hc hr => hc.trans hr
  have hE : ∀ n listed (w w' : World), n < l.length → listed.size = l.length → ¬ On listed n → (∀ i k, On listed i ∨ i = n → ((masks l []).getD i 0).testBit k = true → On listed k) → True → Ext w w' → True := fun _ _ _ _ _ _ _ _ _ _ => trivial
  have hΦ : ∀ n i, n < l.length → i < l.length → i ∉ ([] : List Nat) → i ≠ n → ((masks l []).getD i 0).testBit n = false → ∀ v w w', Φ i v w → Ext w w' → Φ i v w' := fun _ i _ _ _ _ _ v w w' => hst i v w w'
  have hRr : ∀ (n : Nat) o (w : World), l[n]? = some o → o.guard.isSome = true → Ext w w := fun _ _ w _ _ => Ext.refl w
  intro fuel
  induction fuel using Nat.strongRecOn with
  | _ fuel ih =>
  intro listed a w hf hoff hre h
  by_cases hfull : ∀ i, i < k → On listed i
  · have hon : ∀ i, On listed i ↔ i < k := fun i => ⟨hoff i, hfull i⟩
    refine tail_anyW g ht fuel k listed a w h.size hon (Nat.le_refl _) hk ?_ (hQ listed a w hon h)
    have e1 := List.take_append_drop k listed.toList
    rw [← e1, List.filter_append, List.length_append] at hf
    have e2 : (listed.toList.drop k).filter (!·) = listed.toList.drop k := List.filter_eq_self.2 fun b hb => by
      obtain ⟨j, hj, rfl⟩ := List.getElem_of_mem hb
      rw [List.getElem_drop]
      have hno : ¬ On listed (k + j) := fun x => by have := hoff _ x; omega
      rw [List.length_drop] at hj
      have hlt : k + j < listed.size := by rw [← Array.length_toList]; omega
      unfold On at hno
      simp [hlt] at hno
      simp [hno]
    rw [e2, List.length_drop] at hf
    have hz : listed.toList.length = l.length := by rw [Array.length_toList]; exact h.size
    omega
  · have hunl : ∀ i, i < l.length → ¬ On listed i → listed.getD i true = false := fun i hi hno => by
      have hi' : i < listed.size := by rw [h.size]; exact hi
      unfold On at hno
      simp [hi'] at hno ⊢
      exact hno
    have hlow : ∃ j, j < k ∧ j ≠ e ∧ ¬ On listed j := by
      refine Classical.byContradiction fun hn => hfull fun i hi => Classical.byContradiction fun hx => ?_
      have hall : ∀ j, j < k → j ≠ e → On listed j := fun j hj hje => Classical.byContradiction fun hx => hn ⟨j, hj, hje, hx⟩
      have hie : i = e := Classical.byContradiction fun hne => hx (hall i hi hne)
      subst hie
      refine hre (mem_ready.2 ⟨hunl i (by omega) hx, _, by rw [List.getElem?_toArray]; exact he, fun x hxm hb => ?_⟩)
      have := g.back i _ he x hxm hb
      exact hall x.on (by omega) (by omega)
    obtain ⟨j0, hj0, hj0e, hoff0⟩ := hlow
    have hpos : ∀ (L : Array Bool) i, L.size = l.length → i < l.length → L.getD i true = false → ∃ m, (L.toList.filter (!·)).length = m + 1 ∧ ((L.setIfInBounds i true).toList.filter (!·)).length = m := fun L i hL hi hx => by
      have hi' : i < L.size := by omega
      have := count_set L.toList i (by simp [hi'] at hx; simp [hi', hx])
      exact ⟨_, this.symm, by rw [Array.toList_setIfInBounds]⟩
    obtain ⟨f0, hf0, -⟩ := hpos listed j0 h.size (by omega) (hunl j0 (by omega) hoff0)
    obtain rfl : fuel = f0 + 1 := by omega
    refine ⟨fun hr => ?_, fun i hi => ?_⟩
    · exfalso
      have full : ∀ i, i < l.length → On listed i := by
        intro i
        induction i using Nat.strongRecOn with
        | _ i ih2 =>
          intro hi
          refine Classical.byContradiction fun hno => ?_
          have ho : l[i]? = some l[i] := List.getElem?_eq_getElem hi
          have : i ∈ Region.ready .any l.toArray listed := mem_ready.2 ⟨hunl i hi hno, l[i], by rw [List.getElem?_toArray]; exact ho, fun x hx hb => by
            have hlt := g.back i _ ho x hx hb
            exact ih2 x.on hlt (by omega)⟩
          rw [hr] at this
          cases this
      exact hoff0 (full j0 (by omega))
    · have hie : i ≠ e := fun x => hre (x ▸ hi)
      obtain ⟨h1, o, ho, hall0⟩ := mem_ready.1 hi
      have ho' : l[i]? = some o := by simpa using ho
      have hilt : i < l.length := (List.getElem?_eq_some_iff.1 ho').1
      have hil : i < listed.size := by rw [h.size]; exact hilt
      have hno : ¬ On listed i := by
        unfold On
        simp [hil] at h1 ⊢
        exact h1
      have hall : ∀ x ∈ o.after, Region.binds .any x = true → On listed x.on := fun x hx hb => hall0 x hx hb
      have hik : i < k := by
        by_cases h2 : i < k
        · exact h2
        · exact absurd (h.maskReady ho' hall (hte i (by omega) hilt j0 (by omega) hj0e)) hoff0
      obtain ⟨f1, hf1, hcnt⟩ := hpos listed i h.size hilt h1
      obtain rfl : f1 = f0 := by omega
      refine h.step g hkl hC hE hΦ hRr ho' hno hall (hs i o ho' hik) fun a' w' h' => ?_
      have hoff' : ∀ j, On (listed.setIfInBounds i true) j → j < k := fun j hx => by
        rcases (on_set hil).1 hx with rfl | h3
        · exact hik
        · exact hoff j h3
      by_cases hre' : e ∈ Region.ready .any l.toArray (listed.setIfInBounds i true)
      · obtain ⟨q1, oe', hoe, hq⟩ := mem_ready.1 hre'
        have hoe' : l[e]? = some oe' := by simpa using hoe
        obtain rfl := Option.some.inj (he.symm.trans hoe')
        have helt : e < l.length := by omega
        have hel : e < (listed.setIfInBounds i true).size := by rw [h'.size]; exact helt
        have hnoe : ¬ On (listed.setIfInBounds i true) e := by
          unfold On
          rw [Array.getD_eq_getD_getElem?] at q1 ⊢
          rw [Array.getElem?_eq_getElem hel] at q1 ⊢
          simp only [Option.getD_some] at q1 ⊢
          rw [q1]
          decide
        have hw := h'.step g hkl hC hE hΦ hRr he hnoe (fun x hx hb => hq x hx hb) (hs e _ he hek) (K := fun a2 w2 => Inv l (fun _ => []) (fun _ => Ext w0) (fun _ _ => True) Φ a0 ((listed.setIfInBounds i true).setIfInBounds e true) a2 w2) (Q := fun _ _ _ => False) (fun _ _ hx => hx)
        obtain ⟨x, hy, hK⟩ := extract_yields he hw
        obtain ⟨f2, hf2, hcnt2⟩ := hpos _ e h'.size helt q1
        obtain rfl : f1 = f2 + 1 := by omega
        refine wpAny_first hoe (Region.noSelect_spec hsel) (hQp x) f2 _ a' w' (fun j oj hoj hje hjun hjno => ?_) hre' hy (ih f2 (by omega) _ _ _ hcnt2 (fun j hx => ?_) (fun hx => ?_) hK)
        · have hoj' : l[j]? = some oj := by simpa using hoj
          have hjl : j < l.length := (List.getElem?_eq_some_iff.1 hoj').1
          have hfj := List.all_eq_true.1 hfr j (by simpa using hjl)
          rw [hoj'] at hfj
          simp only [Bool.or_eq_true] at hfj
          rcases hfj with h3 | h3 | h3 | h3
          · exact absurd (Nat.eq_of_beq_eq_true h3) hje
          · obtain ⟨y, hy1, hy2⟩ := Array.any_eq_true'.1 h3
            simp only [Bool.and_eq_true, beq_iff_eq] at hy2
            exact absurd hy2.2 (hjno y hy1 hy2.1)
          · exact h3
          · have hon := h'.maskReady he (fun x hx hb => hq x hx hb) h3
            have hjl' := hon.lt
            unfold On at hon
            rw [Array.getD_eq_getD_getElem?, Array.getElem?_eq_getElem hjl'] at hon hjun
            simp only [Option.getD_some] at hon hjun
            rw [hon] at hjun
            cases hjun
        · rcases (on_set hel).1 hx with rfl | h3
          · exact hek
          · exact hoff' j h3
        · have := (mem_ready.1 hx).1
          simp [hel] at this
      · exact ih f1 (by omega) _ _ _ hcnt hoff' hre' h'
end
section
variable {P : Program} {n : Nat} {ρ : Slots} {w : World} {Q : PostF}
theorem wpF_draw_late {l r : List Oper} (e k0 : Nat) (Φs : List Fact) {id : Nat} (hm : P.follows .mixedOrders = true) (ds : List Tmp) (hg : goodB l n = true) {d t : Tmp} {m : Nat} {ty : TypeId} {pos : String} {af : Array Edge} (he : l[e]? = some ⟨some d, .extract (.tmp t) m, ty, pos, af, none⟩) (hsel : Region.noSelect l.toArray = true)
    (hn : tailE l k0 e = true) (hfr : freeE l ⟨some d, .extract (.tmp t) m, ty, pos, af, none⟩ e = true) (haf : af.any (fun x => Region.binds .any x) = true) (hk0 : Nat.ble Φs.length k0 = true) (hds : slotsW l = ds) (hr : (l.drop k0) = r) (hlt : Nat.blt k0 l.length = true) (hst : AllStab Ext Φs)
    (hQp : ∀ c ρ ρ' w, Q (.panic c) ρ w → Q (.panic c) ρ' w)
    (hs : StepsFC P l k0 (fun _ => Ext w) (fun _ => Ext) (facts Φs) ρ 0 l)
    (hQ : ∀ (ρ' : Slots) w1, Ext w w1 → EndF ds ρ ρ' → EndFacts l (fun _ => []) (facts Φs) ρ' w1 ds → opsF P l.toArray n Q r ρ' w1) : wpF P n (.region id l.toArray true) Q ρ w := by
  intro a ha
  obtain ⟨T, df⟩ := a
  have hz : T.size = n := ha.size
  subst hz
  have hk1 : k0 < l.length := Nat.le_of_ble_eq_true hlt
  have g := good_of hg
  have hno0 : ∀ i, ¬ On (Array.replicate l.toArray.size false) i := fun i h => by
    unfold On at h
    rw [Array.getD_eq_getD_getElem?, Array.getElem?_replicate] at h
    split at h <;> simp at h
  refine wp_region_any hm (anyInvE (a0 := { tmps := T, defers := df }) (w0 := w) (Φ := facts Φs) g hsel he hn hfr (Nat.le_of_lt hk1) (fun i => hst.get Φs i) (fun i o ho hi => ?_) (fun v c a' w' hx => ?_) (fun listed a' w' hon h => ?_) _ _ _ _ (by simp) (fun i h => absurd h (hno0 i)) ?_ ?_)
  · have hst := StepsFC.get l 0 hs i o ho (by omega)
    rw [Nat.zero_add] at hst
    have h2 := StepsF.ok (P := P) (l := l) (C := fun _ => Ext w) (R := fun _ => Ext) (Φ := facts Φs) (T := T) ha.get [o] i ⟨hst, trivial⟩
    exact h2.1
  · obtain ⟨ρ', hf, hq⟩ := hx
    exact ⟨fun t => a'.tmps.getD t undef, ⟨by have := hf.size; simpa [Act.put] using this, by have := hf.defers; simpa [Act.put] using this, fun _ => rfl⟩, hQp _ _ _ _ hq⟩
  · have hw : ∀ d k, writer l d l.length = some k → (List.range l.length).all (fun n => !([] : List Nat).contains k) = true → facts Φs k (a'.tmps.getD d undef) w' := fun d k hk hall => by
      obtain ⟨h1, ⟨o, ho, hd'⟩, h3⟩ := writer_some _ hk
      by_cases hkL : k0 ≤ k
      · have e : facts Φs k = fun _ _ => True := by
          have := Nat.le_of_ble_eq_true hk0
          unfold facts
          rw [List.getD_eq_getElem?_getD, List.getElem?_eq_none (by omega)]
          rfl
        rw [e]
        trivial
      exact h.new d k o ho hd' ((hon k).2 (by omega)) (fun k' o' hkk ho' hd'' _ => h3 k' o' hkk (List.getElem?_eq_some_iff.1 ho').1 ho' hd'') (fun n hn => by simp)
    have hget : ∀ t, a'.tmps.getD t undef = if t ∈ ds then a'.tmps.getD t undef else ρ t := fun t => by
      by_cases hn : t ∈ ds
      · rw [if_pos hn]
      · rw [if_neg hn, ← ha.get]
        exact h.old t fun k o ho hd _ => hn (by
          rw [← hds]
          unfold slotsW
          rw [List.mem_eraseDups, List.mem_filterMap]
          exact ⟨o, List.mem_of_getElem? ho, hd⟩)
    have hcl := h.cls k0 hk1 (fun x => by have := (hon k0).1 x; omega)
    have hend : EndF ds ρ (fun t => a'.tmps.getD t undef) := ⟨fun t ht => by rw [hget t, if_neg (by simpa using ht)]⟩
    have := hQ (fun t => a'.tmps.getD t undef) w' hcl hend (endFacts_of hw ds)
    rw [hr]
    exact this a' ⟨h.tmps, h.defers.trans ha.defers, fun t => rfl⟩
  · intro hx
    obtain ⟨-, o, ho, hall⟩ := mem_ready.1 hx
    obtain rfl := Option.some.inj (he.symm.trans (by simpa using ho))
    obtain ⟨x, hx1, hx2⟩ := Array.any_eq_true'.1 haf
    exact hno0 _ (hall x hx1 hx2)
  · exact ⟨Array.size_replicate, fun i o _ h => absurd h (hno0 i), rfl, rfl, fun n hn _ => (Below.refl _ _).drew, trivial, fun t _ => rfl, fun t k o _ _ h => absurd h (hno0 k)⟩
end
open Go.RowKit
set_option maxRecDepth 100000
theorem apply_to {w : World} {z : RefsV} {lv : Value} {l : List Upd} {note : Bs} {R : Refs} {n : Nat} (hA : applyP z.1 l note = (n, R)) (hm : RefsAt w z) (hL : RefsLt z.1) (hr : RG 66 updC w lv l) (hl : l.length ≤ 1000) (hln : ∀ u ∈ l, u.name.length ≤ 9223372036854775807) :
  Calls Tryd.prog 26 #[.agg (refsC z).toArray, lv, St note] w fun e w' => ∃ v, e = .returned (.tuple #[.agg (refsC (R, v)).toArray, NI n]) ∧ RefsOw w.heap.size w' (R, v) ∧ Ext w w' := by
 have h := apply20_any w z hm hL lv l hr hl hln note
 rw [hA] at h
 exact h
theorem look_to {w : World} {z : RefsV} {i : Id32} {n : Nat} (hA : look0P z.1 = (i, n)) (hm : RefsAt w z) (hL : RefsLt z.1) :
  Calls Tryd.prog 39 #[.agg (refsC z).toArray, St []] w fun e w' => e = .returned (.tuple #[AB i.1, NI n]) ∧ Ext w w' := by
 have h := look0_any w z hm hL
 rw [hA] at h
 exact h
theorem begin_lt : RefsLt beginV.1 := ⟨by decide, by decide, by decide, by decide, by decide, by decide⟩
theorem r1_lt : RefsLt r1 := ⟨by decide, by decide, by decide, by decide, by decide, by decide⟩
theorem wr37_bs67_0_1_3h (z0 : Int) (z1 : ByteArray) (c3_0 c3_1 c3_2 c3_3 c3_4 c3_5 c3_6 c3_7 c3_8 c3_9 c3_10 c3_11 c3_12 c3_13 c3_14 c3_15 c3_16 c3_17 c3_18 c3_19 c3_20 c3_21 c3_22 c3_23 c3_24 c3_25 c3_26 c3_27 c3_28 c3_29 c3_30 c3_31 : Value) (w : World) : (Instr.build 67 #[(0, .int .u8 z0), (1, .string z1), (3, .agg #[c3_0, c3_1, c3_2, c3_3, c3_4, c3_5, c3_6, c3_7, c3_8, c3_9, c3_10, c3_11, c3_12, c3_13, c3_14, c3_15, c3_16, c3_17, c3_18, c3_19, c3_20, c3_21, c3_22, c3_23, c3_24, c3_25, c3_26, c3_27, c3_28, c3_29, c3_30, c3_31])]).run Tryd.prog w = .ok (.agg #[.int .u8 z0, .string z1, .int .u8 0, .int .u8 0, .int .u8 0, .int .u8 0, .int .u8 0, .int .u8 0, .int .u8 0, .int .u8 0, .int .u8 0, .int .u8 0, .int .u8 0, .int .u8 0, .int .u8 0, .int .u8 0, .int .u8 0, .int .u8 0, .int .u8 0, .int .u8 0, .int .u8 0, .int .u8 0, .int .u8 0, .int .u8 0, .int .u8 0, .int .u8 0, .int .u8 0, .int .u8 0, .int .u8 0, .int .u8 0, .int .u8 0, .int .u8 0, .int .u8 0, .int .u8 0, c3_0, c3_1, c3_2, c3_3, c3_4, c3_5, c3_6, c3_7, c3_8, c3_9, c3_10, c3_11, c3_12, c3_13, c3_14, c3_15, c3_16, c3_17, c3_18, c3_19, c3_20, c3_21, c3_22, c3_23, c3_24, c3_25, c3_26, c3_27, c3_28, c3_29, c3_30, c3_31]) w := by kernel_rfl
theorem wr37_bs67_0_1_3 (z0 : UInt8) (z1 : List UInt8) (z3 : Id32) (w : World) : (Instr.build 67 #[(0, B8 z0), (1, St z1), (3, AB z3.1)]).run Tryd.prog w = .ok (.agg (B8 (z0) :: (St (z1) :: (Lib.byteCells zid.1 ++ (Lib.byteCells z3.1)))).toArray) w := by
 obtain ⟨z3, k3⟩ := z3
 obtain ⟨a3_0, a3_1, a3_2, a3_3, a3_4, a3_5, a3_6, a3_7, a3_8, a3_9, a3_10, a3_11, a3_12, a3_13, a3_14, a3_15, a3_16, a3_17, a3_18, a3_19, a3_20, a3_21, a3_22, a3_23, a3_24, a3_25, a3_26, a3_27, a3_28, a3_29, a3_30, a3_31, rfl⟩ := list32 k3
 exact wr37_bs67_0_1_3h _ _ _ _ _ _ _ _ _ _ _ _ _ _ _ _ _ _ _ _ _ _ _ _ _ _ _ _ _ _ _ _ _ _ w
theorem wr37_al67 {d : Option Tmp} {ty : TypeId} {pos : String} {af : Array Edge} {gd : Option (Nat × Bool)} (σ : Operand → Value) (w : World) : (execOp σ ⟨d, .alloc 67, ty, pos, af, gd⟩).run Tryd.prog w = .ok (.value (PQ w.heap.size 0)) (w.alloc (.cells (updC (⟨0, [], zid, zid⟩ : Upd)).toArray 67)) := by kernel_rfl
theorem wr37_isz67 : (Tryd.prog.info? 67).map (·.size) = some 66 := by kernel_rfl
theorem wr37_pl33 : Plain Tryd.prog 33 := fun _ _ => by kernel_rfl
theorem wr37_ty67 : ∃ fs, Tryd.prog.underlying 67 = some (.struct fs) := struct_of (by kernel_rfl)
theorem wr37_lh22 (c0 c1 c2 c3 c4 c5 c6 c7 c8 c9 c10 c11 c12 c13 c14 c15 c16 c17 c18 c19 c20 c21 c22 c23 c24 c25 c26 c27 c28 c29 c30 c31 c32 c33 c34 c35 c36 c37 c38 c39 c40 c41 c42 c43 c44 c45 c46 c47 c48 c49 c50 c51 c52 c53 c54 c55 c56 c57 c58 c59 c60 c61 c62 c63 c64 c65 : Value) (w : World) : (Instr.buildSlice 22 1 #[(0, .agg #[c0, c1, c2, c3, c4, c5, c6, c7, c8, c9, c10, c11, c12, c13, c14, c15, c16, c17, c18, c19, c20, c21, c22, c23, c24, c25, c26, c27, c28, c29, c30, c31, c32, c33, c34, c35, c36, c37, c38, c39, c40, c41, c42, c43, c44, c45, c46, c47, c48, c49, c50, c51, c52, c53, c54, c55, c56, c57, c58, c59, c60, c61, c62, c63, c64, c65])]).run Tryd.prog w = .ok (.slice (some ⟨w.heap.size, 0, none⟩) 1 1) (w.alloc (.cells #[c0, c1, c2, c3, c4, c5, c6, c7, c8, c9, c10, c11, c12, c13, c14, c15, c16, c17, c18, c19, c20, c21, c22, c23, c24, c25, c26, c27, c28, c29, c30, c31, c32, c33, c34, c35, c36, c37, c38, c39, c40, c41, c42, c43, c44, c45, c46, c47, c48, c49, c50, c51, c52, c53, c54, c55, c56, c57, c58, c59, c60, c61, c62, c63, c64, c65] 67)) := by kernel_rfl
theorem wr37_lg22 : ∀ (cs : Array Value), cs.size = 66 → ∀ w : World, (Instr.buildSlice 22 1 #[(0, .agg cs)]).run Tryd.prog w = .ok (.slice (some ⟨w.heap.size, 0, none⟩) 1 1) (w.alloc (.cells cs 67))
 | ⟨c0 :: c1 :: c2 :: c3 :: c4 :: c5 :: c6 :: c7 :: c8 :: c9 :: c10 :: c11 :: c12 :: c13 :: c14 :: c15 :: c16 :: c17 :: c18 :: c19 :: c20 :: c21 :: c22 :: c23 :: c24 :: c25 :: c26 :: c27 :: c28 :: c29 :: c30 :: c31 :: c32 :: c33 :: c34 :: c35 :: c36 :: c37 :: c38 :: c39 :: c40 :: c41 :: c42 :: c43 :: c44 :: c45 :: c46 :: c47 :: c48 :: c49 :: c50 :: c51 :: c52 :: c53 :: c54 :: c55 :: c56 :: c57 :: c58 :: c59 :: c60 :: c61 :: c62 :: c63 :: c64 :: c65 :: []⟩, _, w => wr37_lh22 c0 c1 c2 c3 c4 c5 c6 c7 c8 c9 c10 c11 c12 c13 c14 c15 c16 c17 c18 c19 c20 c21 c22 c23 c24 c25 c26 c27 c28 c29 c30 c31 c32 c33 c34 c35 c36 c37 c38 c39 c40 c41 c42 c43 c44 c45 c46 c47 c48 c49 c50 c51 c52 c53 c54 c55 c56 c57 c58 c59 c60 c61 c62 c63 c64 c65 w
theorem wr37_pl26 : Plain Tryd.prog 26 := fun _ _ => by kernel_rfl
theorem wr37_al53 {d : Option Tmp} {ty : TypeId} {pos : String} {af : Array Edge} {gd : Option (Nat × Bool)} (σ : Operand → Value) (w : World) : (execOp σ ⟨d, .alloc 53, ty, pos, af, gd⟩).run Tryd.prog w = .ok (.value (PQ w.heap.size 0)) (w.alloc (.cells (refsC ((⟨[], [], [], zid, []⟩, ⟨.slice none 0 0, .slice none 0 0, .slice none 0 0⟩) : RefsV)).toArray 53)) := by kernel_rfl
theorem wr37_isz53 : (Tryd.prog.info? 53).map (·.size) = some 36 := by kernel_rfl
theorem wr37_ty53 : ∃ fs, Tryd.prog.underlying 53 = some (.struct fs) := struct_of (by kernel_rfl)
theorem wr37_pl39 : Plain Tryd.prog 39 := fun _ _ => by kernel_rfl
theorem wr37_al25 {d : Option Tmp} {ty : TypeId} {pos : String} {af : Array Edge} {gd : Option (Nat × Bool)} (σ : Operand → Value) (w : World) : (execOp σ ⟨d, .alloc 25, ty, pos, af, gd⟩).run Tryd.prog w = .ok (.value (PQ w.heap.size 0)) (w.alloc (.cells (Lib.byteCells (List.replicate 32 0)).toArray 25)) := by kernel_rfl
theorem wr37_bs67_0_1_2h (z0 : Int) (z1 : ByteArray) (c2_0 c2_1 c2_2 c2_3 c2_4 c2_5 c2_6 c2_7 c2_8 c2_9 c2_10 c2_11 c2_12 c2_13 c2_14 c2_15 c2_16 c2_17 c2_18 c2_19 c2_20 c2_21 c2_22 c2_23 c2_24 c2_25 c2_26 c2_27 c2_28 c2_29 c2_30 c2_31 : Value) (w : World) : (Instr.build 67 #[(0, .int .u8 z0), (1, .string z1), (2, .agg #[c2_0, c2_1, c2_2, c2_3, c2_4, c2_5, c2_6, c2_7, c2_8, c2_9, c2_10, c2_11, c2_12, c2_13, c2_14, c2_15, c2_16, c2_17, c2_18, c2_19, c2_20, c2_21, c2_22, c2_23, c2_24, c2_25, c2_26, c2_27, c2_28, c2_29, c2_30, c2_31])]).run Tryd.prog w = .ok (.agg #[.int .u8 z0, .string z1, c2_0, c2_1, c2_2, c2_3, c2_4, c2_5, c2_6, c2_7, c2_8, c2_9, c2_10, c2_11, c2_12, c2_13, c2_14, c2_15, c2_16, c2_17, c2_18, c2_19, c2_20, c2_21, c2_22, c2_23, c2_24, c2_25, c2_26, c2_27, c2_28, c2_29, c2_30, c2_31, .int .u8 0, .int .u8 0, .int .u8 0, .int .u8 0, .int .u8 0, .int .u8 0, .int .u8 0, .int .u8 0, .int .u8 0, .int .u8 0, .int .u8 0, .int .u8 0, .int .u8 0, .int .u8 0, .int .u8 0, .int .u8 0, .int .u8 0, .int .u8 0, .int .u8 0, .int .u8 0, .int .u8 0, .int .u8 0, .int .u8 0, .int .u8 0, .int .u8 0, .int .u8 0, .int .u8 0, .int .u8 0, .int .u8 0, .int .u8 0, .int .u8 0, .int .u8 0]) w := by kernel_rfl
theorem wr37_bs67_0_1_2 (z0 : UInt8) (z1 : List UInt8) (z2 : Id32) (w : World) : (Instr.build 67 #[(0, B8 z0), (1, St z1), (2, AB z2.1)]).run Tryd.prog w = .ok (.agg (B8 (z0) :: (St (z1) :: (Lib.byteCells z2.1 ++ (Lib.byteCells zid.1)))).toArray) w := by
 obtain ⟨z2, k2⟩ := z2
 obtain ⟨a2_0, a2_1, a2_2, a2_3, a2_4, a2_5, a2_6, a2_7, a2_8, a2_9, a2_10, a2_11, a2_12, a2_13, a2_14, a2_15, a2_16, a2_17, a2_18, a2_19, a2_20, a2_21, a2_22, a2_23, a2_24, a2_25, a2_26, a2_27, a2_28, a2_29, a2_30, a2_31, rfl⟩ := list32 k2
 exact wr37_bs67_0_1_2h _ _ _ _ _ _ _ _ _ _ _ _ _ _ _ _ _ _ _ _ _ _ _ _ _ _ _ _ _ _ _ _ _ _ w
theorem wr37_ty25 : Tryd.prog.underlying 25 = some (.array 32 5) := by kernel_rfl
theorem wr37_eg25 : Tryd.prog.eqGuardType Tryd.prog.depth 25 = false := by kernel_rfl
theorem wr37_ty5 : Tryd.prog.underlying 5 = some (.int .u8) := by kernel_rfl
theorem wr37_sz5 : ∀ w' : World, (sizeOf 5).run Tryd.prog w' = .ok 1 w' := fun _ => by kernel_rfl
theorem wr37_fo53_4 : FieldOff Tryd.prog 53 4 35 := fun b o w => by simp [go_sem]
theorem wr37_ty47 : Tryd.prog.underlying 47 = some (.slice 122) := by kernel_rfl
set_option maxHeartbeats 1600000
theorem awake20 (w : World) :
  Calls Tryd.prog 35 #[] w fun e w' => e = .returned (.bool true) ∧ Ext w w' := by
 refine calls_of_wpF (args := []) Tryd.func35 rfl 64 rfl (Nat.le_of_ble_eq_true rfl) ?_
 intro ρ0 hb
 clear hb
 have hE := Ext.refl w
 refine sk fun K1 hK1 => (wt (oA rfl (oZ (tN (hK1 _ _ (sk fun K2 hK2 => (wt (oS rfl (Yk.run (v := AB id1.1) (by kernel_rfl) (oS rfl (Yk.build3 (vr (B8 (1)) rfl) (vr (St (([109, 97, 105, 110] : List UInt8))) rfl) (vr (AB id1.1) rfl) (fun w => wr37_bs67_0_1_3 1 ([109, 97, 105, 110] : List UInt8) id1 w) (oS rfl (Yk.alloc (cs := (updC (⟨0, [], zid, zid⟩ : Upd)).toArray) wr37_al67 fun n3 w4 hn5 hb6 hx7 hs8 => ?_)))))))))))))
 have hE := hE.trans hx7
 have hb9 := hb6; clear hb6
 have hl10 : n3 < w4.heap.size := by omega
 refine oS rfl (Yk.storeAll (vr (PQ n3 0) rfl) (vr (.agg (updC (⟨1, ([109, 97, 105, 110] : List UInt8), zid, id1⟩ : Upd)).toArray) rfl) hb9 (by simp only [List.size_toArray, upd_len]) (st_isz (upd_len _) wr37_isz67) (upd_one (x := (⟨1, ([109, 97, 105, 110] : List UInt8), zid, id1⟩ : Upd))) fun w11 hb12 hg13 hs14 => ?_)
 have hE := row_fresh hE hg13 (Nat.le_trans (Nat.le_refl _) (by omega))
 clear hb9
 have hb9 : w11.heap[n3]? = some (.cells (updC (⟨1, ([109, 97, 105, 110] : List UInt8), zid, id1⟩ : Upd)).toArray 67 (0, 0)) := hb12; clear hb12
 have hl15 := bl hb9
 refine oZ (tN (hK2 _ _ (sk fun K16 hK16 => ?_)))
 have hA17 := Ext.refl w11
 have hea18 := hE
 have hz19 := hE.size
 have hlt20 : n3 < w11.heap.size := (bl hb9)
 refine wpF_draw_late 6 8 [Is (.agg (refsC beginV).toArray), Is (.agg (updC (⟨1, ([109, 97, 105, 110] : List UInt8), zid, id1⟩ : Upd)).toArray), fun x w' => RG 66 (updC) w' x ([(⟨1, ([109, 97, 105, 110] : List UInt8), zid, id1⟩ : Upd)]), fun x w' => ∃ v, x = .tuple #[.agg (refsC (r1, v)).toArray, NI 0] ∧ RefsOw 0 w' (r1, v), fun x w' => ∃ v, x = .tuple #[.agg (refsC (r1, v)).toArray, NI 0] ∧ RefsOw 0 w' (r1, v), fun x w' => ∃ v, x = .agg (refsC (r1, v)).toArray ∧ RefsOw 0 w' (r1, v), Is (NI 0), fun x w' => ∃ g, x = PQ g 0 ∧ w'.heap[g]? = some (.cells (refsC ((⟨[], [], [], zid, []⟩, ⟨.slice none 0 0, .slice none 0 0, .slice none 0 0⟩) : RefsV)).toArray 53 (0, 0)) ∧ w11.heap.size ≤ g] (by kernel_rfl) [13, 14, 15, 16, 12, 17, 18, 2, 3] (by kernel_rfl) rfl (by kernel_rfl) (by kernel_rfl) (by kernel_rfl) (by kernel_rfl) (by kernel_rfl) (by kernel_rfl) rfl rfl (si2 ⟨(fun _ _ _ h k => RG.keep h k), (fun _ _ _ ⟨v, h1, h2⟩ k => ⟨v, h1, h2.keep k⟩), (fun _ _ _ ⟨v, h1, h2⟩ k => ⟨v, h1, h2.keep k⟩), (fun _ _ _ ⟨v, h1, h2⟩ k => ⟨v, h1, h2.keep k⟩), Stab.is _, (fun _ _ _ ⟨g, h1, h2, h3⟩ k => ⟨g, h1, eb k h2, h3⟩), trivial⟩) (fun _ _ _ _ h => h) ?hs1002 ?hQ1002
 case hs1002 =>
  refine ⟨?_, ?_, ?_, ?_, ?_, ?_, ?_, ?_, ?_, ?_, trivial⟩
  ·refine stepFC (stepN rfl fun σ w1 hC h => (Yk.callA0 wr37_pl33  ((begin_any _).mono ?_)))
   rintro e w2 ⟨rfl, hx⟩
   exact ⟨_, rfl, hx, rfl⟩
  ·refine stepFC (stepN rfl fun σ w1 hC h => ?_)
   have e1 : σ 1 = PQ n3 0 := (eqo (h 1 (by decide))).trans rfl
   exact Yk.loadAll e1 (eb hC hb9) (wr37_ty67).choose_spec rfl (st_isz (upd_len (⟨1, ([109, 97, 105, 110] : List UInt8), zid, id1⟩ : Upd)) wr37_isz67) ⟨Ext.refl _, rfl⟩
  ·refine stepFC (stepN rfl fun σ w1 hC h => ?_)
   have e14 := eqo (h 14 (by decide))
   exact Yk.lit1G (a := (⟨1, ([109, 97, 105, 110] : List UInt8), zid, id1⟩ : Upd)) (enc := updC) e14 (upd_len _) wr37_lg22 fun v w2 h hx => ⟨hx, h⟩
  ·refine stepFC (stepN rfl fun σ w1 hC h => ?_)
   have e13 := eqo (h 13 (by decide))
   have e15 : (fun x w' => RG 66 (updC) w' x ([(⟨1, ([109, 97, 105, 110] : List UInt8), zid, id1⟩ : Upd)])) (σ 15) w1 := h 15 (by decide)
   refine Yk.callA3 wr37_pl26 e13 rfl (vr (St (([102, 105, 114, 115, 116] : List UInt8))) rfl) ((apply_to apply_1 (lv := σ 15) (z := beginV) ⟨RG.nil _ _ _, RG.nil _ _ _, RG.nil _ _ _⟩ begin_lt e15 (by decide) (by decide)).mono ?_)
   rintro e w2 ⟨v, rfl, hR, hx⟩
   exact ⟨_, rfl, hx, v, rfl, hR.zero⟩
  ·refine stepFC (stepN rfl fun σ w1 hC h => ?_)
   have e16 : (fun x w' => ∃ v, x = .tuple #[.agg (refsC (r1, v)).toArray, NI 0] ∧ RefsOw 0 w' (r1, v)) (σ 16) w1 := h 16 (by decide)
   exact Yk.move rfl ⟨Ext.refl _, e16⟩
  ·refine stepFC (stepN rfl fun σ w1 hC h => ?_)
   have e12 : (fun x w' => ∃ v, x = .tuple #[.agg (refsC (r1, v)).toArray, NI 0] ∧ RefsOw 0 w' (r1, v)) (σ 12) w1 := h 12 (by decide)
   obtain ⟨v0, h1_, h2_⟩ := e12
   exact Yk.extract (vs := [.agg (refsC (r1, v0)).toArray, NI 0]) h1_ (show _ = some (Value.agg (refsC (r1, v0)).toArray) from rfl) ⟨Ext.refl _, v0, rfl, h2_⟩
  ·refine stepFC (stepN rfl fun σ w1 hC h => ?_)
   have e12 : (fun x w' => ∃ v, x = .tuple #[.agg (refsC (r1, v)).toArray, NI 0] ∧ RefsOw 0 w' (r1, v)) (σ 12) w1 := h 12 (by decide)
   obtain ⟨v0, h1_, h2_⟩ := e12
   exact Yk.extract (vs := [.agg (refsC (r1, v0)).toArray, NI 0]) h1_ (show _ = some (NI 0 : Value) from rfl) ⟨Ext.refl _, rfl⟩
  ·refine stepFC (stepN rfl fun σ w1 hC h => ?_)
   exact Yk.alloc (cs := (refsC ((⟨[], [], [], zid, []⟩, ⟨.slice none 0 0, .slice none 0 0, .slice none 0 0⟩) : RefsV)).toArray) wr37_al53 fun g w2 hn hb hx hs => ⟨hx, g, rfl, hb, Nat.le_trans (show Ext w11 w1 from hC).size (Nat.le_of_eq hn)⟩
  ·exact trivial
  ·exact trivial
 intro ρ21 w22 hx23 he hf
 obtain ⟨-, -, -, -, -, k17, k18, k2, -⟩ := hf
 obtain ⟨T0, T1, -⟩ := he.hold [(0, .bool (false)), (1, PQ n3 0)] ⟨rfl, rfl, trivial⟩ rfl
 clear he
 have hE := hE.trans hx23
 have hb9 := eb hx23 hb9
 have hA17 := hA17.trans hx23
 have k17 : (fun x w' => ∃ v, x = .agg (refsC (r1, v)).toArray ∧ RefsOw 0 w' (r1, v)) (ρ21 17) w22 := k17
 obtain ⟨v24, T17⟩ : ∃ v, ρ21 17 = v := ⟨_, rfl⟩
 rw [T17] at k17
 have hk25 := k17; clear k17
 obtain ⟨v26, hq_, hR27⟩ := hk25
 rw [hq_] at T17; clear hq_
 have ho28 : OG 0 70 33 nmdC w22 v26.branches r1.branches := OG.low hR27.br (Nat.zero_le _)
 have hap29 := OG.off ho28 hb9 (by decide)
 have ho30 : OG 0 70 33 nmdC w22 v26.tags r1.tags := OG.low hR27.tg (Nat.zero_le _)
 have hap31 := OG.off ho30 hb9 (by decide)
 have ho32 : OG 0 122 67 entC w22 v26.log r1.log := OG.low hR27.lg (Nat.zero_le _)
 have hap33 := OG.off ho32 hb9 (by decide)
 have T18 : ρ21 18 = NI 0 := k18
 have k2 : (fun x w' => ∃ g, x = PQ g 0 ∧ w'.heap[g]? = some (.cells (refsC ((⟨[], [], [], zid, []⟩, ⟨.slice none 0 0, .slice none 0 0, .slice none 0 0⟩) : RefsV)).toArray 53 (0, 0)) ∧ w11.heap.size ≤ g) (ρ21 2) w22 := k2
 obtain ⟨v34, T2⟩ : ∃ v, ρ21 2 = v := ⟨_, rfl⟩
 rw [T2] at k2
 have hk35 := k2; clear k2
 obtain ⟨n36, rfl, hb37, hn38⟩ := hk35
 have hl39 := bl hb37
 clear k18
 have hap40 := OG.off ho28 hb37 (by decide)
 have hap41 := OG.off ho30 hb37 (by decide)
 have hap42 := OG.off ho32 hb37 (by decide)
 refine oS rfl (Yk.storeAll T2 T17 hb37 (by simp only [List.size_toArray, refs_len]) (st_isz (refs_len _) wr37_isz53) (refs_one (x := (r1, v26)) (RG.one (RG.ofOwn ho28)).2 (RG.one (RG.ofOwn ho30)).2 (RG.one (RG.ofOwn ho32)).2) fun w43 hb44 hg45 hs46 => ?_)
 have hE := row_fresh hE hg45 (Nat.le_trans hz19 (by omega))
 have hb9 := kb hg45 hb9 (by omega)
 have hA17 := row_fresh hA17 hg45 (Nat.le_trans (Nat.le_refl _) (by omega))
 have ho28 := OG.kept ho28 hg45 hap40
 have ho30 := OG.kept ho30 hg45 hap41
 have ho32 := OG.kept ho32 hg45 hap42
 clear hb37
 have hb37 : w43.heap[n36]? = some (.cells (refsC (r1, v26)).toArray 53 (0, 0)) := hb44; clear hb44
 have hl47 := bl hb37
 refine oA rfl (oZ (tN (hK16 _ _ (sk fun K48 hK48 => (wt (oS rfl (Yk.loadAll T2 hb37 (wr37_ty53).choose_spec rfl (st_isz (refs_len (r1, v26)) wr37_isz53) (oS rfl (Yk.callA2 wr37_pl39 (vr (.agg (refsC (r1, v26)).toArray) rfl) (vr (St (([] : List UInt8))) rfl) ((look_to look_1 ⟨RG.ofOwn ho28, RG.ofOwn ho30, RG.ofOwn ho32⟩ r1_lt).mono ?_))))))))))
 rintro e w50 ⟨rfl, hx49⟩
 refine ⟨_, rfl, ?_⟩
 have hE := hE.trans hx49
 have hb9 := eb hx49 hb9
 have hA17 := hA17.trans hx49
 have ho28 := ho28.keep hx49
 have ho30 := ho30.keep hx49
 have ho32 := ho32.keep hx49
 have hb37 := eb hx49 hb37
 refine oM rfl (oS rfl (Yk.extract (vs := [AB id1.1, NI 0]) (vr (.tuple #[AB id1.1, NI 0]) rfl) (show _ = some (AB id1.1 : Value) from rfl) (oS rfl (Yk.extract (vs := [AB id1.1, NI 0]) (vr (.tuple #[AB id1.1, NI 0]) rfl) (show _ = some (NI 0 : Value) from rfl) (oS rfl (Yk.alloc (cs := (Lib.byteCells (List.replicate 32 0)).toArray) wr37_al25 fun n51 w52 hn53 hb54 hx55 hs56 => ?_))))))
 have hA57 := Ext.refl w50
 have hea58 := hE
 have hea59 := hA17
 have hz60 := hE.size
 have hz61 := hA17.size
 have hlt62 := lte (bl hb9) hn53
 have hlt63 := lte (bl hb37) hn53
 have hap64 : OB v26.branches n51 := own_newer ho28.2 (by omega)
 have hap65 : OB v26.tags n51 := own_newer ho30.2 (by omega)
 have hap66 : OB v26.log n51 := own_newer ho32.2 (by omega)
 have hE := hE.trans hx55
 have hb9 := eb hx55 hb9
 have hA17 := hA17.trans hx55
 have ho28 := ho28.keep hx55
 have ho30 := ho30.keep hx55
 have ho32 := ho32.keep hx55
 have hb37 := eb hx55 hb37
 have hA57 := hA57.trans hx55
 have hb67 := hb54; clear hb54
 have hl68 : n51 < w52.heap.size := by omega
 refine oS rfl (Yk.storeAll (vr (PQ n51 0) rfl) (vr (AB id1.1) rfl) hb67 (by exact idsize id1.2 List.length_replicate) (by exact sizeId_of id1.2) (byteCells_one _) fun w69 hb70 hg71 hs72 => ?_)
 have hE := row_fresh hE hg71 (Nat.le_trans hz60 (by omega))
 have hb9 := kb hg71 hb9 (by omega)
 have hA17 := row_fresh hA17 hg71 (Nat.le_trans hz61 (by omega))
 have ho28 := OG.kept ho28 hg71 hap64
 have ho30 := OG.kept ho30 hg71 hap65
 have ho32 := OG.kept ho32 hg71 hap66
 have hb37 := kb hg71 hb37 (by omega)
 have hA57 := row_fresh hA57 hg71 (Nat.le_trans (Nat.le_refl _) (by omega))
 clear hb67
 have hb67 := hb70; clear hb70
 have hl73 := bl hb67
 refine oA rfl (oZ (tN (hK48 _ _ (sk fun K74 hK74 => (wt (oS rfl (Yk.loadAll T2 hb37 (wr37_ty53).choose_spec rfl (st_isz (refs_len (r1, v26)) wr37_isz53) (oS rfl (Yk.loadAll T1 hb9 (wr37_ty67).choose_spec rfl (st_isz (upd_len (⟨1, ([109, 97, 105, 110] : List UInt8), zid, id1⟩ : Upd)) wr37_isz67) (oS rfl (Yk.lit1G (a := (⟨1, ([109, 97, 105, 110] : List UInt8), zid, id1⟩ : Upd)) (enc := updC) (vr (.agg (updC (⟨1, ([109, 97, 105, 110] : List UInt8), zid, id1⟩ : Upd)).toArray) rfl) (upd_len _) wr37_lg22 fun v75 w76 hr77 hx78 => ?_)))))))))))
 have hE := hE.trans hx78
 have hb9 := eb hx78 hb9
 have hA17 := hA17.trans hx78
 have ho28 := ho28.keep hx78
 have ho30 := ho30.keep hx78
 have ho32 := ho32.keep hx78
 have hb37 := eb hx78 hb37
 have hA57 := hA57.trans hx78
 have hb67 := eb hx78 hb67
 refine oS rfl (Yk.callA3 wr37_pl26 (vr (.agg (refsC (r1, v26)).toArray) rfl) (vr v75 rfl) (vr (St (([97, 103, 97, 105, 110] : List UInt8))) rfl) ((apply_to apply_2 ⟨RG.ofOwn ho28, RG.ofOwn ho30, RG.ofOwn ho32⟩ r1_lt hr77 (by decide) (by decide)).mono ?_))
 rintro e w82 ⟨v79, rfl, hR80, hx81⟩
 refine ⟨_, rfl, ?_⟩
 have hE := hE.trans hx81
 have hb9 := eb hx81 hb9
 have hA17 := hA17.trans hx81
 have ho28 := ho28.keep hx81
 have ho30 := ho30.keep hx81
 have ho32 := ho32.keep hx81
 have hb37 := eb hx81 hb37
 have hA57 := hA57.trans hx81
 have hb67 := eb hx81 hb67
 have hr77 := hr77.keep hx81
 have ho83 : OG 0 70 33 nmdC w82 v79.branches zeroR.branches := OG.low hR80.br (Nat.zero_le _)
 have hap84 := OG.off ho83 hb9 (by decide)
 have hap85 := OG.off ho83 hb37 (by decide)
 have hap86 := OG.off ho83 hb67 (by decide)
 have ho87 : OG 0 70 33 nmdC w82 v79.tags zeroR.tags := OG.low hR80.tg (Nat.zero_le _)
 have hap88 := OG.off ho87 hb9 (by decide)
 have hap89 := OG.off ho87 hb37 (by decide)
 have hap90 := OG.off ho87 hb67 (by decide)
 have ho91 : OG 0 122 67 entC w82 v79.log zeroR.log := OG.low hR80.lg (Nat.zero_le _)
 have hap92 := OG.off ho91 hb9 (by decide)
 have hap93 := OG.off ho91 hb37 (by decide)
 have hap94 := OG.off ho91 hb67 (by decide)
 refine oM rfl (oS rfl (Yk.extract (vs := [.agg (refsC (zeroR, v79)).toArray, NI 15]) (vr (.tuple #[.agg (refsC (zeroR, v79)).toArray, NI 15]) rfl) (show _ = some (.agg (refsC (zeroR, v79)).toArray : Value) from rfl) (oS rfl (Yk.extract (vs := [.agg (refsC (zeroR, v79)).toArray, NI 15]) (vr (.tuple #[.agg (refsC (zeroR, v79)).toArray, NI 15]) rfl) (show _ = some (NI 15 : Value) from rfl) (oS rfl (Yk.alloc (cs := (refsC ((⟨[], [], [], zid, []⟩, ⟨.slice none 0 0, .slice none 0 0, .slice none 0 0⟩) : RefsV)).toArray) wr37_al53 fun n95 w96 hn97 hb98 hx99 hs100 => ?_))))))
 have hA101 := Ext.refl w82
 have hea102 := hE
 have hea103 := hA17
 have hea104 := hA57
 have hz105 := hE.size
 have hz106 := hA17.size
 have hz107 := hA57.size
 have hlt108 := lte (bl hb9) hn97
 have hlt109 := lte (bl hb37) hn97
 have hlt110 := lte (bl hb67) hn97
 have hap111 : OB v26.branches n95 := own_newer ho28.2 (by omega)
 have hap112 : OB v26.tags n95 := own_newer ho30.2 (by omega)
 have hap113 : OB v26.log n95 := own_newer ho32.2 (by omega)
 have hap114 : OB v79.branches n95 := own_newer ho83.2 (by omega)
 have hap115 : OB v79.tags n95 := own_newer ho87.2 (by omega)
 have hap116 : OB v79.log n95 := own_newer ho91.2 (by omega)
 have hE := hE.trans hx99
 have hb9 := eb hx99 hb9
 have hA17 := hA17.trans hx99
 have ho28 := ho28.keep hx99
 have ho30 := ho30.keep hx99
 have ho32 := ho32.keep hx99
 have hb37 := eb hx99 hb37
 have hA57 := hA57.trans hx99
 have hb67 := eb hx99 hb67
 have ho83 := ho83.keep hx99
 have ho87 := ho87.keep hx99
 have ho91 := ho91.keep hx99
 have hA101 := hA101.trans hx99
 have hb117 := hb98; clear hb98
 have hl118 : n95 < w96.heap.size := by omega
 refine oS rfl (Yk.storeAll (vr (PQ n95 0) rfl) (vr (.agg (refsC (zeroR, v79)).toArray) rfl) hb117 (by simp only [List.size_toArray, refs_len]) (st_isz (refs_len _) wr37_isz53) (refs_one (x := (zeroR, v79)) (RG.one (RG.ofOwn ho83)).2 (RG.one (RG.ofOwn ho87)).2 (RG.one (RG.ofOwn ho91)).2) fun w119 hb120 hg121 hs122 => ?_)
 have hE := row_fresh hE hg121 (Nat.le_trans hz105 (by omega))
 have hb9 := kb hg121 hb9 (by omega)
 have hA17 := row_fresh hA17 hg121 (Nat.le_trans hz106 (by omega))
 have ho28 := OG.kept ho28 hg121 hap111
 have ho30 := OG.kept ho30 hg121 hap112
 have ho32 := OG.kept ho32 hg121 hap113
 have hb37 := kb hg121 hb37 (by omega)
 have hA57 := row_fresh hA57 hg121 (Nat.le_trans hz107 (by omega))
 have hb67 := kb hg121 hb67 (by omega)
 have ho83 := OG.kept ho83 hg121 hap114
 have ho87 := OG.kept ho87 hg121 hap115
 have ho91 := OG.kept ho91 hg121 hap116
 have hA101 := row_fresh hA101 hg121 (Nat.le_trans (Nat.le_refl _) (by omega))
 clear hb117
 have hb117 : w119.heap[n95]? = some (.cells (refsC (zeroR, v79)).toArray 53 (0, 0)) := hb120; clear hb120
 have hl123 := bl hb117
 refine oA rfl (oZ (tN (hK74 _ _ (sk fun K124 hK124 => (wt (oS rfl (Yk.loadAll T2 hb37 (wr37_ty53).choose_spec rfl (st_isz (refs_len (r1, v26)) wr37_isz53) (oS rfl (Yk.run (v := AB id1.1) (by kernel_rfl) (oS rfl (Yk.build3 (vr (B8 (1)) rfl) (vr (St (([109, 97, 105, 110] : List UInt8))) rfl) (vr (AB id1.1) rfl) (fun w => wr37_bs67_0_1_2 1 ([109, 97, 105, 110] : List UInt8) id1 w) (oS rfl (Yk.lit1G (a := (⟨1, ([109, 97, 105, 110] : List UInt8), id1, zid⟩ : Upd)) (enc := updC) (vr (.agg (updC (⟨1, ([109, 97, 105, 110] : List UInt8), id1, zid⟩ : Upd)).toArray) rfl) (upd_len _) wr37_lg22 fun v125 w126 hr127 hx128 => ?_)))))))))))))
 have hE := hE.trans hx128
 have hb9 := eb hx128 hb9
 have hA17 := hA17.trans hx128
 have ho28 := ho28.keep hx128
 have ho30 := ho30.keep hx128
 have ho32 := ho32.keep hx128
 have hb37 := eb hx128 hb37
 have hA57 := hA57.trans hx128
 have hb67 := eb hx128 hb67
 have ho83 := ho83.keep hx128
 have ho87 := ho87.keep hx128
 have ho91 := ho91.keep hx128
 have hA101 := hA101.trans hx128
 have hb117 := eb hx128 hb117
 refine oS rfl (Yk.callA3 wr37_pl26 (vr (.agg (refsC (r1, v26)).toArray) rfl) (vr v125 rfl) (vr (St (([] : List UInt8))) rfl) ((apply_to apply_3 ⟨RG.ofOwn ho28, RG.ofOwn ho30, RG.ofOwn ho32⟩ r1_lt hr127 (by decide) (by decide)).mono ?_))
 rintro e w132 ⟨v129, rfl, hR130, hx131⟩
 refine ⟨_, rfl, ?_⟩
 have hE := hE.trans hx131
 have hb9 := eb hx131 hb9
 have hA17 := hA17.trans hx131
 have ho28 := ho28.keep hx131
 have ho30 := ho30.keep hx131
 have ho32 := ho32.keep hx131
 have hb37 := eb hx131 hb37
 have hA57 := hA57.trans hx131
 have hb67 := eb hx131 hb67
 have ho83 := ho83.keep hx131
 have ho87 := ho87.keep hx131
 have ho91 := ho91.keep hx131
 have hA101 := hA101.trans hx131
 have hb117 := eb hx131 hb117
 have hr127 := hr127.keep hx131
 have ho133 : OG 0 70 33 nmdC w132 v129.branches zeroR.branches := OG.low hR130.br (Nat.zero_le _)
 have hap134 := OG.off ho133 hb9 (by decide)
 have hap135 := OG.off ho133 hb37 (by decide)
 have hap136 := OG.off ho133 hb67 (by decide)
 have hap137 := OG.off ho133 hb117 (by decide)
 have ho138 : OG 0 70 33 nmdC w132 v129.tags zeroR.tags := OG.low hR130.tg (Nat.zero_le _)
 have hap139 := OG.off ho138 hb9 (by decide)
 have hap140 := OG.off ho138 hb37 (by decide)
 have hap141 := OG.off ho138 hb67 (by decide)
 have hap142 := OG.off ho138 hb117 (by decide)
 have ho143 : OG 0 122 67 entC w132 v129.log zeroR.log := OG.low hR130.lg (Nat.zero_le _)
 have hap144 := OG.off ho143 hb9 (by decide)
 have hap145 := OG.off ho143 hb37 (by decide)
 have hap146 := OG.off ho143 hb67 (by decide)
 have hap147 := OG.off ho143 hb117 (by decide)
 refine oM rfl (oS rfl (Yk.extract (vs := [.agg (refsC (zeroR, v129)).toArray, NI 16]) (vr (.tuple #[.agg (refsC (zeroR, v129)).toArray, NI 16]) rfl) (show _ = some (.agg (refsC (zeroR, v129)).toArray : Value) from rfl) (oS rfl (Yk.extract (vs := [.agg (refsC (zeroR, v129)).toArray, NI 16]) (vr (.tuple #[.agg (refsC (zeroR, v129)).toArray, NI 16]) rfl) (show _ = some (NI 16 : Value) from rfl) (oS rfl (Yk.alloc (cs := (refsC ((⟨[], [], [], zid, []⟩, ⟨.slice none 0 0, .slice none 0 0, .slice none 0 0⟩) : RefsV)).toArray) wr37_al53 fun n148 w149 hn150 hb151 hx152 hs153 => ?_))))))
 have hA154 := Ext.refl w132
 have hea155 := hE
 have hea156 := hA17
 have hea157 := hA57
 have hea158 := hA101
 have hz159 := hE.size
 have hz160 := hA17.size
 have hz161 := hA57.size
 have hz162 := hA101.size
 have hlt163 := lte (bl hb9) hn150
 have hlt164 := lte (bl hb37) hn150
 have hlt165 := lte (bl hb67) hn150
 have hlt166 := lte (bl hb117) hn150
 have hap167 : OB v26.branches n148 := own_newer ho28.2 (by omega)
 have hap168 : OB v26.tags n148 := own_newer ho30.2 (by omega)
 have hap169 : OB v26.log n148 := own_newer ho32.2 (by omega)
 have hap170 : OB v79.branches n148 := own_newer ho83.2 (by omega)
 have hap171 : OB v79.tags n148 := own_newer ho87.2 (by omega)
 have hap172 : OB v79.log n148 := own_newer ho91.2 (by omega)
 have hap173 : OB v129.branches n148 := own_newer ho133.2 (by omega)
 have hap174 : OB v129.tags n148 := own_newer ho138.2 (by omega)
 have hap175 : OB v129.log n148 := own_newer ho143.2 (by omega)
 have hE := hE.trans hx152
 have hb9 := eb hx152 hb9
 have hA17 := hA17.trans hx152
 have ho28 := ho28.keep hx152
 have ho30 := ho30.keep hx152
 have ho32 := ho32.keep hx152
 have hb37 := eb hx152 hb37
 have hA57 := hA57.trans hx152
 have hb67 := eb hx152 hb67
 have ho83 := ho83.keep hx152
 have ho87 := ho87.keep hx152
 have ho91 := ho91.keep hx152
 have hA101 := hA101.trans hx152
 have hb117 := eb hx152 hb117
 have ho133 := ho133.keep hx152
 have ho138 := ho138.keep hx152
 have ho143 := ho143.keep hx152
 have hA154 := hA154.trans hx152
 have hb176 := hb151; clear hb151
 have hl177 : n148 < w149.heap.size := by omega
 refine oS rfl (Yk.storeAll (vr (PQ n148 0) rfl) (vr (.agg (refsC (zeroR, v129)).toArray) rfl) hb176 (by simp only [List.size_toArray, refs_len]) (st_isz (refs_len _) wr37_isz53) (refs_one (x := (zeroR, v129)) (RG.one (RG.ofOwn ho133)).2 (RG.one (RG.ofOwn ho138)).2 (RG.one (RG.ofOwn ho143)).2) fun w178 hb179 hg180 hs181 => ?_)
 have hE := row_fresh hE hg180 (Nat.le_trans hz159 (by omega))
 have hb9 := kb hg180 hb9 (by omega)
 have hA17 := row_fresh hA17 hg180 (Nat.le_trans hz160 (by omega))
 have ho28 := OG.kept ho28 hg180 hap167
 have ho30 := OG.kept ho30 hg180 hap168
 have ho32 := OG.kept ho32 hg180 hap169
 have hb37 := kb hg180 hb37 (by omega)
 have hA57 := row_fresh hA57 hg180 (Nat.le_trans hz161 (by omega))
 have hb67 := kb hg180 hb67 (by omega)
 have ho83 := OG.kept ho83 hg180 hap170
 have ho87 := OG.kept ho87 hg180 hap171
 have ho91 := OG.kept ho91 hg180 hap172
 have hA101 := row_fresh hA101 hg180 (Nat.le_trans hz162 (by omega))
 have hb117 := kb hg180 hb117 (by omega)
 have ho133 := OG.kept ho133 hg180 hap173
 have ho138 := OG.kept ho138 hg180 hap174
 have ho143 := OG.kept ho143 hg180 hap175
 have hA154 := row_fresh hA154 hg180 (Nat.le_trans (Nat.le_refl _) (by omega))
 clear hb176
 have hb176 : w178.heap[n148]? = some (.cells (refsC (zeroR, v129)).toArray 53 (0, 0)) := hb179; clear hb179
 have hl182 := bl hb176
 refine oA rfl (oZ (tN (hK124 _ _ (sk fun K183 hK183 => (wt (oM rfl (oS rfl (Yk.eqI (a := (0 : Nat)) (b := (0 : Nat)) T18 rfl (k_eql _ _ _ _) (oM rfl (opsF_mayV (NI 0) rfl rfl (gT (vr (.bool (decide ((0 : Nat) = (0)))) rfl)) (fun hG184 => Yk.move (vr (NI 0) rfl) ⟨rfl, rfl⟩) (opsF_mayV (.bool (decide ((0 : Nat) = (0)))) rfl rfl (gT (vr (.bool (decide ((0 : Nat) = (0)))) rfl)) (fun hG185 => Yk.eqI (a := ((0 : Nat) : Int)) (b := ((0 : Nat) : Int)) (mayT (vr (cond ((decide ((0 : Nat) = (0)))) (NI 0) undef) rfl) hG185) (vr (NI 0) rfl) (k_eql _ .i64 (0) (0)) ⟨rfl, rfl⟩) (oS rfl (Yk.pickAndN (vr (.bool (decide ((0 : Nat) = (0)))) rfl) (fun hA => (mayT (vr (cond ((decide ((0 : Nat) = (0)))) (.bool (decide ((0 : Nat) = (0)))) undef) rfl) hA)) (vr (.bool (false)) rfl) fun bb186 hbb187 => (oM rfl (opsF_mayV (AB id1.1) rfl rfl (gT (vr (.bool (bb186)) rfl)) (fun hG188 => Yk.loadAll (vr (PQ n51 0) rfl) hb67 wr37_ty25 rfl (by exact sizeId_of id1.2) ⟨rfl, rfl⟩) (opsF_mayV (AB id1.1) rfl rfl (gT (vr (.bool (bb186)) rfl)) (fun hG189 => Yk.run (v := AB id1.1) (by kernel_rfl) ⟨rfl, rfl⟩) (opsF_mayV (.bool (decide (id1.1 = id1.1))) rfl rfl (gT (vr (.bool (bb186)) rfl)) (fun hG190 => Yk.eqArr (l1 := id1.1) (l2 := id1.1) wr37_ty25 wr37_ty5 wr37_sz5 wr37_eg25 (mayT (vr (cond (bb186) (AB id1.1) undef) rfl) hG190) (mayT (vr (cond (bb186) (AB id1.1) undef) rfl) hG190) (id1.2) (id1.2) ⟨rfl, rfl⟩) (oS rfl (Yk.pickAndN (vr (.bool (bb186)) rfl) (fun hA => (mayT (vr (cond (bb186) (.bool (decide (id1.1 = id1.1))) undef) rfl) hA)) (vr (.bool (false)) rfl) fun bb191 hbb192 => ?_)))))))))))))))))))
 refine oM rfl (opsF_mayV (NI 15) rfl rfl (gT (vr (.bool (bb191)) rfl)) (fun hG193 => Yk.move (vr (NI 15) rfl) ⟨rfl, rfl⟩) (opsF_mayV (.bool (decide ((15 : Nat) = (15)))) rfl rfl (gT (vr (.bool (bb191)) rfl)) (fun hG194 => Yk.eqI (a := ((15 : Nat) : Int)) (b := ((15 : Nat) : Int)) (mayT (vr (cond (bb191) (NI 15) undef) rfl) hG194) (vr (NI 15) rfl) (k_eql _ .i64 (15) (15)) ⟨rfl, rfl⟩) (oS rfl (Yk.pickAndN (vr (.bool (bb191)) rfl) (fun hA => (mayT (vr (cond (bb191) (.bool (decide ((15 : Nat) = (15)))) undef) rfl) hA)) (vr (.bool (false)) rfl) fun bb195 hbb196 => (oM rfl (opsF_mayV (NI 16) rfl rfl (gT (vr (.bool (bb195)) rfl)) (fun hG197 => Yk.move (vr (NI 16) rfl) ⟨rfl, rfl⟩) (opsF_mayV (.bool (decide ((16 : Nat) = (16)))) rfl rfl (gT (vr (.bool (bb195)) rfl)) (fun hG198 => Yk.eqI (a := ((16 : Nat) : Int)) (b := ((16 : Nat) : Int)) (mayT (vr (cond (bb195) (NI 16) undef) rfl) hG198) (vr (NI 16) rfl) (k_eql _ .i64 (16) (16)) ⟨rfl, rfl⟩) (oS rfl (Yk.pickAndN (vr (.bool (bb195)) rfl) (fun hA => (mayT (vr (cond (bb195) (.bool (decide ((16 : Nat) = (16)))) undef) rfl) hA)) (vr (.bool (false)) rfl) fun bb199 hbb200 => (oM rfl (opsF_mayV (PQ n36 35) rfl rfl (gT (vr (.bool (bb199)) rfl)) (fun hG201 => Yk.fieldAt wr37_fo53_4 T2 ⟨rfl, rfl⟩) (opsF_mayV (((r1, v26)).2.log) rfl rfl (gT (vr (.bool (bb199)) rfl)) (fun hG202 => Yk.cell1 wr37_ty47 rfl (mayT (vr (cond (bb199) (PQ n36 35) undef) rfl) hG202) (cellAt hb37 (show (refsC (r1, v26))[35]? = some (((r1, v26)).2.log : Value) from refs_g4 (r1, v26))) ⟨rfl, rfl⟩) (opsF_mayV (NI ((r1.log).length)) rfl rfl (gT (vr (.bool (bb199)) rfl)) (fun hG203 => Yk.lenRG wr37_ty47 (RG.of (RG.ofOwn ho32) (mayT (vr (cond (bb199) (((r1, v26)).2.log) undef) rfl) hG203)) ⟨rfl, rfl⟩) (opsF_mayV (.bool (decide (((r1.log).length : Nat) = (1)))) rfl rfl (gT (vr (.bool (bb199)) rfl)) (fun hG204 => Yk.eqI (a := (((r1.log).length : Nat) : Int)) (b := ((1 : Nat) : Int)) (mayT (vr (cond (bb199) (NI ((r1.log).length)) undef) rfl) hG204) (vr (NI 1) rfl) (k_eql _ .i64 ((r1.log).length) (1)) ⟨rfl, rfl⟩) (oS rfl (Yk.pickAndN (vr (.bool (bb199)) rfl) (fun hA => (mayT (vr (cond (bb199) (.bool (decide (((r1.log).length : Nat) = (1)))) undef) rfl) hA)) (vr (.bool (false)) rfl) fun bb205 hbb206 => (oA rfl (oL_ [(0, .bool (bb205)), (1, PQ n3 0), (2, PQ n36 0), (3, NI 0), (4, PQ n51 0), (5, NI 0), (7, NI 15), (9, NI 16)] ⟨rfl, T1, T2, T18, rfl, rfl, rfl, rfl, trivial⟩ fun ρ207 ⟨T0, T1, T2, T3, T4, T5, T7, T9, _⟩ => ?_))))))))))))))))))
 refine tN (hK183 _ _ (wpF_ret (postF_ret (fn := Tryd.f35) _ rfl [.bool (bb205)] (.bool (bb205)) rfl ⟨T0, trivial⟩ ?_)))
 subst hbb187 hbb192 hbb196 hbb200 hbb206
 exact ⟨by first | rfl | decide | simp, hE⟩
open Go.RowKit
set_option maxRecDepth 100000
theorem wr28_al53 {d : Option Tmp} {ty : TypeId} {pos : String} {af : Array Edge} {gd : Option (Nat × Bool)} (σ : Operand → Value) (w : World) : (execOp σ ⟨d, .alloc 53, ty, pos, af, gd⟩).run Tryd.prog w = .ok (.value (PQ w.heap.size 0)) (w.alloc (.cells (refsC ((⟨[], [], [], zid, []⟩, ⟨.slice none 0 0, .slice none 0 0, .slice none 0 0⟩) : RefsV)).toArray 53)) := by kernel_rfl
theorem wr28_fo49_0 : FieldOff Tryd.prog 49 0 0 := fun b o w => by simp [go_sem]
theorem wr28_ty46 : Tryd.prog.underlying 46 = some (.slice 69) := by kernel_rfl
theorem wr28_fo53_0 : FieldOff Tryd.prog 53 0 0 := fun b o w => by simp [go_sem]
theorem wr28_ty51 : Tryd.prog.underlying 51 = some (.slice 70) := by kernel_rfl
theorem wr28_szg69 : ∀ w' : World, (sizeOf 69).run Tryd.prog w' = .ok 33 w' := fun _ => by kernel_rfl
theorem wr28_fo69_0 : FieldOff Tryd.prog 69 0 0 := fun b o w => by simp [go_sem]
theorem wr28_ty9 : Tryd.prog.underlying 9 = some (.string) := by kernel_rfl
theorem wr28_fo69_1 : FieldOff Tryd.prog 69 1 1 := fun b o w => by simp [go_sem]
theorem wr28_ty25 : Tryd.prog.underlying 25 = some (.array 32 5) := by kernel_rfl
theorem wr28_isz25 : (Tryd.prog.info? 25).map (·.size) = some 32 := by kernel_rfl
theorem wr28_bs70_0_1h (z0 : ByteArray) (c1_0 c1_1 c1_2 c1_3 c1_4 c1_5 c1_6 c1_7 c1_8 c1_9 c1_10 c1_11 c1_12 c1_13 c1_14 c1_15 c1_16 c1_17 c1_18 c1_19 c1_20 c1_21 c1_22 c1_23 c1_24 c1_25 c1_26 c1_27 c1_28 c1_29 c1_30 c1_31 : Value) (w : World) : (Instr.build 70 #[(0, .string z0), (1, .agg #[c1_0, c1_1, c1_2, c1_3, c1_4, c1_5, c1_6, c1_7, c1_8, c1_9, c1_10, c1_11, c1_12, c1_13, c1_14, c1_15, c1_16, c1_17, c1_18, c1_19, c1_20, c1_21, c1_22, c1_23, c1_24, c1_25, c1_26, c1_27, c1_28, c1_29, c1_30, c1_31])]).run Tryd.prog w = .ok (.agg #[.string z0, c1_0, c1_1, c1_2, c1_3, c1_4, c1_5, c1_6, c1_7, c1_8, c1_9, c1_10, c1_11, c1_12, c1_13, c1_14, c1_15, c1_16, c1_17, c1_18, c1_19, c1_20, c1_21, c1_22, c1_23, c1_24, c1_25, c1_26, c1_27, c1_28, c1_29, c1_30, c1_31]) w := by kernel_rfl
theorem wr28_bs70_0_1 (z0 : List UInt8) (z1 : Id32) (w : World) : (Instr.build 70 #[(0, St z0), (1, AB z1.1)]).run Tryd.prog w = .ok (.agg (St (z0) :: (Lib.byteCells z1.1)).toArray) w := by
 obtain ⟨z1, k1⟩ := z1
 obtain ⟨a1_0, a1_1, a1_2, a1_3, a1_4, a1_5, a1_6, a1_7, a1_8, a1_9, a1_10, a1_11, a1_12, a1_13, a1_14, a1_15, a1_16, a1_17, a1_18, a1_19, a1_20, a1_21, a1_22, a1_23, a1_24, a1_25, a1_26, a1_27, a1_28, a1_29, a1_30, a1_31, rfl⟩ := list32 k1
 exact wr28_bs70_0_1h _ _ _ _ _ _ _ _ _ _ _ _ _ _ _ _ _ _ _ _ _ _ _ _ _ _ _ _ _ _ _ _ _ w
theorem wr28_lh51 (c0 c1 c2 c3 c4 c5 c6 c7 c8 c9 c10 c11 c12 c13 c14 c15 c16 c17 c18 c19 c20 c21 c22 c23 c24 c25 c26 c27 c28 c29 c30 c31 c32 : Value) (w : World) : (Instr.buildSlice 51 1 #[(0, .agg #[c0, c1, c2, c3, c4, c5, c6, c7, c8, c9, c10, c11, c12, c13, c14, c15, c16, c17, c18, c19, c20, c21, c22, c23, c24, c25, c26, c27, c28, c29, c30, c31, c32])]).run Tryd.prog w = .ok (.slice (some ⟨w.heap.size, 0, none⟩) 1 1) (w.alloc (.cells #[c0, c1, c2, c3, c4, c5, c6, c7, c8, c9, c10, c11, c12, c13, c14, c15, c16, c17, c18, c19, c20, c21, c22, c23, c24, c25, c26, c27, c28, c29, c30, c31, c32] 70)) := by kernel_rfl
theorem wr28_lg51 : ∀ (cs : Array Value), cs.size = 33 → ∀ w : World, (Instr.buildSlice 51 1 #[(0, .agg cs)]).run Tryd.prog w = .ok (.slice (some ⟨w.heap.size, 0, none⟩) 1 1) (w.alloc (.cells cs 70))
 | ⟨c0 :: c1 :: c2 :: c3 :: c4 :: c5 :: c6 :: c7 :: c8 :: c9 :: c10 :: c11 :: c12 :: c13 :: c14 :: c15 :: c16 :: c17 :: c18 :: c19 :: c20 :: c21 :: c22 :: c23 :: c24 :: c25 :: c26 :: c27 :: c28 :: c29 :: c30 :: c31 :: c32 :: []⟩, _, w => wr28_lh51 c0 c1 c2 c3 c4 c5 c6 c7 c8 c9 c10 c11 c12 c13 c14 c15 c16 c17 c18 c19 c20 c21 c22 c23 c24 c25 c26 c27 c28 c29 c30 c31 c32 w
theorem wr28_ig70 : ∃ z, (Tryd.prog.info? 70).map (fun i => (i.zero, i.size, i.bytes)) = some (some z, 33, 48) ∧ z.cells.size = 33 := info_ex (by kernel_rfl)
theorem wr28_isz51 : (Tryd.prog.info? 51).map (·.size) = some 1 := by kernel_rfl
theorem wr28_fo49_1 : FieldOff Tryd.prog 49 1 1 := fun b o w => by simp [go_sem]
theorem wr28_fo53_1 : FieldOff Tryd.prog 53 1 1 := fun b o w => by simp [go_sem]
theorem wr28_fo49_2 : FieldOff Tryd.prog 49 2 2 := fun b o w => by simp [go_sem]
theorem wr28_fo49_3 : FieldOff Tryd.prog 49 3 3 := fun b o w => by simp [go_sem]
theorem wr28_fo53_2 : FieldOff Tryd.prog 53 2 2 := fun b o w => by simp [go_sem]
theorem wr28_fo53_3 : FieldOff Tryd.prog 53 3 3 := fun b o w => by simp [go_sem]
theorem wr28_isz9 : (Tryd.prog.info? 9).map (·.size) = some 1 := by kernel_rfl
theorem wr28_fo53_4 : FieldOff Tryd.prog 53 4 35 := fun b o w => by simp [go_sem]
theorem wr28_ty47 : Tryd.prog.underlying 47 = some (.slice 122) := by kernel_rfl
theorem wr28_fo49_4 : FieldOff Tryd.prog 49 4 35 := fun b o w => by simp [go_sem]
theorem wr28_ig122 : ∃ z, (Tryd.prog.info? 122).map (fun i => (i.zero, i.size, i.bytes)) = some (some z, 67, 104) ∧ z.cells.size = 67 := info_ex (by kernel_rfl)
theorem wr28_isz47 : (Tryd.prog.info? 47).map (·.size) = some 1 := by kernel_rfl
theorem wr28_ty53 : ∃ fs, Tryd.prog.underlying 53 = some (.struct fs) := struct_of (by kernel_rfl)
theorem wr28_isz53 : (Tryd.prog.info? 53).map (·.size) = some 36 := by kernel_rfl
set_option maxHeartbeats 1600000
theorem told20_any (w : World) (y : RefsV) (hm : RefsAt w y) (hc : y.1.branches.length ≤ 80 ∧ y.1.tags.length ≤ 80 ∧ y.1.log.length ≤ 80) :
  Calls Tryd.prog 27 #[.agg (refsC y).toArray] w fun e w' => ∃ z, e = .returned (.agg (refsC (y.1, z)).toArray) ∧ RefsAt w' (y.1, z) ∧ Ext w w' := by
 have hmt := hm.branches
 have hmg := hm.tags
 have hml := hm.log
 obtain ⟨hc1, hc2, hc3⟩ := hc
 refine calls_of_wpF (args := [.agg (refsC y).toArray]) Tryd.func27 rfl 69 rfl (Nat.le_of_ble_eq_true rfl) ?_
 intro ρ0 hb
 have T0 : ρ0 0 = (.agg (refsC y).toArray : Value) := hb.get 0
 clear hb
 have hE := Ext.refl w
 refine sk fun K1 hK1 => (wt (oS rfl (Yk.box (cs := (refsC y : List Value).toArray) T0 fun n2 w3 hn4 hb5 hx6 hs7 => ?_)))
 have hE := hE.trans hx6
 have hb8 := hb5; clear hb5
 have hl9 : n2 < w3.heap.size := by omega
 refine oS rfl (Yk.alloc (cs := (refsC ((⟨[], [], [], zid, []⟩, ⟨.slice none 0 0, .slice none 0 0, .slice none 0 0⟩) : RefsV)).toArray) wr28_al53 fun n10 w11 hn12 hb13 hx14 hs15 => ?_)
 have hA16 := Ext.refl w3
 have hea17 := hE
 have hz18 := hE.size
 have hlt19 := lte (bl hb8) hn12
 have hE := hE.trans hx14
 have hb8 := eb hx14 hb8
 have hA16 := hA16.trans hx14
 have hb20 := hb13; clear hb13
 have hl21 : n10 < w11.heap.size := by omega
 refine oZ (tN (hK1 _ _ (sk fun K22 hK22 => (wt (oS rfl (Yk.alloc (cs := (refsC ((⟨[], [], [], zid, []⟩, ⟨.slice none 0 0, .slice none 0 0, .slice none 0 0⟩) : RefsV)).toArray) wr28_al53 fun n23 w24 hn25 hb26 hx27 hs28 => ?_))))))
 have hA29 := Ext.refl w11
 have hea30 := hE
 have hea31 := hA16
 have hz32 := hE.size
 have hz33 := hA16.size
 have hlt34 := lte (bl hb8) hn25
 have hlt35 := lte (bl hb20) hn25
 have hE := hE.trans hx27
 have hb8 := eb hx27 hb8
 have hA16 := hA16.trans hx27
 have hb20 := eb hx27 hb20
 have hA29 := hA29.trans hx27
 have hb36 := hb26; clear hb26
 have hl37 : n23 < w24.heap.size := by omega
 refine oZ (tN (hK22 _ _ (sk fun K38 hK38 => (sk fun K39 hK39 => (wt (oA rfl (oL_ [(0, .agg (refsC y).toArray), (1, PQ n2 0), (2, PQ n10 0), (3, PQ n23 0), (4, NI 0)] ⟨T0, rfl, rfl, rfl, rfl, trivial⟩ fun ρ40 ⟨T0, T1, T2, T3, T4, _⟩ => (tN (hK39 _ _ (wpF_block (wpF_loop (fun (ρ : Slots) (wz : World) => ∃ i1 : Nat, ∃ vb1 : Value, ρ 0 = (.agg (refsC y).toArray : Value) ∧ ρ 1 = (PQ n2 0 : Value) ∧ ρ 2 = (PQ n10 0 : Value) ∧ ρ 3 = (PQ n23 0 : Value) ∧ ρ 4 = (NI i1 : Value) ∧ Ext w wz ∧ wz.heap[n2]? = some (.cells (refsC y).toArray 49 (0, 0)) ∧ wz.heap[n10]? = some (.cells (refsC ((⟨[], [], [], zid, []⟩, ⟨.slice none 0 0, .slice none 0 0, .slice none 0 0⟩) : RefsV)).toArray 53 (0, 0)) ∧ wz.heap[n23]? = some (.cells (refsC ((⟨(y.1.branches.take i1), [], (((⟨[], [], [], zid, []⟩, ⟨.slice none 0 0, .slice none 0 0, .slice none 0 0⟩) : RefsV)).1.head, (((⟨[], [], [], zid, []⟩, ⟨.slice none 0 0, .slice none 0 0, .slice none 0 0⟩) : RefsV)).1.at_, []⟩, ⟨vb1, (Value.slice none 0 0), (Value.slice none 0 0)⟩) : RefsV)).toArray 53 (0, 0)) ∧ OG w.heap.size 70 33 (nmdC) wz vb1 (y.1.branches.take i1) ∧ (i1 ≤ y.1.branches.length) ∧ (OB vb1 n2) ∧ (OB vb1 n10) ∧ (OB vb1 n23) ∧ True) (fun ρ _ => y.1.branches.length - (intOf (ρ 4)).toNat) ⟨0, (Value.slice none 0 0), T0, T1, T2, T3, T4, hE, hb8, hb20, hb36, OG.nil _ _ _ _ _, Nat.zero_le _, (fun h => by cases h), (fun h => by cases h), (fun h => by cases h), trivial⟩ ?_)))))))))))
 clear hA16
 clear hA29
 clear hb36
 clear hE hb8 hb20
 rintro ρ41 w42 ⟨i1, vb1, T0, T1, T2, T3, T4, hE, hb8, hb20, hm1, ho1, hi1, hap_vb1_n2, hap_vb1_n10, hap_vb1_n23, -⟩
 have q4 := T4
 have hl43 := (bl hb8)
 have hl44 := (bl hb20)
 have hl45 := (bl hm1)
 refine sk fun K46 hK46 => (sk fun K47 hK47 => (wt (oM rfl (oS rfl (Yk.fieldAt wr28_fo49_0 T1 (oS rfl (Yk.cell1 wr28_ty46 rfl (vr (PQ n2 0) rfl) (cellAt hb8 (show (refsC y)[0]? = some (y.2.branches : Value) from refs_g0 y)) (oS rfl (Yk.lenRG wr28_ty46 (RG.of (hmt.keep hE) (vr y.2.branches rfl)) (oS rfl (Yk.eqI (a := (i1 : Nat)) (b := ((y.1.branches).length : Nat)) T4 rfl (k_lss _ _ _ _) (oZ (tN (hK47 _ _ ?_))))))))))))))
 refine wpF_cond ((i1) < ((y.1.branches).length)) (vr (.bool (decide ((i1) < ((y.1.branches).length)))) rfl) (fun hc0 => ?_) (fun hc0 => ?_)
 ·have hlt1 : i1 < y.1.branches.length := hc0
  refine wpF_skip (tN (hK46 _ _ (sk fun K48 hK48 => (wpF_block ?_))))
  refine wpF_draw_cut 16 [Is (PQ n23 0), Is (vb1), Is (PQ n2 0), Is (y.2.branches), Is (NI i1), fun x w' => PR (nmdC ((y.1.branches).getD (i1) dNmd)) x w', PCell (St (((y.1.branches).getD (i1) dNmd).name)), Is (St (((y.1.branches).getD (i1) dNmd).name)), Is (PQ n2 0), Is (y.2.branches), Is (NI i1), fun x w' => PR (nmdC ((y.1.branches).getD (i1) dNmd)) x w', fun x w' => PR (Lib.byteCells ((y.1.branches).getD (i1) dNmd).id.1) x w', Is (AB (((y.1.branches).getD (i1) dNmd).id.1)), Is (.agg (nmdC (⟨(((y.1.branches).getD (i1) dNmd).name), ((y.1.branches).getD (i1) dNmd).id⟩ : Nmd)).toArray), fun x w' => RG 33 (nmdC) w' x ([(⟨(((y.1.branches).getD (i1) dNmd).name), ((y.1.branches).getD (i1) dNmd).id⟩ : Nmd)])] (by kernel_rfl) [13, 14, 15, 16, 17, 18, 19, 20, 21, 22, 23, 24, 25, 26, 27, 28, 29, 30] (by kernel_rfl) (by kernel_rfl) (by kernel_rfl) (by kernel_rfl) rfl rfl (si5 ⟨(fun _ _ _ h k => PR.keep h k), Stab.pcell _, (si4 ⟨(fun _ _ _ h k => PR.keep h k), (fun _ _ _ h k => PR.keep h k), (si2 ⟨(fun _ _ _ h k => RG.keep h k), trivial⟩)⟩)⟩) ?hs2005 ?hQ2005
  case hs2005 =>
   refine ⟨?_, ?_, ?_, ?_, ?_, ?_, ?_, ?_, ?_, ?_, ?_, ?_, ?_, ?_, ?_, ?_, ?_, ?_, ?_, trivial⟩
   ·refine stepFC (stepN rfl fun σ w1 hC h => ?_)
    have e3 := (eqo (h 3 (by decide))).trans T3
    exact Yk.fieldAt wr28_fo53_0 e3 ⟨Ext.refl _, rfl⟩
   ·refine stepFC (stepN rfl fun σ w1 hC h => ?_)
    have e13 := eqo (h 13 (by decide))
    exact Yk.cell1 wr28_ty51 rfl e13 (cellAt (eb hC hm1) (show (refsC ((⟨(y.1.branches.take i1), [], (((⟨[], [], [], zid, []⟩, ⟨.slice none 0 0, .slice none 0 0, .slice none 0 0⟩) : RefsV)).1.head, (((⟨[], [], [], zid, []⟩, ⟨.slice none 0 0, .slice none 0 0, .slice none 0 0⟩) : RefsV)).1.at_, []⟩, ⟨vb1, (Value.slice none 0 0), (Value.slice none 0 0)⟩) : RefsV))[0]? = some (vb1 : Value) from refs_g0 ((⟨(y.1.branches.take i1), [], (((⟨[], [], [], zid, []⟩, ⟨.slice none 0 0, .slice none 0 0, .slice none 0 0⟩) : RefsV)).1.head, (((⟨[], [], [], zid, []⟩, ⟨.slice none 0 0, .slice none 0 0, .slice none 0 0⟩) : RefsV)).1.at_, []⟩, ⟨vb1, (Value.slice none 0 0), (Value.slice none 0 0)⟩) : RefsV))) ⟨Ext.refl _, rfl⟩
   ·refine stepFC (stepN rfl fun σ w1 hC h => ?_)
    have e1 := (eqo (h 1 (by decide))).trans T1
    exact Yk.fieldAt wr28_fo49_0 e1 ⟨Ext.refl _, rfl⟩
   ·refine stepFC (stepN rfl fun σ w1 hC h => ?_)
    have e15 := eqo (h 15 (by decide))
    exact Yk.cell1 wr28_ty46 rfl e15 (cellAt (eb hC hb8) (show (refsC y)[0]? = some (y.2.branches : Value) from refs_g0 y)) ⟨Ext.refl _, rfl⟩
   ·refine stepFC (stepN rfl fun σ w1 hC h => ?_)
    have e4 := (eqo (h 4 (by decide))).trans T4
    exact Yk.move e4 ⟨Ext.refl _, rfl⟩
   ·refine stepFC (stepN rfl fun σ w1 hC h => ?_)
    have e16 := eqo (h 16 (by decide))
    have e17 := eqo (h 17 (by decide))
    exact Yk.atRG wr28_ty46 wr28_szg69 (by decide) dNmd (RG.of (hmt.keep (hE.trans hC)) e16) e17 (by omega) fun v h => ⟨Ext.refl _, h⟩
   ·refine stepFC (stepN rfl fun σ w1 hC h => ?_)
    have e18 : (fun x w' => PR (nmdC ((y.1.branches).getD (i1) dNmd)) x w') (σ 18) w1 := h 18 (by decide)
    exact Yk.fieldPR (n := 1) wr28_fo69_0 e18 fun v h => ⟨Ext.refl _, PR.pcell (by rw [nmd_f0] at h; exact h)⟩
   ·refine stepFC (stepN rfl fun σ w1 hC h => ?_)
    have e19 : (PCell (St (((y.1.branches).getD (i1) dNmd).name))) (σ 19) w1 := h 19 (by decide)
    exact Yk.loadC wr28_ty9 rfl e19 ⟨Ext.refl _, rfl⟩
   ·refine stepFC (stepN rfl fun σ w1 hC h => ?_)
    have e1 := (eqo (h 1 (by decide))).trans T1
    exact Yk.fieldAt wr28_fo49_0 e1 ⟨Ext.refl _, rfl⟩
   ·refine stepFC (stepN rfl fun σ w1 hC h => ?_)
    have e21 := eqo (h 21 (by decide))
    exact Yk.cell1 wr28_ty46 rfl e21 (cellAt (eb hC hb8) (show (refsC y)[0]? = some (y.2.branches : Value) from refs_g0 y)) ⟨Ext.refl _, rfl⟩
   ·refine stepFC (stepN rfl fun σ w1 hC h => ?_)
    have e4 := (eqo (h 4 (by decide))).trans T4
    exact Yk.move e4 ⟨Ext.refl _, rfl⟩
   ·refine stepFC (stepN rfl fun σ w1 hC h => ?_)
    have e22 := eqo (h 22 (by decide))
    have e23 := eqo (h 23 (by decide))
    exact Yk.atRG wr28_ty46 wr28_szg69 (by decide) dNmd (RG.of (hmt.keep (hE.trans hC)) e22) e23 (by omega) fun v h => ⟨Ext.refl _, h⟩
   ·refine stepFC (stepN rfl fun σ w1 hC h => ?_)
    have e24 : (fun x w' => PR (nmdC ((y.1.branches).getD (i1) dNmd)) x w') (σ 24) w1 := h 24 (by decide)
    exact Yk.fieldPR (n := 32) wr28_fo69_1 e24 fun v h => ⟨Ext.refl _, by rw [nmd_f1] at h; exact h⟩
   ·refine stepFC (stepN rfl fun σ w1 hC h => ?_)
    have e25 : (fun x w' => PR (Lib.byteCells ((y.1.branches).getD (i1) dNmd).id.1) x w') (σ 25) w1 := h 25 (by decide)
    exact Yk.loadPR e25 wr28_ty25 rfl (by rw [Lib.byteCells_length, ((y.1.branches).getD (i1) dNmd).id.2]; exact wr28_isz25) ⟨Ext.refl _, rfl⟩
   ·refine stepFC (stepN rfl fun σ w1 hC h => ?_)
    have e20 := eqo (h 20 (by decide))
    have e26 := eqo (h 26 (by decide))
    exact Yk.build2 e20 e26 (fun w => wr28_bs70_0_1 (((y.1.branches).getD (i1) dNmd).name) (((y.1.branches).getD (i1) dNmd).id) w) ⟨Ext.refl _, rfl⟩
   ·refine stepFC (stepN rfl fun σ w1 hC h => ?_)
    have e27 := eqo (h 27 (by decide))
    exact Yk.lit1G (a := (⟨(((y.1.branches).getD (i1) dNmd).name), ((y.1.branches).getD (i1) dNmd).id⟩ : Nmd)) (enc := nmdC) e27 (nmd_len _) wr28_lg51 fun v w2 h hx => ⟨hx, h⟩
   ·exact trivial
   ·exact trivial
   ·exact trivial
  intro ρ49 w50 hx51 he hf
  obtain ⟨-, k14, -, -, -, -, -, -, -, -, -, -, -, -, -, k28, -⟩ := hf
  obtain ⟨T0, T1, T2, T3, T4, -⟩ := he.hold [(0, _), (1, _), (2, _), (3, _), (4, _)] ⟨T0, T1, T2, T3, T4, trivial⟩ rfl
  clear he
  have hE := hE.trans hx51
  have hb8 := eb hx51 hb8
  have hb20 := eb hx51 hb20
  have hm1 := eb hx51 hm1
  have ho1 := ho1.keep hx51
  have T14 : ρ49 14 = vb1 := k14
  have k28 : (fun x w' => RG 33 (nmdC) w' x ([(⟨(((y.1.branches).getD (i1) dNmd).name), ((y.1.branches).getD (i1) dNmd).id⟩ : Nmd)])) (ρ49 28) w50 := k28
  obtain ⟨v52, T28⟩ : ∃ v, ρ49 28 = v := ⟨_, rfl⟩
  rw [T28] at k28
  have hk53 := k28; clear k28
  clear k14
  refine oS rfl (Yk.appendRG _ _ w.heap.size _ 48 wr28_ty51 wr28_ig70.choose_spec.1 wr28_ig70.choose_spec.2 wr28_ty51 (y.1.branches.take i1) ([(⟨(((y.1.branches).getD (i1) dNmd).name), ((y.1.branches).getD (i1) dNmd).id⟩ : Nmd)]) (OG.of ho1 T14) (RG.of hk53 T28) (fun _ _ => nmd_one) (by simp only [List.length_take, List.length_append, List.length_cons, List.length_nil]; omega) (by simp only [List.length_take, List.length_append, List.length_cons, List.length_nil]; omega) hE.size fun v54 w55 ho56 hg57 => ?_)
  have hg57 : Grew w50 w55 vb1 v54 := .eqv T14 hg57
  have hap58 : OB v54 n2 := apart_grew hg57 hap_vb1_n2 (bl hb8)
  have hap59 : OB v54 n10 := apart_grew hg57 hap_vb1_n10 (bl hb20)
  have hap60 : OB v54 n23 := apart_grew hg57 hap_vb1_n23 (bl hm1)
  have hE := ext_grew hE hg57 ho1.2 (Nat.le_refl _)
  have hb8 := blk_grew hb8 hg57 hap_vb1_n2
  have hb20 := blk_grew hb20 hg57 hap_vb1_n10
  have hm1 := blk_grew hm1 hg57 hap_vb1_n23
  clear ho1
  clear hk53
  refine oS rfl (Yk.fieldAt wr28_fo53_0 T3 (oS rfl (Yk.storeC (i := 0) (v := v54) (vr (PQ n23 0) rfl) (vr v54 rfl) hm1 (by rw [refs_len]; decide) wr28_isz51 (RG.one (RG.ofOwn ho56)).1 (RG.one (RG.ofOwn ho56)).2 fun w61 hb62 hg63 hs64 => ?_)))
  have hE := row_fresh hE hg63 (Nat.le_trans hz32 (by omega))
  have hb8 := kb hg63 hb8 (by omega)
  have hb20 := kb hg63 hb20 (by omega)
  clear hm1
  have ho56 := OG.kept ho56 hg63 hap60
  have hm1 : w61.heap[n23]? = some (.cells (refsC ((⟨(y.1.branches.take i1) ++ [(⟨(((y.1.branches).getD (i1) dNmd).name), ((y.1.branches).getD (i1) dNmd).id⟩ : Nmd)], [], (((⟨[], [], [], zid, []⟩, ⟨.slice none 0 0, .slice none 0 0, .slice none 0 0⟩) : RefsV)).1.head, (((⟨[], [], [], zid, []⟩, ⟨.slice none 0 0, .slice none 0 0, .slice none 0 0⟩) : RefsV)).1.at_, []⟩, ⟨v54, (Value.slice none 0 0), (Value.slice none 0 0)⟩) : RefsV)).toArray 53 (0, 0)) := blk_eq hb62 (refs_s0 ((⟨(y.1.branches.take i1), [], (((⟨[], [], [], zid, []⟩, ⟨.slice none 0 0, .slice none 0 0, .slice none 0 0⟩) : RefsV)).1.head, (((⟨[], [], [], zid, []⟩, ⟨.slice none 0 0, .slice none 0 0, .slice none 0 0⟩) : RefsV)).1.at_, []⟩, ⟨vb1, (Value.slice none 0 0), (Value.slice none 0 0)⟩) : RefsV) v54 ((y.1.branches.take i1) ++ [(⟨(((y.1.branches).getD (i1) dNmd).name), ((y.1.branches).getD (i1) dNmd).id⟩ : Nmd)])); clear hb62
  have hl65 := bl hm1
  refine oZ (bN (tN (hK48 _ _ (wt (oM rfl (oS rfl (Yk.bin (xv := NI i1) (yv := NI 1) T4 rfl rfl (i64_add _ _ _ (by omega)) (oA rfl (oL_ [(0, .agg (refsC y).toArray), (1, PQ n2 0), (2, PQ n10 0), (3, PQ n23 0), (4, NI ((i1) + (1)))] ⟨T0, T1, T2, T3, rfl, trivial⟩ fun ρ66 ⟨T0, T1, T2, T3, T4, _⟩ => (tN (And.intro ⟨i1 + 1, v54, T0, T1, T2, T3, T4, hE, hb8, hb20, hm1, og_eq ho56 (take_snoc hlt1), by omega, hap58, hap59, hap60, trivial⟩ ?_)))))))))))
  show y.1.branches.length - (intOf (ρ66 4)).toNat < y.1.branches.length - (intOf (ρ41 4)).toNat
  rw [T4, q4]
  simp only [intOf, Int.toNat_natCast]; omega
 refine wpF_exit (thenF_exit (thenF_exit (inBlockF_hit (tN (hK38 _ _ (sk fun K67 hK67 => (sk fun K68 hK68 => (wt (oA rfl (oL_ [(0, .agg (refsC y).toArray), (1, PQ n2 0), (2, PQ n10 0), (3, PQ n23 0), (4, NI i1), (5, NI 0)] ⟨T0, T1, T2, T3, T4, rfl, trivial⟩ fun ρ69 ⟨T0, T1, T2, T3, T4, T5, _⟩ => (tN (hK68 _ _ (wpF_block (wpF_loop (fun (ρ : Slots) (wz : World) => ∃ i2 : Nat, ∃ vb2 : Value, ρ 0 = (.agg (refsC y).toArray : Value) ∧ ρ 1 = (PQ n2 0 : Value) ∧ ρ 2 = (PQ n10 0 : Value) ∧ ρ 3 = (PQ n23 0 : Value) ∧ ρ 4 = (NI i1 : Value) ∧ ρ 5 = (NI i2 : Value) ∧ Ext w wz ∧ wz.heap[n2]? = some (.cells (refsC y).toArray 49 (0, 0)) ∧ wz.heap[n10]? = some (.cells (refsC ((⟨[], [], [], zid, []⟩, ⟨.slice none 0 0, .slice none 0 0, .slice none 0 0⟩) : RefsV)).toArray 53 (0, 0)) ∧ OG w.heap.size 70 33 (nmdC) wz vb1 (y.1.branches.take i1) ∧ wz.heap[n23]? = some (.cells (refsC ((⟨(y.1.branches.take i1), (y.1.tags.take i2), (((⟨[], [], [], zid, []⟩, ⟨.slice none 0 0, .slice none 0 0, .slice none 0 0⟩) : RefsV)).1.head, (((⟨[], [], [], zid, []⟩, ⟨.slice none 0 0, .slice none 0 0, .slice none 0 0⟩) : RefsV)).1.at_, []⟩, ⟨vb1, vb2, (Value.slice none 0 0)⟩) : RefsV)).toArray 53 (0, 0)) ∧ OG w.heap.size 70 33 (nmdC) wz vb2 (y.1.tags.take i2) ∧ (i2 ≤ y.1.tags.length) ∧ (OB vb2 n2) ∧ (OB vb2 n10) ∧ (OB vb2 n23) ∧ (ApartV vb2 vb1) ∧ True) (fun ρ _ => y.1.tags.length - (intOf (ρ 5)).toNat) ⟨0, (Value.slice none 0 0), T0, T1, T2, T3, T4, T5, hE, hb8, hb20, ho1, hm1, OG.nil _ _ _ _ _, Nat.zero_le _, (fun h => by cases h), (fun h => by cases h), (fun h => by cases h), (fun k h => by cases h), trivial⟩ ?_))))))))))))))
 clear hm1
 clear hE hb8 hb20 ho1
 rintro ρ70 w71 ⟨i2, vb2, T0, T1, T2, T3, T4, T5, hE, hb8, hb20, ho1, hm2, ho2, hi2, hap_vb2_n2, hap_vb2_n10, hap_vb2_n23, hap_vb2_vb1, -⟩
 have q5 := T5
 have hl72 := (bl hb8)
 have hl73 := (bl hb20)
 have hl74 := (bl hm2)
 refine sk fun K75 hK75 => (sk fun K76 hK76 => (wt (oM rfl (oS rfl (Yk.fieldAt wr28_fo49_1 T1 (oS rfl (Yk.cell1 wr28_ty46 rfl (vr (PQ n2 1) rfl) (cellAt hb8 (show (refsC y)[1]? = some (y.2.tags : Value) from refs_g1 y)) (oS rfl (Yk.lenRG wr28_ty46 (RG.of (hmg.keep hE) (vr y.2.tags rfl)) (oS rfl (Yk.eqI (a := (i2 : Nat)) (b := ((y.1.tags).length : Nat)) T5 rfl (k_lss _ _ _ _) (oZ (tN (hK76 _ _ ?_))))))))))))))
 refine wpF_cond ((i2) < ((y.1.tags).length)) (vr (.bool (decide ((i2) < ((y.1.tags).length)))) rfl) (fun hc1 => ?_) (fun hc1 => ?_)
 ·have hlt2 : i2 < y.1.tags.length := hc1
  refine wpF_skip (tN (hK75 _ _ (sk fun K77 hK77 => (wpF_block ?_))))
  refine wpF_draw_cut 16 [Is (PQ n23 1), Is (vb2), Is (PQ n2 1), Is (y.2.tags), Is (NI i2), fun x w' => PR (nmdC ((y.1.tags).getD (i2) dNmd)) x w', PCell (St (((y.1.tags).getD (i2) dNmd).name)), Is (St (((y.1.tags).getD (i2) dNmd).name)), Is (PQ n2 1), Is (y.2.tags), Is (NI i2), fun x w' => PR (nmdC ((y.1.tags).getD (i2) dNmd)) x w', fun x w' => PR (Lib.byteCells ((y.1.tags).getD (i2) dNmd).id.1) x w', Is (AB (((y.1.tags).getD (i2) dNmd).id.1)), Is (.agg (nmdC (⟨(((y.1.tags).getD (i2) dNmd).name), ((y.1.tags).getD (i2) dNmd).id⟩ : Nmd)).toArray), fun x w' => RG 33 (nmdC) w' x ([(⟨(((y.1.tags).getD (i2) dNmd).name), ((y.1.tags).getD (i2) dNmd).id⟩ : Nmd)])] (by kernel_rfl) [38, 39, 40, 41, 42, 43, 44, 45, 46, 47, 48, 49, 50, 51, 52, 53, 54, 55] (by kernel_rfl) (by kernel_rfl) (by kernel_rfl) (by kernel_rfl) rfl rfl (si5 ⟨(fun _ _ _ h k => PR.keep h k), Stab.pcell _, (si4 ⟨(fun _ _ _ h k => PR.keep h k), (fun _ _ _ h k => PR.keep h k), (si2 ⟨(fun _ _ _ h k => RG.keep h k), trivial⟩)⟩)⟩) ?hs3009 ?hQ3009
  case hs3009 =>
   refine ⟨?_, ?_, ?_, ?_, ?_, ?_, ?_, ?_, ?_, ?_, ?_, ?_, ?_, ?_, ?_, ?_, ?_, ?_, ?_, trivial⟩
   ·refine stepFC (stepN rfl fun σ w1 hC h => ?_)
    have e3 := (eqo (h 3 (by decide))).trans T3
    exact Yk.fieldAt wr28_fo53_1 e3 ⟨Ext.refl _, rfl⟩
   ·refine stepFC (stepN rfl fun σ w1 hC h => ?_)
    have e38 := eqo (h 38 (by decide))
    exact Yk.cell1 wr28_ty51 rfl e38 (cellAt (eb hC hm2) (show (refsC ((⟨(y.1.branches.take i1), (y.1.tags.take i2), (((⟨[], [], [], zid, []⟩, ⟨.slice none 0 0, .slice none 0 0, .slice none 0 0⟩) : RefsV)).1.head, (((⟨[], [], [], zid, []⟩, ⟨.slice none 0 0, .slice none 0 0, .slice none 0 0⟩) : RefsV)).1.at_, []⟩, ⟨vb1, vb2, (Value.slice none 0 0)⟩) : RefsV))[1]? = some (vb2 : Value) from refs_g1 ((⟨(y.1.branches.take i1), (y.1.tags.take i2), (((⟨[], [], [], zid, []⟩, ⟨.slice none 0 0, .slice none 0 0, .slice none 0 0⟩) : RefsV)).1.head, (((⟨[], [], [], zid, []⟩, ⟨.slice none 0 0, .slice none 0 0, .slice none 0 0⟩) : RefsV)).1.at_, []⟩, ⟨vb1, vb2, (Value.slice none 0 0)⟩) : RefsV))) ⟨Ext.refl _, rfl⟩
   ·refine stepFC (stepN rfl fun σ w1 hC h => ?_)
    have e1 := (eqo (h 1 (by decide))).trans T1
    exact Yk.fieldAt wr28_fo49_1 e1 ⟨Ext.refl _, rfl⟩
   ·refine stepFC (stepN rfl fun σ w1 hC h => ?_)
    have e40 := eqo (h 40 (by decide))
    exact Yk.cell1 wr28_ty46 rfl e40 (cellAt (eb hC hb8) (show (refsC y)[1]? = some (y.2.tags : Value) from refs_g1 y)) ⟨Ext.refl _, rfl⟩
   ·refine stepFC (stepN rfl fun σ w1 hC h => ?_)
    have e5 := (eqo (h 5 (by decide))).trans T5
    exact Yk.move e5 ⟨Ext.refl _, rfl⟩
   ·refine stepFC (stepN rfl fun σ w1 hC h => ?_)
    have e41 := eqo (h 41 (by decide))
    have e42 := eqo (h 42 (by decide))
    exact Yk.atRG wr28_ty46 wr28_szg69 (by decide) dNmd (RG.of (hmg.keep (hE.trans hC)) e41) e42 (by omega) fun v h => ⟨Ext.refl _, h⟩
   ·refine stepFC (stepN rfl fun σ w1 hC h => ?_)
    have e43 : (fun x w' => PR (nmdC ((y.1.tags).getD (i2) dNmd)) x w') (σ 43) w1 := h 43 (by decide)
    exact Yk.fieldPR (n := 1) wr28_fo69_0 e43 fun v h => ⟨Ext.refl _, PR.pcell (by rw [nmd_f0] at h; exact h)⟩
   ·refine stepFC (stepN rfl fun σ w1 hC h => ?_)
    have e44 : (PCell (St (((y.1.tags).getD (i2) dNmd).name))) (σ 44) w1 := h 44 (by decide)
    exact Yk.loadC wr28_ty9 rfl e44 ⟨Ext.refl _, rfl⟩
   ·refine stepFC (stepN rfl fun σ w1 hC h => ?_)
    have e1 := (eqo (h 1 (by decide))).trans T1
    exact Yk.fieldAt wr28_fo49_1 e1 ⟨Ext.refl _, rfl⟩
   ·refine stepFC (stepN rfl fun σ w1 hC h => ?_)
    have e46 := eqo (h 46 (by decide))
    exact Yk.cell1 wr28_ty46 rfl e46 (cellAt (eb hC hb8) (show (refsC y)[1]? = some (y.2.tags : Value) from refs_g1 y)) ⟨Ext.refl _, rfl⟩
   ·refine stepFC (stepN rfl fun σ w1 hC h => ?_)
    have e5 := (eqo (h 5 (by decide))).trans T5
    exact Yk.move e5 ⟨Ext.refl _, rfl⟩
   ·refine stepFC (stepN rfl fun σ w1 hC h => ?_)
    have e47 := eqo (h 47 (by decide))
    have e48 := eqo (h 48 (by decide))
    exact Yk.atRG wr28_ty46 wr28_szg69 (by decide) dNmd (RG.of (hmg.keep (hE.trans hC)) e47) e48 (by omega) fun v h => ⟨Ext.refl _, h⟩
   ·refine stepFC (stepN rfl fun σ w1 hC h => ?_)
    have e49 : (fun x w' => PR (nmdC ((y.1.tags).getD (i2) dNmd)) x w') (σ 49) w1 := h 49 (by decide)
    exact Yk.fieldPR (n := 32) wr28_fo69_1 e49 fun v h => ⟨Ext.refl _, by rw [nmd_f1] at h; exact h⟩
   ·refine stepFC (stepN rfl fun σ w1 hC h => ?_)
    have e50 : (fun x w' => PR (Lib.byteCells ((y.1.tags).getD (i2) dNmd).id.1) x w') (σ 50) w1 := h 50 (by decide)
    exact Yk.loadPR e50 wr28_ty25 rfl (by rw [Lib.byteCells_length, ((y.1.tags).getD (i2) dNmd).id.2]; exact wr28_isz25) ⟨Ext.refl _, rfl⟩
   ·refine stepFC (stepN rfl fun σ w1 hC h => ?_)
    have e45 := eqo (h 45 (by decide))
    have e51 := eqo (h 51 (by decide))
    exact Yk.build2 e45 e51 (fun w => wr28_bs70_0_1 (((y.1.tags).getD (i2) dNmd).name) (((y.1.tags).getD (i2) dNmd).id) w) ⟨Ext.refl _, rfl⟩
   ·refine stepFC (stepN rfl fun σ w1 hC h => ?_)
    have e52 := eqo (h 52 (by decide))
    exact Yk.lit1G (a := (⟨(((y.1.tags).getD (i2) dNmd).name), ((y.1.tags).getD (i2) dNmd).id⟩ : Nmd)) (enc := nmdC) e52 (nmd_len _) wr28_lg51 fun v w2 h hx => ⟨hx, h⟩
   ·exact trivial
   ·exact trivial
   ·exact trivial
  intro ρ78 w79 hx80 he hf
  obtain ⟨-, k39, -, -, -, -, -, -, -, -, -, -, -, -, -, k53, -⟩ := hf
  obtain ⟨T0, T1, T2, T3, T4, T5, -⟩ := he.hold [(0, _), (1, _), (2, _), (3, _), (4, _), (5, _)] ⟨T0, T1, T2, T3, T4, T5, trivial⟩ rfl
  clear he
  have hE := hE.trans hx80
  have hb8 := eb hx80 hb8
  have hb20 := eb hx80 hb20
  have ho1 := ho1.keep hx80
  have hm2 := eb hx80 hm2
  have ho2 := ho2.keep hx80
  have T39 : ρ78 39 = vb2 := k39
  have k53 : (fun x w' => RG 33 (nmdC) w' x ([(⟨(((y.1.tags).getD (i2) dNmd).name), ((y.1.tags).getD (i2) dNmd).id⟩ : Nmd)])) (ρ78 53) w79 := k53
  obtain ⟨v81, T53⟩ : ∃ v, ρ78 53 = v := ⟨_, rfl⟩
  rw [T53] at k53
  have hk82 := k53; clear k53
  clear k39
  refine oS rfl (Yk.appendRG _ _ w.heap.size _ 48 wr28_ty51 wr28_ig70.choose_spec.1 wr28_ig70.choose_spec.2 wr28_ty51 (y.1.tags.take i2) ([(⟨(((y.1.tags).getD (i2) dNmd).name), ((y.1.tags).getD (i2) dNmd).id⟩ : Nmd)]) (OG.of ho2 T39) (RG.of hk82 T53) (fun _ _ => nmd_one) (by simp only [List.length_take, List.length_append, List.length_cons, List.length_nil]; omega) (by simp only [List.length_take, List.length_append, List.length_cons, List.length_nil]; omega) hE.size fun v83 w84 ho85 hg86 => ?_)
  have hg86 : Grew w79 w84 vb2 v83 := .eqv T39 hg86
  have hap87 : OB v83 n2 := apart_grew hg86 hap_vb2_n2 (bl hb8)
  have hap88 : OB v83 n10 := apart_grew hg86 hap_vb2_n10 (bl hb20)
  have hap89 : OB v83 n23 := apart_grew hg86 hap_vb2_n23 (bl hm2)
  have hap90 : ApartV v83 vb1 := apartv_grew hg86 hap_vb2_vb1 ho1.2
  have hap91 : ApartV vb1 v83 := fun k h1 h2 => hap90 k h2 h1
  have hE := ext_grew hE hg86 ho2.2 (Nat.le_refl _)
  have hb8 := blk_grew hb8 hg86 hap_vb2_n2
  have hb20 := blk_grew hb20 hg86 hap_vb2_n10
  have ho1 := og_grew ho1 hg86 hap_vb2_vb1
  have hm2 := blk_grew hm2 hg86 hap_vb2_n23
  clear ho2
  clear hk82
  refine oS rfl (Yk.fieldAt wr28_fo53_1 T3 (oS rfl (Yk.storeC (i := 1) (v := v83) (vr (PQ n23 1) rfl) (vr v83 rfl) hm2 (by rw [refs_len]; decide) wr28_isz51 (RG.one (RG.ofOwn ho85)).1 (RG.one (RG.ofOwn ho85)).2 fun w92 hb93 hg94 hs95 => ?_)))
  have hE := row_fresh hE hg94 (Nat.le_trans hz32 (by omega))
  have hb8 := kb hg94 hb8 (by omega)
  have hb20 := kb hg94 hb20 (by omega)
  have ho1 := OG.kept ho1 hg94 hap_vb1_n23
  clear hm2
  have ho85 := OG.kept ho85 hg94 hap89
  have hm2 : w92.heap[n23]? = some (.cells (refsC ((⟨(y.1.branches.take i1), (y.1.tags.take i2) ++ [(⟨(((y.1.tags).getD (i2) dNmd).name), ((y.1.tags).getD (i2) dNmd).id⟩ : Nmd)], (((⟨[], [], [], zid, []⟩, ⟨.slice none 0 0, .slice none 0 0, .slice none 0 0⟩) : RefsV)).1.head, (((⟨[], [], [], zid, []⟩, ⟨.slice none 0 0, .slice none 0 0, .slice none 0 0⟩) : RefsV)).1.at_, []⟩, ⟨vb1, v83, (Value.slice none 0 0)⟩) : RefsV)).toArray 53 (0, 0)) := blk_eq hb93 (refs_s1 ((⟨(y.1.branches.take i1), (y.1.tags.take i2), (((⟨[], [], [], zid, []⟩, ⟨.slice none 0 0, .slice none 0 0, .slice none 0 0⟩) : RefsV)).1.head, (((⟨[], [], [], zid, []⟩, ⟨.slice none 0 0, .slice none 0 0, .slice none 0 0⟩) : RefsV)).1.at_, []⟩, ⟨vb1, vb2, (Value.slice none 0 0)⟩) : RefsV) v83 ((y.1.tags.take i2) ++ [(⟨(((y.1.tags).getD (i2) dNmd).name), ((y.1.tags).getD (i2) dNmd).id⟩ : Nmd)])); clear hb93
  have hl96 := bl hm2
  refine oZ (bN (tN (hK77 _ _ (wt (oM rfl (oS rfl (Yk.bin (xv := NI i2) (yv := NI 1) T5 rfl rfl (i64_add _ _ _ (by omega)) (oA rfl (oL_ [(0, .agg (refsC y).toArray), (1, PQ n2 0), (2, PQ n10 0), (3, PQ n23 0), (4, NI i1), (5, NI ((i2) + (1)))] ⟨T0, T1, T2, T3, T4, rfl, trivial⟩ fun ρ97 ⟨T0, T1, T2, T3, T4, T5, _⟩ => (tN (And.intro ⟨i2 + 1, v83, T0, T1, T2, T3, T4, T5, hE, hb8, hb20, ho1, hm2, og_eq ho85 (take_snoc hlt2), by omega, hap87, hap88, hap89, hap90, trivial⟩ ?_)))))))))))
  show y.1.tags.length - (intOf (ρ97 5)).toNat < y.1.tags.length - (intOf (ρ70 5)).toNat
  rw [T5, q5]
  simp only [intOf, Int.toNat_natCast]; omega
 refine wpF_exit (thenF_exit (thenF_exit (inBlockF_hit (tN (hK67 _ _ (sk fun K98 hK98 => ?_))))))
 have hx99 : Ext w71 (World.drew w71) := (Below.refl _ _).drew
 have hE := hE.trans hx99
 have hb8 := eb hx99 hb8
 have hb20 := eb hx99 hb20
 have ho1 := ho1.keep hx99
 have hm2 := eb hx99 hm2
 have ho2 := ho2.keep hx99
 refine wpF_float [(0, 56, PQ n2 2), (1, 57, St (y.1.head)), (2, 58, PQ n2 3), (3, 59, AB y.1.at_.1), (4, 60, PQ n23 2), (6, 61, PQ n23 3)] [5, 7] (fun wz => Ext w wz ∧ wz.heap[n2]? = some (.cells (refsC y).toArray 49 (0, 0)) ∧ wz.heap[n10]? = some (.cells (refsC ((⟨[], [], [], zid, []⟩, ⟨.slice none 0 0, .slice none 0 0, .slice none 0 0⟩) : RefsV)).toArray 53 (0, 0)) ∧ True) (by kernel_rfl) (by kernel_rfl) (by kernel_rfl) ⟨hE, hb8, hb20, trivial⟩ ⟨fun w100 ⟨hE, hb8, hb20, _⟩ => Yk.fieldAt wr28_fo49_2 T1 ⟨rfl, rfl⟩, fun w100 ⟨hE, hb8, hb20, _⟩ => Yk.cell1 wr28_ty9 rfl (vr (PQ n2 2) rfl) (cellAt hb8 (show (refsC y)[2]? = some (St (y.1.head) : Value) from refs_g2 y)) ⟨rfl, rfl⟩, fun w100 ⟨hE, hb8, hb20, _⟩ => Yk.fieldAt wr28_fo49_3 T1 ⟨rfl, rfl⟩, fun w100 ⟨hE, hb8, hb20, _⟩ => Yk.loadPR (PR.blk hb8 (refs_m3 y) (refs_n3 y) (vr (PQ n2 3) rfl)) wr28_ty25 rfl (sizeId_of y.1.at_.2) ⟨rfl, rfl⟩, fun w100 ⟨hE, hb8, hb20, _⟩ => Yk.fieldAt wr28_fo53_2 T3 ⟨rfl, rfl⟩, fun w100 ⟨hE, hb8, hb20, _⟩ => Yk.fieldAt wr28_fo53_3 T3 ⟨rfl, rfl⟩, trivial⟩ (chF_step rfl (Yk.storeC (i := 2) (v := St (y.1.head)) (vr (PQ n23 2) rfl) (vr (St (y.1.head)) rfl) hm2 (by rw [refs_len]; decide) wr28_isz9 rfl rfl fun w101 hb102 hg103 hs104 => ?_))
 have hE := row_fresh hE hg103 (Nat.le_trans hz32 (by omega))
 have hb8 := kb hg103 hb8 (by omega)
 have hb20 := kb hg103 hb20 (by omega)
 have ho1 := OG.kept ho1 hg103 hap_vb1_n23
 clear hm2
 have ho2 := OG.kept ho2 hg103 hap_vb2_n23
 have hm2 : w101.heap[n23]? = some (.cells (refsC ((⟨(y.1.branches.take i1), (y.1.tags.take i2), y.1.head, (((⟨[], [], [], zid, []⟩, ⟨.slice none 0 0, .slice none 0 0, .slice none 0 0⟩) : RefsV)).1.at_, []⟩, ⟨vb1, vb2, (Value.slice none 0 0)⟩) : RefsV)).toArray 53 (0, 0)) := blk_eq hb102 (refs_s2 ((⟨(y.1.branches.take i1), (y.1.tags.take i2), (((⟨[], [], [], zid, []⟩, ⟨.slice none 0 0, .slice none 0 0, .slice none 0 0⟩) : RefsV)).1.head, (((⟨[], [], [], zid, []⟩, ⟨.slice none 0 0, .slice none 0 0, .slice none 0 0⟩) : RefsV)).1.at_, []⟩, ⟨vb1, vb2, (Value.slice none 0 0)⟩) : RefsV) y.1.head); clear hb102
 have hl105 := bl hm2
 refine ⟨.inr ⟨hE, hb8, hb20, trivial⟩, ?_⟩
 refine chF_step rfl (Yk.storeMid (a := refs_a3 ((⟨(y.1.branches.take i1), (y.1.tags.take i2), y.1.head, (((⟨[], [], [], zid, []⟩, ⟨.slice none 0 0, .slice none 0 0, .slice none 0 0⟩) : RefsV)).1.at_, []⟩, ⟨vb1, vb2, (Value.slice none 0 0)⟩) : RefsV)) (m := Lib.byteCells ((((⟨[], [], [], zid, []⟩, ⟨.slice none 0 0, .slice none 0 0, .slice none 0 0⟩) : RefsV)).1.at_).1) (z := refs_z3 ((⟨(y.1.branches.take i1), (y.1.tags.take i2), y.1.head, (((⟨[], [], [], zid, []⟩, ⟨.slice none 0 0, .slice none 0 0, .slice none 0 0⟩) : RefsV)).1.at_, []⟩, ⟨vb1, vb2, (Value.slice none 0 0)⟩) : RefsV)) (cells := Lib.byteCells y.1.at_.1) (vr (PQ n23 3) rfl) (vr (AB y.1.at_.1) rfl) (refs_m3 ((⟨(y.1.branches.take i1), (y.1.tags.take i2), y.1.head, (((⟨[], [], [], zid, []⟩, ⟨.slice none 0 0, .slice none 0 0, .slice none 0 0⟩) : RefsV)).1.at_, []⟩, ⟨vb1, vb2, (Value.slice none 0 0)⟩) : RefsV) ▸ hm2) (refs_n3 ((⟨(y.1.branches.take i1), (y.1.tags.take i2), y.1.head, (((⟨[], [], [], zid, []⟩, ⟨.slice none 0 0, .slice none 0 0, .slice none 0 0⟩) : RefsV)).1.at_, []⟩, ⟨vb1, vb2, (Value.slice none 0 0)⟩) : RefsV)) (by rw [Lib.byteCells_length, Lib.byteCells_length, ((((⟨[], [], [], zid, []⟩, ⟨.slice none 0 0, .slice none 0 0, .slice none 0 0⟩) : RefsV)).1.at_).2, y.1.at_.2]) (by rw [Lib.byteCells_length, y.1.at_.2]; exact wr28_isz25) (byteCells_one _) fun w106 hb107 hg108 hs109 => ?_)
 have hE := row_fresh hE hg108 (Nat.le_trans hz32 (by omega))
 have hb8 := kb hg108 hb8 (by omega)
 have hb20 := kb hg108 hb20 (by omega)
 have ho1 := OG.kept ho1 hg108 hap_vb1_n23
 have ho2 := OG.kept ho2 hg108 hap_vb2_n23
 clear hm2
 have hm2 : w106.heap[n23]? = some (.cells (refsC ((⟨(y.1.branches.take i1), (y.1.tags.take i2), y.1.head, y.1.at_, []⟩, ⟨vb1, vb2, (Value.slice none 0 0)⟩) : RefsV)).toArray 53 (0, 0)) := blk_eq hb107 (refs_s3 ((⟨(y.1.branches.take i1), (y.1.tags.take i2), y.1.head, (((⟨[], [], [], zid, []⟩, ⟨.slice none 0 0, .slice none 0 0, .slice none 0 0⟩) : RefsV)).1.at_, []⟩, ⟨vb1, vb2, (Value.slice none 0 0)⟩) : RefsV) y.1.at_); clear hb107
 have hl110 := bl hm2
 refine ⟨.inl rfl, ?_⟩
 refine chF_nil (tN (hK98 _ _ (sk fun K111 hK111 => (wt (oS rfl (Yk.fieldAt wr28_fo53_4 T3 (oS rfl (Yk.cell1 wr28_ty47 rfl (vr (PQ n23 35) rfl) (cellAt hm2 (show (refsC ((⟨(y.1.branches.take i1), (y.1.tags.take i2), y.1.head, y.1.at_, []⟩, ⟨vb1, vb2, (Value.slice none 0 0)⟩) : RefsV))[35]? = some ((Value.slice none 0 0) : Value) from refs_g4 ((⟨(y.1.branches.take i1), (y.1.tags.take i2), y.1.head, y.1.at_, []⟩, ⟨vb1, vb2, (Value.slice none 0 0)⟩) : RefsV))) (oS rfl (Yk.fieldAt wr28_fo49_4 T1 (oS rfl (Yk.cell1 wr28_ty47 rfl (vr (PQ n2 35) rfl) (cellAt hb8 (show (refsC y)[35]? = some (y.2.log : Value) from refs_g4 y)) ?_))))))))))))
 have hA112 := Ext.refl w106
 have hea113 := hE
 have hz114 := hE.size
 refine oS rfl (Yk.appendRG _ _ w106.heap.size _ 104 wr28_ty47 wr28_ig122.choose_spec.1 wr28_ig122.choose_spec.2 wr28_ty47 ([]) (y.1.log) (OG.of (OG.nil _ _ _ _ _) (vr (Value.slice none 0 0) rfl)) (RG.of (hml.keep hE) (vr y.2.log rfl)) (fun _ _ => ent_one) (by simp only [List.length_nil]; omega) (by simp only [List.length_nil]; omega) hA112.size fun v115 w116 ho117 hg118 => ?_)
 have hg118 : Grew w106 w116 (.slice none 0 0) v115 := hg118
 have hlt119 := (bl hb8)
 have hlt120 := (bl hb20)
 have hlt121 := (bl hm2)
 have hx_ : Ext w106 w116 := Ext.of (by have := hg118.by_; exact this)
 have hE := hE.trans hx_
 have hb8 := eb hx_ hb8
 have hb20 := eb hx_ hb20
 have ho1 := ho1.keep hx_
 have ho2 := ho2.keep hx_
 have hm2 := eb hx_ hm2
 have hA112 := hA112.trans hx_
 have hap122 : OB v115 n2 := own_older ho117.2 hlt119
 have hap123 : OB v115 n10 := own_older ho117.2 hlt120
 have hap124 : OB v115 n23 := own_older ho117.2 hlt121
 refine oS rfl (Yk.fieldAt wr28_fo53_4 T3 (oS rfl (Yk.storeC (i := 35) (v := v115) (vr (PQ n23 35) rfl) (vr v115 rfl) hm2 (by rw [refs_len]; decide) wr28_isz47 (RG.one (RG.ofOwn ho117)).1 (RG.one (RG.ofOwn ho117)).2 fun w125 hb126 hg127 hs128 => ?_)))
 have hE := row_fresh hE hg127 (Nat.le_trans hz32 (by omega))
 have hb8 := kb hg127 hb8 (by omega)
 have hb20 := kb hg127 hb20 (by omega)
 have ho1 := OG.kept ho1 hg127 hap_vb1_n23
 have ho2 := OG.kept ho2 hg127 hap_vb2_n23
 clear hm2
 clear hA112
 have ho117 := OG.kept ho117 hg127 hap124
 have hm2 : w125.heap[n23]? = some (.cells (refsC ((⟨(y.1.branches.take i1), (y.1.tags.take i2), y.1.head, y.1.at_, ([]) ++ y.1.log⟩, ⟨vb1, vb2, v115⟩) : RefsV)).toArray 53 (0, 0)) := blk_eq hb126 (refs_s4 ((⟨(y.1.branches.take i1), (y.1.tags.take i2), y.1.head, y.1.at_, []⟩, ⟨vb1, vb2, (Value.slice none 0 0)⟩) : RefsV) v115 (([]) ++ y.1.log)); clear hb126
 have hl129 := bl hm2
 refine oZ (tN (hK111 _ _ (sk fun K130 hK130 => (wt (oS rfl (Yk.loadAll T3 hm2 (wr28_ty53).choose_spec rfl (st_isz (refs_len ((⟨(y.1.branches.take i1), (y.1.tags.take i2), y.1.head, y.1.at_, ([]) ++ y.1.log⟩, ⟨vb1, vb2, v115⟩) : RefsV)) wr28_isz53) (oS rfl (Yk.storeAll T2 (vr (.agg (refsC ((⟨(y.1.branches.take i1), (y.1.tags.take i2), y.1.head, y.1.at_, ([]) ++ y.1.log⟩, ⟨vb1, vb2, v115⟩) : RefsV)).toArray) rfl) hb20 (by simp only [List.size_toArray, refs_len]) (st_isz (refs_len _) wr28_isz53) (refs_one (x := ((⟨(y.1.branches.take i1), (y.1.tags.take i2), y.1.head, y.1.at_, ([]) ++ y.1.log⟩, ⟨vb1, vb2, v115⟩) : RefsV)) (RG.one (RG.ofOwn ho1)).2 (RG.one (RG.ofOwn ho2)).2 (RG.one (RG.ofOwn ho117)).2) fun w131 hb132 hg133 hs134 => ?_))))))))
 have hE := row_fresh hE hg133 (Nat.le_trans hz18 (by omega))
 have hb8 := kb hg133 hb8 (by omega)
 clear hb20
 have ho1 := OG.kept ho1 hg133 hap_vb1_n10
 have ho2 := OG.kept ho2 hg133 hap_vb2_n10
 have ho117 := OG.kept ho117 hg133 hap123
 have hm2 := kb hg133 hm2 (by omega)
 have hb20 : w131.heap[n10]? = some (.cells (refsC ((⟨(y.1.branches.take i1), (y.1.tags.take i2), y.1.head, y.1.at_, ([]) ++ y.1.log⟩, ⟨vb1, vb2, v115⟩) : RefsV)).toArray 53 (0, 0)) := hb132; clear hb132
 have hl135 := bl hb20
 refine oZ (tN (hK130 _ _ (wpF_ret (postF_ret (fn := Tryd.f27) _ rfl [.agg (refsC ((⟨(y.1.branches.take i1), (y.1.tags.take i2), y.1.head, y.1.at_, ([]) ++ y.1.log⟩, ⟨vb1, vb2, v115⟩) : RefsV)).toArray] (.agg (refsC ((⟨(y.1.branches.take i1), (y.1.tags.take i2), y.1.head, y.1.at_, ([]) ++ y.1.log⟩, ⟨vb1, vb2, v115⟩) : RefsV)).toArray) rfl ⟨ResF.row T2 hb20 (wr28_ty53).choose_spec rfl (st_isz (refs_len _) wr28_isz53), trivial⟩ ?_))))
 have e1 : y.1.branches.take i1 = y.1.branches := List.take_of_length_le (by omega)
 have e2 : y.1.tags.take i2 = y.1.tags := List.take_of_length_le (by omega)
 refine ⟨⟨_, _, _⟩, ?_, ⟨RG.ofOwn (og_eq ho1 e1), RG.ofOwn (og_eq ho2 e2), RG.ofOwn (og_eq ho117 (by simp))⟩, hE⟩
 rw [e1, e2]; rfl

open Go.RowKit
set_option maxRecDepth 100000
theorem lightR_few {r : Refs} (h : lightR r = true) : r.branches.length ≤ 80 ∧ r.tags.length ≤ 80 ∧ r.log.length ≤ 80 := by
 unfold lightR at h
 simp only [Bool.and_eq_true] at h
 have h1 := h.1
 exact few_of (by simpa using h1)
set_option maxHeartbeats 1600000
open Go.RowKit
set_option maxRecDepth 100000
theorem lookP_len (r : Refs) (s : Bs) : (lookP r s).1.length = 32 := by
 unfold lookP
 have h0 : zid.1.length = 32 := zid.2
 split
 ·split
  ·split
   ·exact r.at_.2
   ·split
    ·exact (List.getD _ _ dNmd).id.2
    ·exact h0
  ·split
   ·exact (List.getD _ _ dNmd).id.2
   ·split
    ·exact (List.getD _ _ dNmd).id.2
    ·split
     ·exact unhex_length s
     ·exact h0
 ·exact h0
theorem same_set {o1 o2 : List Bs} {p : Bs → Prop} (s1 : SAsc o1) (m1 : ∀ q, q ∈ o1 ↔ p q) (a2 : Asc o2) (n2 : o2.Nodup) (m2 : ∀ q, q ∈ o2 ↔ p q) : o1 = o2 :=
 asc_perm (s1.imp fun h => Int.le_of_lt h) a2 ((List.perm_ext_iff_of_nodup (s1.imp fun h e => by rw [e, cmp_self] at h; omega) n2).2 fun q => (m1 q).trans (m2 q).symm)
theorem wr54_ty49 : ∃ fs, Tryd.prog.underlying 49 = some (.struct fs) := struct_of (by kernel_rfl)
theorem wr54_isz49 : (Tryd.prog.info? 49).map (·.size) = some 36 := by kernel_rfl
theorem wr54_pl25 : Plain Tryd.prog 25 := fun _ _ => by kernel_rfl
theorem wr54_ty9 : Tryd.prog.underlying 9 = some (.string) := by kernel_rfl
theorem wr54_pl27 : Plain Tryd.prog 27 := fun _ _ => by kernel_rfl
theorem wr54_pl39 : Plain Tryd.prog 39 := fun _ _ => by kernel_rfl
theorem wr54_al25 {d : Option Tmp} {ty : TypeId} {pos : String} {af : Array Edge} {gd : Option (Nat × Bool)} (σ : Operand → Value) (w : World) : (execOp σ ⟨d, .alloc 25, ty, pos, af, gd⟩).run Tryd.prog w = .ok (.value (PQ w.heap.size 0)) (w.alloc (.cells (Lib.byteCells (List.replicate 32 0)).toArray 25)) := by kernel_rfl
theorem wr54_pl40 : Plain Tryd.prog 40 := fun _ _ => by kernel_rfl
theorem wr54_ty25 : Tryd.prog.underlying 25 = some (.array 32 5) := by kernel_rfl
theorem wr54_eg25 : Tryd.prog.eqGuardType Tryd.prog.depth 25 = false := by kernel_rfl
theorem wr54_ty5 : Tryd.prog.underlying 5 = some (.int .u8) := by kernel_rfl
theorem wr54_sz5 : ∀ w' : World, (sizeOf 5).run Tryd.prog w' = .ok 1 w' := fun _ => by kernel_rfl
theorem wr54_pl42 : Plain Tryd.prog 42 := fun _ _ => by kernel_rfl
theorem wr54_pl43 : Plain Tryd.prog 43 := fun _ _ => by kernel_rfl
theorem wr54_pl41 : Plain Tryd.prog 41 := fun _ _ => by kernel_rfl
theorem wr54_pl35 : Plain Tryd.prog 35 := fun _ _ => by kernel_rfl
set_option maxHeartbeats 1600000
theorem refsLook_walk (w : World) (y : RefsV) (hm : RefsAt w y) (hN : NamesLt y.1) (s : Bs) :
  Calls Tryd.prog 12 #[.agg (refsC y).toArray, St s] w fun e w' => e = .returned (.bool true) ∧ Ext w w' := by
 have hmt := hm.branches
 have hmg := hm.tags
 have hml := hm.log
 refine calls_of_wpF (args := [.agg (refsC y).toArray, St (s)]) Tryd.func12 rfl 49 rfl (Nat.le_of_ble_eq_true rfl) ?_
 intro ρ0 hb
 have T0 : ρ0 0 = (.agg (refsC y).toArray : Value) := hb.get 0
 have T1 : ρ0 1 = (St (s) : Value) := hb.get 1
 clear hb
 have hE := Ext.refl w
 refine sk fun K1 hK1 => (wt (oS rfl (Yk.box (cs := (refsC y : List Value).toArray) T0 fun n2 w3 hn4 hb5 hx6 hs7 => ?_)))
 have hE := hE.trans hx6
 have hb8 := hb5; clear hb5
 have hl9 : n2 < w3.heap.size := by omega
 refine oA rfl (oZ (tN (hK1 _ _ (sk fun K10 hK10 => (sk fun K11 hK11 => (wt (oS rfl (Yk.loadAll (vr (PQ n2 0) rfl) hb8 (wr54_ty49).choose_spec rfl (st_isz (refs_len y) wr54_isz49) (oS rfl (Yk.callA1 wr54_pl25 (vr (.agg (refsC y).toArray) rfl) ((light20_any _ y (RefsAt.mk (hmt.keep hE) (hmg.keep hE) (hml.keep hE))).mono ?_)))))))))))
 rintro e w13 ⟨rfl, hx12⟩
 refine ⟨_, rfl, ?_⟩
 have hE := hE.trans hx12
 have hb8 := eb hx12 hb8
 refine oS rfl (Yk.notB (vr (.bool (lightR y.1)) rfl) (oM rfl (opsF_mayV (St (s)) rfl rfl (gF (vr (.bool (!(lightR y.1))) rfl)) (fun hG14 => Yk.move T1 ⟨rfl, rfl⟩) (opsF_mayV (NI s.length) rfl rfl (gF (vr (.bool (!(lightR y.1))) rfl)) (fun hG15 => Yk.lenSt (l := s) wr54_ty9 (mayT (vr (cond (!(!(lightR y.1))) (St (s)) undef) rfl) hG15) ⟨rfl, rfl⟩) (opsF_mayV (.bool (decide ((200) < (s.length)))) rfl rfl (gF (vr (.bool (!(lightR y.1))) rfl)) (fun hG16 => Yk.eqI (a := ((s.length : Nat) : Int)) (b := ((200 : Nat) : Int)) (mayT (vr (cond (!(!(lightR y.1))) (NI s.length) undef) rfl) hG16) (vr (NI 200) rfl) (k_gtr _ .i64 (s.length) (200)) ⟨rfl, rfl⟩) (oS rfl (Yk.pickOrN (vr (.bool (!(lightR y.1))) rfl) (vr (.bool (true)) rfl) (fun hA => (mayT (vr (cond (!(!(lightR y.1))) (.bool (decide ((200) < (s.length)))) undef) rfl) (not_i hA))) fun bb17 hbb18 => (oZ (tN (hK11 _ _ ?_))))))))))
 refine wpF_condB (bb17) (vr (.bool (bb17)) rfl) (fun hc0 => ?_) (fun hc0 => ?_)
 ·refine sk fun K19 hK19 => (wt (oA rfl (oZ (tN (hK19 _ _ (wpF_ret (thenF_ret (postF_ret (fn := Tryd.f12) _ rfl [.bool (true)] (.bool (true)) rfl ⟨rfl, trivial⟩ ?_))))))))
  exact ⟨rfl, hE⟩
 subst hbb18
 have h0 : lightR y.1 = true ∧ s.length ≤ 200 := by simpa using hc0
 have hc := lightR_few h0.1
 have hL : RefsLt y.1 := lt_of hN hc
 have hsl : s.length ≤ 9223372036854775807 := by have := h0.2; omega
 refine wpF_skip (tN (hK10 _ _ (sk fun K20 hK20 => (wt (oS rfl (Yk.loadAll (vr (PQ n2 0) rfl) hb8 (wr54_ty49).choose_spec rfl (st_isz (refs_len y) wr54_isz49) (oS rfl (Yk.callA1 wr54_pl27 (vr (.agg (refsC y).toArray) rfl) ((told20_any _ y (RefsAt.mk (hmt.keep hE) (hmg.keep hE) (hml.keep hE)) hc).mono ?_)))))))))
 rintro e w24 ⟨v21, rfl, hp22, hx23⟩
 refine ⟨_, rfl, ?_⟩
 have hE := hE.trans hx23
 have hb8 := eb hx23 hb8
 refine oM rfl (oS rfl (Yk.callA2 wr54_pl39 (vr (.agg (refsC (y.1, v21)).toArray) rfl) T1 ((look_any _ (y.1, v21) hp22 hL s hsl).mono ?_)))
 rintro e w26 ⟨rfl, hx25⟩
 refine ⟨_, rfl, ?_⟩
 have hE := hE.trans hx25
 have hb8 := eb hx25 hb8
 have hp22 := hp22.keep hx25
 refine oM rfl (oS rfl (Yk.extract (vs := [AB ((lookP y.1 s).1), NI ((lookP y.1 s).2)]) (vr (.tuple #[AB ((lookP y.1 s).1), NI ((lookP y.1 s).2)]) rfl) (show _ = some (AB ((lookP y.1 s).1) : Value) from rfl) (oS rfl (Yk.extract (vs := [AB ((lookP y.1 s).1), NI ((lookP y.1 s).2)]) (vr (.tuple #[AB ((lookP y.1 s).1), NI ((lookP y.1 s).2)]) rfl) (show _ = some (NI ((lookP y.1 s).2) : Value) from rfl) (oS rfl (Yk.alloc (cs := (Lib.byteCells (List.replicate 32 0)).toArray) wr54_al25 fun n27 w28 hn29 hb30 hx31 hs32 => ?_))))))
 have hA33 := Ext.refl w26
 have hea34 := hE
 have hz35 := hE.size
 have hlt36 := lte (bl hb8) hn29
 have hE := hE.trans hx31
 have hb8 := eb hx31 hb8
 have hA33 := hA33.trans hx31
 have hb37 := hb30; clear hb30
 have hl38 : n27 < w28.heap.size := by omega
 refine oS rfl (Yk.storeAll (vr (PQ n27 0) rfl) (vr (AB ((lookP y.1 s).1)) rfl) hb37 (by exact idsize (lookP_len y.1 s) List.length_replicate) (by exact sizeId_of (lookP_len y.1 s)) (byteCells_one _) fun w39 hb40 hg41 hs42 => ?_)
 have hE := row_fresh hE hg41 (Nat.le_trans hz35 (by omega))
 have hb8 := kb hg41 hb8 (by omega)
 have hA33 := row_fresh hA33 hg41 (Nat.le_trans (Nat.le_refl _) (by omega))
 clear hb37
 have hb37 := hb40; clear hb40
 have hl43 := bl hb37
 refine oA rfl (oZ (tN (hK20 _ _ (sk fun K44 hK44 => (wt (oS rfl (Yk.loadAll (vr (PQ n2 0) rfl) hb8 (wr54_ty49).choose_spec rfl (st_isz (refs_len y) wr54_isz49) (oM rfl (oS rfl (Yk.callA2 wr54_pl40 (vr (.agg (refsC y).toArray) rfl) T1 (((look_eq y.1 s ▸ refLookF_any _ y (RefsAt.mk (hmt.keep hE) (hmg.keep hE) (hml.keep hE)) hL s hsl)).mono ?_)))))))))))
 rintro e w46 ⟨rfl, hx45⟩
 refine ⟨_, rfl, ?_⟩
 have hE := hE.trans hx45
 have hb8 := eb hx45 hb8
 have hA33 := hA33.trans hx45
 have hb37 := eb hx45 hb37
 refine oM rfl (oS rfl (Yk.extract (vs := [AB ((lookP y.1 s).1), NI ((lookP y.1 s).2)]) (vr (.tuple #[AB ((lookP y.1 s).1), NI ((lookP y.1 s).2)]) rfl) (show _ = some (AB ((lookP y.1 s).1) : Value) from rfl) (oS rfl (Yk.extract (vs := [AB ((lookP y.1 s).1), NI ((lookP y.1 s).2)]) (vr (.tuple #[AB ((lookP y.1 s).1), NI ((lookP y.1 s).2)]) rfl) (show _ = some (NI ((lookP y.1 s).2) : Value) from rfl) (oS rfl (Yk.alloc (cs := (Lib.byteCells (List.replicate 32 0)).toArray) wr54_al25 fun n47 w48 hn49 hb50 hx51 hs52 => ?_))))))
 have hA53 := Ext.refl w46
 have hea54 := hE
 have hea55 := hA33
 have hz56 := hE.size
 have hz57 := hA33.size
 have hlt58 := lte (bl hb8) hn49
 have hlt59 := lte (bl hb37) hn49
 have hE := hE.trans hx51
 have hb8 := eb hx51 hb8
 have hA33 := hA33.trans hx51
 have hb37 := eb hx51 hb37
 have hA53 := hA53.trans hx51
 have hb60 := hb50; clear hb50
 have hl61 : n47 < w48.heap.size := by omega
 refine oS rfl (Yk.storeAll (vr (PQ n47 0) rfl) (vr (AB ((lookP y.1 s).1)) rfl) hb60 (by exact idsize (lookP_len y.1 s) List.length_replicate) (by exact sizeId_of (lookP_len y.1 s)) (byteCells_one _) fun w62 hb63 hg64 hs65 => ?_)
 have hE := row_fresh hE hg64 (Nat.le_trans hz56 (by omega))
 have hb8 := kb hg64 hb8 (by omega)
 have hA33 := row_fresh hA33 hg64 (Nat.le_trans hz57 (by omega))
 have hb37 := kb hg64 hb37 (by omega)
 have hA53 := row_fresh hA53 hg64 (Nat.le_trans (Nat.le_refl _) (by omega))
 clear hb60
 have hb60 := hb63; clear hb63
 have hl66 := bl hb60
 refine oA rfl (oZ (tN (hK44 _ _ (sk fun K67 hK67 => ?_))))
 refine wpF_draw [Is (AB ((lookP y.1 s).1)), Is (AB ((lookP y.1 s).1)), Is (.bool (true)), Is (.bool (true)), Is (NI ((lookP y.1 s).2)), Is (NI ((lookP y.1 s).2)), Is (.bool (true)), Is (.bool (true)), Is (.bool (true)), Is (.agg (refsC y).toArray), fun x w' => ∃ v, x = .agg (refsC (y.1, v)).toArray ∧ RefsAt w' (y.1, v), fun x w' => ∃ o, RG 32 Lib.byteCells w' x o ∧ SAsc o ∧ (∀ q, q ∈ o ↔ q ∈ rootsL y.1 ∧ q ≠ List.replicate 32 0) ∧ o.length ≤ 400, Is (.agg (refsC y).toArray), fun x w' => ∃ o, RG 32 Lib.byteCells w' x o ∧ Asc o ∧ o.Nodup ∧ (∀ q, q ∈ o ↔ q ∈ rootsL y.1 ∧ q ≠ List.replicate 32 0), Is (.bool (true)), Is (.bool (true)), Is (.bool (true)), Is (.bool (true)), Is (.bool (true)), Is (.bool (true))] (by kernel_rfl) [30, 31, 32, 33, 34, 35, 36, 37, 38, 39, 40, 41, 42, 43, 44, 45, 46, 47, 48, 4] (by kernel_rfl) (by kernel_rfl) (si10 ⟨(fun _ _ _ ⟨v, h1, h2⟩ k => ⟨v, h1, h2.keep k⟩), (fun _ _ _ ⟨o, h1, h2⟩ k => ⟨o, h1.keep k, h2⟩), Stab.is _, (fun _ _ _ ⟨o, h1, h2⟩ k => ⟨o, h1.keep k, h2⟩), (si6 trivial)⟩) ?hs1005 ?hQ1005
 case hs1005 =>
  refine ⟨?_, ?_, ?_, ?_, ?_, ?_, ?_, ?_, ?_, ?_, ?_, ?_, ?_, ?_, ?_, ?_, ?_, ?_, ?_, ?_, trivial⟩
  ·refine stepN rfl fun σ w1 hC h => ?_
   have e5 : σ 5 = PQ n27 0 := (eqo (h 5 (by decide))).trans rfl
   exact Yk.loadAll e5 (eb hC hb37) wr54_ty25 rfl (by exact sizeId_of (lookP_len y.1 s)) ⟨Ext.refl _, rfl⟩
  ·refine stepN rfl fun σ w1 hC h => ?_
   have e7 : σ 7 = PQ n47 0 := (eqo (h 7 (by decide))).trans rfl
   exact Yk.loadAll e7 (eb hC hb60) wr54_ty25 rfl (by exact sizeId_of (lookP_len y.1 s)) ⟨Ext.refl _, rfl⟩
  ·refine stepN rfl fun σ w1 hC h => ?_
   have e30 := eqo (h 30 (by decide))
   have e31 := eqo (h 31 (by decide))
   exact Yk.eqArr (l1 := (lookP y.1 s).1) (l2 := (lookP y.1 s).1) wr54_ty25 wr54_ty5 wr54_sz5 wr54_eg25 e30 e31 ((lookP_len y.1 s)) ((lookP_len y.1 s)) ⟨Ext.refl _, (congrArg Value.bool (decide_eq_true (rfl)))⟩
  ·refine stepN rfl fun σ w1 hC h => ?_
   have e32 := eqo (h 32 (by decide))
   exact Yk.move e32 ⟨Ext.refl _, rfl⟩
  ·refine stepY 3 true 33 rfl rfl (fun _ _ h => h) fun σ w1 hC h => ?_
   have e6 : σ 6 = NI ((lookP y.1 s).2) := (eqo (h 6 (by decide))).trans rfl
   exact Yk.move e6 ⟨Ext.refl _, rfl⟩
  ·refine stepY 3 true 33 rfl rfl (fun _ _ h => h) fun σ w1 hC h => ?_
   have e8 : σ 8 = NI ((lookP y.1 s).2) := (eqo (h 8 (by decide))).trans rfl
   exact Yk.move e8 ⟨Ext.refl _, rfl⟩
  ·refine stepY 3 true 33 rfl rfl (fun _ _ h => h) fun σ w1 hC h => ?_
   have e34 := eqo (h 34 (by decide))
   have e35 := eqo (h 35 (by decide))
   exact Yk.eqI (a := ((lookP y.1 s).2 : Nat)) (b := ((lookP y.1 s).2 : Nat)) e34 e35 (k_eql _ _ _ _) ⟨Ext.refl _, (congrArg Value.bool (decide_eq_true (rfl)))⟩
  ·refine stepN rfl fun σ w1 hC h => ?_
   have e33 := eqo (h 33 (by decide))
   have e36 := eqo (h 36 (by decide))
   exact Yk.pickT e33 e36 ⟨Ext.refl _, rfl⟩
  ·refine stepN rfl fun σ w1 hC h => ?_
   have e37 := eqo (h 37 (by decide))
   exact Yk.move e37 ⟨Ext.refl _, rfl⟩
  ·refine stepY 8 true 38 rfl rfl (fun _ _ h => h) fun σ w1 hC h => ?_
   have e2 : σ 2 = PQ n2 0 := (eqo (h 2 (by decide))).trans rfl
   exact Yk.loadAll e2 (eb hC hb8) (wr54_ty49).choose_spec rfl (st_isz (refs_len y) wr54_isz49) ⟨Ext.refl _, rfl⟩
  ·refine stepY 8 true 38 rfl rfl (fun _ _ h => h) fun σ w1 hC h => ?_
   have e39 := eqo (h 39 (by decide))
   refine Yk.callA1 wr54_pl27 e39 ((told20_any _ y (RefsAt.mk (hmt.keep (hE.trans hC)) (hmg.keep (hE.trans hC)) (hml.keep (hE.trans hC))) hc).mono ?_)
   rintro e w2 ⟨z, rfl, hz, hx⟩
   exact ⟨_, rfl, hx, z, rfl, hz⟩
  ·refine stepY 8 true 38 rfl rfl (fun _ _ h => h) fun σ w1 hC h => ?_
   have e40 : (fun x w' => ∃ v, x = .agg (refsC (y.1, v)).toArray ∧ RefsAt w' (y.1, v)) (σ 40) w1 := h 40 (by decide)
   obtain ⟨q, hqe, hq⟩ := e40
   refine Yk.callA1 wr54_pl42 hqe ((roots_any _ (y.1, q) hq hc.1 hc.2.1 hc.2.2).mono ?_)
   rintro e w2 ⟨v, o, rfl, ho, hS, hm, hl_, hx⟩
   exact ⟨_, rfl, hx, o, RG.ofOwn ho, hS, hm, Nat.le_trans hl_ (by show 1 + (y.1.branches.length + y.1.tags.length) + 2 * y.1.log.length ≤ 400; omega)⟩
  ·refine stepY 8 true 38 rfl rfl (fun _ _ h => h) fun σ w1 hC h => ?_
   have e2 : σ 2 = PQ n2 0 := (eqo (h 2 (by decide))).trans rfl
   exact Yk.loadAll e2 (eb hC hb8) (wr54_ty49).choose_spec rfl (st_isz (refs_len y) wr54_isz49) ⟨Ext.refl _, rfl⟩
  ·refine stepY 8 true 38 rfl rfl (fun _ _ h => h) fun σ w1 hC h => ?_
   have e42 := eqo (h 42 (by decide))
   refine Yk.callA1 wr54_pl43 e42 ((refRoots_any _ y (RefsAt.mk (hmt.keep (hE.trans hC)) (hmg.keep (hE.trans hC)) (hml.keep (hE.trans hC))) hc.1 hc.2.1 hc.2.2).mono ?_)
   rintro e w2 ⟨v, o, rfl, ho, hA, hnd, hm, hx⟩
   exact ⟨_, rfl, hx, o, RG.ofOwn ho, hA, hnd, hm⟩
  ·refine stepY 8 true 38 rfl rfl (fun _ _ h => h) fun σ w1 hC h => ?_
   have e41 : (fun x w' => ∃ o, RG 32 Lib.byteCells w' x o ∧ SAsc o ∧ (∀ q, q ∈ o ↔ q ∈ rootsL y.1 ∧ q ≠ List.replicate 32 0) ∧ o.length ≤ 400) (σ 41) w1 := h 41 (by decide)
   have e43 : (fun x w' => ∃ o, RG 32 Lib.byteCells w' x o ∧ Asc o ∧ o.Nodup ∧ (∀ q, q ∈ o ↔ q ∈ rootsL y.1 ∧ q ≠ List.replicate 32 0)) (σ 43) w1 := h 43 (by decide)
   obtain ⟨o1, r1, s1, m1, l1⟩ := e41
   obtain ⟨o2, r2, a2, n2, m2⟩ := e43
   refine Yk.callA2 wr54_pl41 rfl rfl (((show Calls _ _ _ _ (fun e w2 => e = .returned (.bool true) ∧ Ext w1 w2) from by have h_ := refSame_any w1 (σ 41) (σ 43) o1 o2 r1 r2 (by omega); rw [decide_eq_true (same_set s1 m1 a2 n2 m2)] at h_; exact h_)).mono ?_)
   rintro e w2 ⟨rfl, hx⟩
   exact ⟨_, rfl, hx, rfl⟩
  ·refine stepN rfl fun σ w1 hC h => ?_
   have e38 := eqo (h 38 (by decide))
   have e44 := eqo (h 44 (by decide))
   exact Yk.pickT e38 e44 ⟨Ext.refl _, rfl⟩
  ·refine stepN rfl fun σ w1 hC h => ?_
   have e45 := eqo (h 45 (by decide))
   exact Yk.move e45 ⟨Ext.refl _, rfl⟩
  ·refine stepY 16 true 46 rfl rfl (fun _ _ h => h) fun σ w1 hC h => (Yk.callA0 wr54_pl35  ((awake20 _).mono ?_))
   rintro e w2 ⟨rfl, hx⟩
   exact ⟨_, rfl, hx, rfl⟩
  ·refine stepN rfl fun σ w1 hC h => ?_
   have e46 := eqo (h 46 (by decide))
   have e47 := eqo (h 47 (by decide))
   exact Yk.pickT e46 e47 ⟨Ext.refl _, rfl⟩
  ·refine stepN rfl fun σ w1 hC h => ?_
   have e48 := eqo (h 48 (by decide))
   exact Yk.assign e48 ⟨Ext.refl _, rfl⟩
 intro ρ68 w69 hx70 he hf
 obtain ⟨-, -, -, -, -, -, -, -, -, -, -, -, -, -, -, -, -, -, -, k4, -⟩ := hf
 obtain ⟨T0, T1, T2, T5, T6, T7, T8, -⟩ := he.hold [(0, _), (1, _), (2, PQ n2 0), (5, PQ n27 0), (6, NI ((lookP y.1 s).2)), (7, PQ n47 0), (8, NI ((lookP y.1 s).2))] ⟨T0, T1, rfl, rfl, rfl, rfl, rfl, trivial⟩ rfl
 clear he
 have hE := hE.trans hx70
 have hb8 := eb hx70 hb8
 have hA33 := hA33.trans hx70
 have hb37 := eb hx70 hb37
 have hA53 := hA53.trans hx70
 have hb60 := eb hx70 hb60
 have T4 : ρ68 4 = .bool (true) := k4
 clear k4
 refine tN (hK67 _ _ (wpF_ret (postF_ret (fn := Tryd.f12) _ rfl [.bool (true)] (.bool (true)) rfl ⟨T4, trivial⟩ ?_)))
 exact ⟨rfl, hE⟩
end Go.Proofs.YtmonlobfofkbdaaDoor
